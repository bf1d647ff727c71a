/- An abstract machine for the model, its soundness, part 2. No condition. -/
import Derived.Test.YtidooialknbgaaaGreatAbsa
import Derived.Lib.OthersKept
set_option linter.unusedVariables false
set_option linter.unusedSimpArgs false
set_option linter.unnecessarySimpa false
namespace Go.Abs
open Go

section
variable {P : Program}

theorem snd_lookup (T : TypeId) (x y : Operand) (ok : Bool) : Snd P (.lookup T x y ok):=by
 intro g m st tmps w a o ao fr sv ups cond hR ha ho hc he hcond hp
 simp only [comp] at hc
 split at hc
 ·rename_i K V ax ay hu hx hy
  split at hc
  ·rename_i kk d z s b hK hV hz
   split at hc
   ·rename_i hzs
    cases hc
    obtain ⟨i,zv,hi,hzv,hone,_,rfl,_,_⟩:=czero_spec hz
    simp only [zshape,hi,hzv] at hzs
    simp only [eff] at he
    split at he
    ·rename_i id j n h1 h2
     split at he
     ·rename_i agg' kvs hid
      split at he
      ·rename_i hag
       cases he
       subst hag
       have hyv:=one_v (ev_rsv hR ha hy) hp.2.1 h2
       simp only [execOp,ho,hyv]
       exact out_lkp hR hu hK hi hzv hone (fun h=>by rw [h] at hzs;cases zv <;> first | exact ⟨_,rfl⟩ | (simp at hzs;done)) (fun h=>by rw [h] at hzs;cases zv <;> first | (simp at hzs;done) | rfl | exact (by simpa using hzs)) hid ((ev_rsv hR ha hx).one hp.1 h1) ⟨⟨kk,rfl⟩,j,n,rfl⟩ hcond.1 hcond.2
      ·cases he
     ·cases he
    ·cases he
   ·cases hc
  ·cases hc
 ·cases hc

theorem snd_mapUpdate (T : TypeId) (x y z : Operand) : Snd P (.mapUpdate T x y z):=by
 intro g m st tmps w a o ao fr sv ups cond hR ha ho hc he hcond hp
 simp only [comp] at hc
 split at hc
 ·rename_i K V ax ay az hu hx hy hz
  split at hc
  ·rename_i kk hK
   simp only [Option.map_eq_some_iff] at hc
   obtain ⟨d,hd,rfl⟩:=hc
   simp only [eff] at he
   split at he
   ·rename_i id j n cs h1 h2 h3
    split at he
    ·rename_i agg' kvs hid
     split at he
     ·rename_i hag
      cases he
      subst hag
      have hyv:=one_v (ev_rsv hR ha hy) hp.2.1 h2
      have hzs:=ev_rsv hR ha hz
      have hpz : (ev st.sl az).pre:=hp.2.2.1
      simp only [execOp,ho,hyv]
      have key : RL (RC (g.env m st w)) cs (a.eval z).cells.toList∧(if isAggD d then ∃ cs,a.eval z = .agg cs else one (a.eval z) = true):=by
       split at h3
       ·rename_i hag
        split at h3
        ·rename_i cs' hcore
         cases h3
         have:=hzs.core hpz
         rw [hcore] at this
         obtain ⟨vs,hv,hr⟩:=this
         rw [hv,if_pos hag]
         exact ⟨hr,vs,rfl⟩
        ·cases h3
       ·rename_i hag
        simp only [Option.map_eq_some_iff] at h3
        obtain ⟨c,hc1,rfl⟩:=h3
        have:=hzs.one hpz hc1
        rw [if_neg hag,one_cells this.one]
        exact ⟨RL.cons this RL.nil,this.one⟩
      exact out_mup hR hu hK hid ((ev_rsv hR ha hx).one hp.1 h1) ⟨⟨kk,rfl⟩,j,n,rfl⟩ hcond.2 key.1 hcond.1 key.2
     ·cases he
    ·cases he
   ·cases he
  ·cases hc
 ·cases hc

theorem mk1 {α : Type} {xs : Array α} {x : α} (h : xs.toList = [x]) : xs = #[x]:=by
 rw [← Array.toArray_toList (xs:=xs),h]

theorem mk2 {α : Type} {xs : Array α} {x y : α} (h : xs.toList = [x,y]) : xs = #[x,y]:=by
 rw [← Array.toArray_toList (xs:=xs),h]

theorem snd_len {c : Call} (hb : c.callee = .builtin .len) : Snd P (.call c):=by
 intro g m st tmps w a o ao fr sv ups cond hR ha ho hc he hcond hp
 simp only [comp,ccall,hb] at hc
 split at hc
 ·rename_i x T hargs hty
  have ea:=mk1 hargs
  have et:=mk1 hty
  have hx1 : ∀ ty,(do let d ← resolve a.eval c ty;invoke d.target d.args : Sem Next) = (do pure (.value (← Builtin.len_ #[T] ty #[a.eval x])) : Sem Next):=fun ty=>by
   simp [resolve,hb,invoke,builtin,ea,et]
  split at hc
  ·rename_i hu
   simp only [Option.map_eq_some_iff] at hc
   obtain ⟨ax,hx,rfl⟩:=hc
   simp only [eff] at he
   split at he
   ·rename_i s h1
    cases he
    simp only [execOp,ho,hx1,one_v (ev_rsv hR ha hx) hp.1 h1]
    exact out_len hR hu (.inl ⟨rfl,s,rfl,rfl⟩)
   ·cases he
  ·rename_i E hu
   simp only [Option.map_eq_some_iff] at hc
   obtain ⟨ax,hx,rfl⟩:=hc
   simp only [eff] at he
   split at he
   ·rename_i rows h1
    cases he
    simp only [Option.bind_eq_some_iff] at h1
    obtain ⟨c',h1,h2⟩:=h1
    simp only [execOp,ho,hx1]
    exact out_len hR hu (.inr (.inl ⟨⟨E,rfl⟩,slAt_len ((ev_rsv hR ha hx).one hp.1 h1) h2 hR.ent⟩))
   ·cases he
  ·rename_i K V hu
   simp only [Option.map_eq_some_iff] at hc
   obtain ⟨ax,hx,rfl⟩:=hc
   simp only [eff] at he
   split at he
   ·rename_i id h1
    split at he
    ·rename_i agg kvs hid
     cases he
     obtain ⟨agg',kvs',b,h2,hb',hv⟩:=(ev_rsv hR ha hx).one hp.1 h1
     have hE:=hR.ent id _ hid
     rw [show m id = some b from hb'] at hE
     obtain ⟨b2,es,clock,hb2,h3,h4⟩:=hE
     cases hb2
     simp only [execOp,ho,hx1]
     exact out_len hR hu (.inr (.inr ⟨⟨K,V,rfl⟩,b,es,clock,hv,h3,by rw [h4.1];simp⟩))
    ·cases he
   ·cases he
  ·cases hc
 ·cases hc

theorem snd_append {c : Call} (hb : c.callee = .builtin .append) : Snd P (.call c):=by
 intro g m st tmps w a o ao fr sv ups cond hR ha ho hc he hcond hp
 simp only [comp,ccall,hb] at hc
 split at hc
 ·rename_i x y T U hargs hty
  have ea:=mk2 hargs
  have et:=mk2 hty
  have hx1 : ∀ ty,(do let d ← resolve a.eval c ty;invoke d.target d.args : Sem Next) = (do pure (.value (← Builtin.append_ #[T,U] ty #[a.eval x,a.eval y])) : Sem Next):=fun ty=>by
   simp [resolve,hb,invoke,builtin,ea,et]
  split at hc
  ·rename_i E d ax ay hT hU hx hy
   split at hc
   ·rename_i hd
    split at hc
    ·rename_i z s b hz
     split at hc
     ·rename_i hsb
      cases hc
      obtain ⟨i,zv,hi,hzv,hone,hzs,rfl,rfl,rfl⟩:=czero_spec hz
      have hd' : (∃ E',d = .slice E')∨d = .string:=by
       cases d <;> first | (cases hd;done) | exact .inl ⟨_,rfl⟩ | exact .inr rfl
      simp only [eff] at he
      split at he
      ·rename_i cx' cy' hfr h1 h2
       have hxs:=(ev_rsv hR ha hx).one hp.1 h1
       have hys:=(ev_rsv hR ha hy).one hp.2.1 h2
       -- what comes behind
       have hsrc : ∀ new q,srcOf st.σ i.size cy' = some (new,q)→q →
         ∃ news,Src P w.heap i.size (a.eval y) new.length news∧RowsAt (g.env m st w) i.size new news:=by
        intro new q hq hqt
        unfold srcOf at hq
        split at hq
        ·rename_i t
         split at hq
         ·rename_i h1'
          cases hq
          have:=src_of_string (P:=P) (e:=g.env m st w) t
          rw [rc_v hys,h1']
          refine ⟨_,?_,this.2⟩
          have hl : (t.data.toList.map byteRow).length = t.size:=by rw [List.length_map,Array.length_toList];rfl
          rw [hl]
          exact this.1
         ·cases hq
        ·simp only [Option.map_eq_some_iff] at hq
         obtain ⟨r,hr,hq⟩:=hq
         cases hq
         exact src_of_slAt (slAt_of hys hr hqt hR.ent) hqt
       simp only [execOp,ho,hx1]
       split at he
       ·rename_i new q hq
        cases he
        obtain ⟨news,hs1,hs2⟩:=hsrc new q hq hcond.1
        have hv:=rc_v hxs
        rw [hv]
        exact (out_app hR hT hU hd' hi hzv hzs hsb.1 hsb.2 hfr hs1 hs2).1 rfl hcond.2
       ·rename_i id new q hq
        split at he
        ·rename_i E' s' rows hid
         split at he
         ·rename_i hes
          cases he
          obtain ⟨rfl,rfl⟩:=hes
          obtain ⟨news,hs1,hs2⟩:=hsrc new q hq hcond.1
          exact (out_app hR hT hU hd' hi hzv hzs hsb.1 hsb.2 hfr hs1 hs2).2 id rows hid hxs hcond.2
         ·cases he
        ·cases he
       ·rename_i id lo n new q hq
        split at he
        ·rename_i E' s' rows hid
         split at he
         ·rename_i hes
          cases he
          obtain ⟨rfl,rfl⟩:=hes
          obtain ⟨news,hs1,hs2⟩:=hsrc new q hq hcond.1
          exact out_app_win hR hT hU hd' hi hsb.1 hs1 hs2 hid hxs hcond.2.1 hcond.2.2
         ·cases he
        ·cases he
       ·cases he
      ·cases he
     ·cases hc
    ·cases hc
   ·split at hc
    ·rename_i hd
     split at hc
     ·rename_i z s b hz
      split at hc
      ·rename_i hsb
       cases hc
       obtain ⟨i,zv,hi,hzv,hone,hzs,rfl,rfl,rfl⟩:=czero_spec hz
       have hd' : ∃ k,d = .int k:=by
        cases d <;> first | (cases hd;done) | exact ⟨_,rfl⟩
       obtain ⟨k,rfl⟩:=hd'
       simp only [eff] at he
       split at he
       ·rename_i n hfr h1 h2
        cases he
        simp only [execOp,ho,hx1,one_v (ev_rsv hR ha hx) hp.1 h1,one_v (ev_rsv hR ha hy) hp.2.1 h2]
        exact out_appZ hR hT hU hi hzv hone hzs hsb.1 hsb.2 hfr hcond.1 hcond.2
       ·cases he
      ·cases hc
     ·cases hc
    ·cases hc
  ·cases hc
 ·cases hc

theorem snd_cap {c : Call} (hb : c.callee = .builtin .cap) : Snd P (.call c):=by
 intro g m st tmps w a o ao fr sv ups cond hR ha ho hc he hcond hp
 simp only [comp,ccall,hb] at hc
 split at hc
 ·rename_i x T hargs hty
  have ea:=mk1 hargs
  have et:=mk1 hty
  have hx1 : ∀ ty,(do let d ← resolve a.eval c ty;invoke d.target d.args : Sem Next) = (do pure (.value (← Builtin.cap_ #[T] ty #[a.eval x])) : Sem Next):=fun ty=>by
   simp [resolve,hb,invoke,builtin,ea,et]
  split at hc
  ·rename_i E hu
   simp only [Option.map_eq_some_iff] at hc
   obtain ⟨ax,hx,rfl⟩:=hc
   simp only [eff] at he
   split at he
   ·rename_i h1
    cases he
    simp only [execOp,ho,hx1,one_v (ev_rsv hR ha hx) hp.1 h1]
    exact out_quiet_v hR (v:=.int .i64 0) (by simp [Builtin.cap_,run_underlying hu,goInt]) rfl
   ·cases he
  ·cases hc
 ·cases hc

theorem snd_clear {c : Call} (hb : c.callee = .builtin .clear) : Snd P (.call c):=by
 intro g m st tmps w a o ao fr sv ups cond hR ha ho hc he hcond hp
 simp only [comp,ccall,hb] at hc
 split at hc
 ·rename_i x T hargs hty
  have ea:=mk1 hargs
  have et:=mk1 hty
  have hx1 : ∀ ty,(do let d ← resolve a.eval c ty;invoke d.target d.args : Sem Next) = (do pure (.value (← Builtin.clear_ #[T] ty #[a.eval x])) : Sem Next):=fun ty=>by
   simp [resolve,hb,invoke,builtin,ea,et]
  split at hc
  ·rename_i E ax hu hx
   split at hc
   ·rename_i z s b hz
    split at hc
    ·rename_i hs
     cases hc
     obtain ⟨i,zv,hi,hzv,hone,hzs,rfl,rfl,rfl⟩:=czero_spec hz
     simp only [eff] at he
     split at he
     ·rename_i id lo q h1
      split at he
      ·rename_i E' s' rows hid
       split at he
       ·rename_i hss
        cases he
        subst hss
        simp only [execOp,ho,hx1]
        exact out_clr hR hu hi hzv hone hzs hs hid ((ev_rsv hR ha hx).one hp.1 h1) hcond.1 hcond.2
       ·cases he
      ·cases he
     ·cases he
    ·cases hc
   ·cases hc
  ·cases hc
 ·cases hc

theorem snd_mx {c : Call} (b : Bool) (hb : c.callee = .builtin (if b then .max else .min)) : Snd P (.call c):=by
 intro g m st tmps w a o ao fr sv ups cond hR ha ho hc he hcond hp
 have hc' : ∃ x xs,cxs c.args.toList = some (x :: xs)∧ao = AOp.mx b x xs:=by
  cases b <;> simp only [if_true,if_false,Bool.false_eq_true] at hb <;> simp only [comp,ccall,hb] at hc <;> split at hc <;> cases hc <;> exact ⟨_,_,by assumption,rfl⟩
 obtain ⟨x,xs,hx,rfl⟩:=hc'
 ·have hvs:=evs_rsv hR ha hx
  obtain ⟨v,vs,he1,h0,hrest⟩:=hvs.uncons
  have hpx : (ev st.sl x).pre:=hp.1
  have hpm:=presOf_mem hp.2
  have hx1 : ∀ ty,(do let d ← resolve a.eval c ty;invoke d.target d.args : Sem Next) = (do pure (.value (← (if b then Builtin.max_ else Builtin.min_) c.argTypes ty (v :: vs).toArray)) : Sem Next):=fun ty=>by
   have : c.args.map a.eval = (v :: vs).toArray:=by
    rw [← he1,← Array.toList_map]
   cases b <;> simp [resolve,hb,invoke,builtin,this]
  simp only [eff] at he
  split at he
  ·rename_i k n h1
   simp only [Option.map_eq_some_iff] at he
   obtain ⟨r,hr,he⟩:=he
   cases he
   simp only [execOp,ho,hx1]
   refine out_mx hR h0 hpx h1 (xs:=xs.map (ev st.sl)) ⟨by simpa using hrest.1,fun j s v' hs hv'=>?_⟩ (fun s hs=>?_) hr
   ·simp only [List.getElem?_map] at hs
    cases hj : xs[j]? with
    | none=>rw [hj] at hs;cases hs
    | some ax=>rw [hj] at hs;cases hs;exact hrest.2 j ax v' hj hv'
   ·obtain ⟨ax,hax,rfl⟩:=List.mem_map.1 hs
    exact hpm ax hax
  ·cases he

theorem out_rgS {g : Gr} {m : Nat→Option Nat} {st : St} {tmps : Array Value} {w : World} (hR : R g m st tmps w) {T : TypeId} (hT : P.underlying T = some .string) {fr : Nat} (hfr : st.σ fr = none) (s : ByteArray) :
  Out P g st tmps w (do pure (.value (← Instr.range T (.string s)))) (.c (.it fr)) [(fr,.it s 0)]:=by
 have hR':=hR.new (.stringIter s 0) hfr (a:=.it s 0) (w':=w.iter s 0) rfl rfl rfl rfl ⟨w.heap.size,rfl,push_new _ _⟩
 refine ⟨.value (.pointer (some ⟨w.heap.size,0,none⟩)),_,_,w.iter s 0,?_,rfl,hR',s,0,w.heap.size,?_,?_,rfl⟩
 ·rw [Sem.run_bind,run_range_string w T s hT];rfl
 ·show upd _ _ _ _ = _;rw [upd_apply,if_pos rfl]
 ·show upd _ _ _ _ = _;rw [upd_apply,if_pos rfl]

theorem out_nxS {g : Gr} {m : Nat→Option Nat} {st : St} {tmps : Array Value} {w : World} (hR : R g m st tmps w) {ty : TypeId} {id : Nat} {s : ByteArray} {pos : Nat} (hid : st.σ id = some (.it s pos)) {v : Value} (hv : RC (g.env m st w) (.it id) v) :
  (¬ pos < s.size→Out P g st tmps w (do pure (.value (← Instr.next v true ty))) (.tup [.c (.v (.bool false))]) []) ∧
  (∀ h : pos < s.size,(s[pos]'h).toNat < 128→Out P g st tmps w (do pure (.value (← Instr.next v true ty))) (.tup [.c (.v (.bool true)),.c (.v (.int .i64 pos)),.c (.v (.int .i32 (s[pos]'h).toNat))]) [(id,.it s (pos + 1))]):=by
 obtain ⟨s',pos',b,h1,hb,rfl⟩:=hv
 have hm : m id = some b:=hb
 have hE:=hR.ent id _ hid
 rw [hm] at hE
 obtain ⟨b',hb',h2⟩:=hE
 cases hb'
 have h2' : w.heap[b]? = some (.stringIter s pos):=h2
 have hbl : b < w.heap.size:=heap_lt h2'
 refine ⟨fun h=>?_,fun h ha=>?_⟩
 ·exact Out.quiet hR (Go.Lib.run_next_end_at w b s pos ty h2' h) ⟨_,rfl,RL.cons (show RSV1 _ (.c (.v _)) _ from RD.v _ rfl) RL.nil⟩
 ·have ho : ∀ j,j≠b→(w.heap.setIfInBounds b (.stringIter s (pos + 1)))[j]? = w.heap[j]?:=fun j hj=>Array.getElem?_setIfInBounds_ne (by omega)
  have hcc : ∀ cur E,w.heap[b]? = some (.cells cur E (0,0))→∃ cur',(w.heap.setIfInBounds b (.stringIter s (pos + 1)))[b]? = some (.cells cur' E (0,0))∧cur'.size = cur.size:=fun cur E hc=>by rw [h2'] at hc;cases hc
  have hR':=hR.write (a':=.it s (pos + 1)) hid rfl hm (show EntLe (.it s pos) (.it s (pos + 1)) from rfl) (w':=w.iterAt b s (pos + 1)) (by simp [World.iterAt]) ho hcc rfl rfl rfl
   ⟨b,rfl,Go.Lib.iterAt_heap w b s pos (pos + 1) h2'⟩
  refine ⟨.value (.tuple #[.bool true,.int .i64 pos,.int .i32 (s[pos]'h).toNat]),_,m,w.iterAt b s (pos + 1),?_,rfl,hR',?_⟩
  ·rw [Sem.run_bind,Go.Lib.run_next_ascii_at w b s pos ty h2' h ha];rfl
  ·exact ⟨_,rfl,RL.cons (show RSV1 _ (.c (.v _)) _ from RD.v _ rfl) (RL.cons (show RSV1 _ (.c (.v _)) _ from RD.v _ rfl) (RL.cons (show RSV1 _ (.c (.v _)) _ from RD.v _ rfl) RL.nil))⟩

theorem snd_range (T : TypeId) (x : Operand) : Snd P (.range T x):=by
 intro g m st tmps w a o ao fr sv ups cond hR ha ho hc he hcond hp
 simp only [comp] at hc
 split at hc
 ·rename_i hu
  simp only [Option.map_eq_some_iff] at hc
  obtain ⟨ax,hx,rfl⟩:=hc
  simp only [eff] at he
  split at he
  ·rename_i s h1 h2
   cases he
   simp only [execOp,ho,one_v (ev_rsv hR ha hx) hp.1 h1]
   exact out_rgS hR hu h2 s
  ·cases he
 ·cases hc
theorem snd_next (x : Operand) (b : Bool) : Snd P (.next x b):=by
 intro g m st tmps w a o ao fr sv ups cond hR ha ho hc he hcond hp
 cases b with
 | false=>simp [comp] at hc
 | true =>
  simp only [comp,Option.map_eq_some_iff] at hc
  obtain ⟨ax,hx,rfl⟩:=hc
  simp only [eff] at he
  split at he
  ·rename_i id h1
   split at he
   ·rename_i s pos hid
    have hN:=out_nxS (P:=P) (ty:=o.type) hR hid ((ev_rsv hR ha hx).one hp.1 h1)
    split at he
    ·rename_i hd
     cases he
     have hn : ¬ pos < s.size:=fun hlt=>by
      have : s.data[pos]? = some (s.data[pos]'hlt):=Array.getElem?_eq_getElem hlt
      rw [this] at hd;cases hd
     simp only [execOp,ho]
     exact hN.1 hn
    ·rename_i c hd
     cases he
     obtain ⟨hlt,hcv⟩:=Array.getElem?_eq_some_iff.1 hd
     have hlt' : pos < s.size:=hlt
     have e : s[pos]'hlt' = c:=hcv
     have:=hN.2 hlt' (by rw [e];exact hcond.1)
     rw [e] at this
     simp only [execOp,ho]
     exact this
   ·cases he
  ·cases he

theorem snd_all (op : Op) (hcall : ∀ c f,op = .call c→c.callee = .value f→False) : Snd P op:=by
 cases op with
 | move x=>exact (snd_move x).1
 | assign x=>exact (snd_move x).2
 | pick c a b=>exact snd_pick c a b
 | alloc E=>exact snd_alloc E
 | box E v=>exact snd_box E v
 | build t ps=>exact snd_build t ps
 | buildSlice t n ps=>exact snd_buildSlice t n ps
 | load t x=>exact snd_load t x
 | store t x y=>exact snd_store t x y
 | binOp op T x y U=>exact snd_binOp op T x y U
 | unOp op T x=>exact snd_unOp op T x
 | convert s d x=>exact snd_convert s d x
 | makeFunc f a b=>exact snd_makeFunc f a b
 | makeMap t r=>exact snd_makeMap t r
 | makeSlice t x y=>exact snd_makeSlice t x y
 | slice t x lo hi mx=>exact snd_slice t x lo hi mx
 | fieldAddr s x f=>exact snd_fieldAddr s x f
 | field t x f=>exact snd_field t x f
 | indexAddr t x i=>exact snd_indexAddr t x i
 | index t x i=>exact snd_index t x i
 | lookup t x k ok=>exact snd_lookup t x k ok
 | mapUpdate t x k v=>exact snd_mapUpdate t x k v
 | extract x i=>exact snd_extract x i
 | nilCheck x=>exact snd_nilCheck x
 | range T x=>exact snd_range T x
 | next x b=>exact snd_next x b
 | call c =>
  cases hcl : c.callee with
  | value f=>exact (hcall c f rfl hcl).elim
  | invoke r n=>intro g m st tmps w a o ao fr sv ups cond hR ha ho hc;simp [comp,ccall,hcl] at hc
  | builtin b =>
   cases b <;> first
    | exact snd_len hcl
    | exact snd_append hcl
    | exact snd_cap hcl
    | exact snd_clear hcl
    | exact snd_mx true hcl
    | exact snd_mx false hcl
    | (intro g m st tmps w a o ao fr sv ups cond hR ha ho hc;simp [comp,ccall,hcl] at hc;done)
 | _=>intro g m st tmps w a o ao fr sv ups cond hR ha ho hc;simp [comp] at hc

end
end Go.Abs

namespace Go.Abs
open Go

def TrC0 (σ : Nat→Option Ent) (ids views : List Nat) : C→C→Prop
 | .v x,.v y=>x = y
 | .v x,.sl rows=>x = .slice none 0 0∧rows = []
 | .sl r,.sl r'=>r = r'
 | .osl id,.sl rows=>id ∈ views∧∃ E s fz,σ id = some (.arr E s rows fz)∧isDRows rows
 | .osl id,.osl k=>ids[k]? = some id
 | .bp id o,.bp k o'=>ids[k]? = some id∧o = o'
 | .ep id i o,.ep k i' o'=>ids[k]? = some id∧i = i'∧o = o'
 | .mp id,.mp k=>ids[k]? = some id
 | .rp cs,.rp cs'=>cs = cs'
 | _,_=>False

def TrL {α β : Type} (T : α→β→Prop) : List α→List β→Prop
 | [],[]=>True
 | x :: xs,y :: ys=>T x y∧TrL T xs ys
 | _,_=>False

def TrC (σ : Nat→Option Ent) (ids views : List Nat) : C→C→Prop
 | .fn f caps,.fn f' caps'=>f = f'∧TrL (TrC0 σ ids views) caps caps'
 | x,y=>TrC0 σ ids views x y

def TrSV (σ : Nat→Option Ent) (ids views : List Nat) : SV→SV→Prop
 | .c x,.c y=>TrC σ ids views x y
 | .agg xs,.agg ys=>TrL (TrC σ ids views) xs ys
 | .opt g x,y=>g = true∧TrSV σ ids views x y
 | _,_=>False

def TrEnt (σ : Nat→Option Ent) (ids views : List Nat) : Ent→Ent→Prop
 | .box cs,.box cs'=>TrL (TrC σ ids views) cs cs'
 | .arr E s rows fz,.arr E' s' rows' fz'=>E = E'∧s = s'∧rows = rows'∧fz = fz'∧fz = false∧isDRows rows
 | .mp a kvs,.mp a' kvs'=>a = a'∧kvs = kvs'
 | _,_=>False

theorem TrL.rl {α β : Type} {T : α→β→Prop} : ∀ {xs : List α} {ys : List β},TrL T xs ys→RL T xs ys
 | [],[],_=>RL.nil
 | x :: xs,y :: ys,h=>RL.cons h.1 (TrL.rl h.2)
 | [],_ :: _,h=>h.elim
 | _ :: _,[],h=>h.elim

theorem RL.trans {α β γ : Type} {S : α→β→Prop} {T : α→γ→Prop} {U : β→γ→Prop} {xs : List α} {ys : List β} {zs : List γ} (h : RL S xs ys) (h' : RL T xs zs) (hu : ∀ x y z,S x y→T x z→U y z) : RL U ys zs :=
 ⟨h.1.symm.trans h'.1,fun j y z hy hz=>by
  have hj : j < xs.length:=by
   rcases Nat.lt_or_ge j ys.length with h1 | h1
   ·rw [h.1];exact h1
   ·rw [List.getElem?_eq_none h1] at hy;cases hy
  have hx : xs[j]? = some xs[j]:=List.getElem?_eq_getElem hj
  exact hu _ _ _ (h.2 j _ y hx hy) (h'.2 j _ z hx hz)⟩

def stOf (args : List SV) (objs : List Ent) : St:={ sl:=fun t=>args.getD t .dead,σ:=fun i=>objs[i]? }

def groundOf (ok0 : Nat→Prop) (m : Nat→Option Nat) (objs : List Ent) (w : World) : Gr:={ ok0,wr:=fun b=>∃ i,i < objs.length∧m i = some b,w0:=w,m0:=m,σ0:=fun i=>objs[i]? }

def Con (P : Program) (f : FuncId) (args : List SV) (objs : List Ent) (res : SV) (out : List Ent) : Prop :=
 okFunc P f = true∧objs.length≤out.length∧∀ (ok0 : Nat→Prop) (m : Nat→Option Nat) (w : World) (vs : Array Value),vs.size = args.length→R (groundOf ok0 m objs w) m (stOf args objs) vs w →
  Calls P f vs w fun e w'=>∃ v m',e = .returned v∧R (groundOf ok0 m objs w) m' { sl:=fun _=>.dead,σ:=fun i=>out[i]? } #[] w' ∧
   RSV ((groundOf ok0 m objs w).env m' { sl:=fun _=>.dead,σ:=fun i=>out[i]? } w') res v

def rn (ids : List Nat) (fr k : Nat) : Nat:=match ids[k]? with
 | some id=>id
 | none=>fr + (k - ids.length)

def renC0 (ids : List Nat) (fr : Nat) : C→C
 | .osl k=>.osl (rn ids fr k)
 | .bp k o=>.bp (rn ids fr k) o
 | .ep k i o=>.ep (rn ids fr k) i o
 | .ow k lo n=>.ow (rn ids fr k) lo n
 | .mp k=>.mp (rn ids fr k)
 | .it k=>.it (rn ids fr k)
 | x=>x

def renC (ids : List Nat) (fr : Nat) : C→C
 | .fn f caps=>.fn f (caps.map (renC0 ids fr))
 | x=>renC0 ids fr x

def renSV1 (ids : List Nat) (fr : Nat) : SV→SV
 | .c x=>.c (renC ids fr x)
 | .agg xs=>.agg (xs.map (renC ids fr))
 | x=>x

def renSV (ids : List Nat) (fr : Nat) : SV→SV
 | .tup vs=>.tup (vs.map (renSV1 ids fr))
 | x=>renSV1 ids fr x

def renEnt (ids : List Nat) (fr : Nat) : Ent→Ent
 | .box cs=>.box (cs.map (renC ids fr))
 | x=>x

def Ent.pure : Ent→Prop
 | .arr _ _ rows _=>isDRows rows
 | _=>True

section
variable {P : Program} {g : Gr} {m : Nat→Option Nat} {st : St} {tmps : Array Value} {w : World} {ids views : List Nat}

def calleeOk (g : Gr) (m : Nat→Option Nat) (st : St) (w : World) (ids views : List Nat) (b : Nat) : Prop :=
 b < w.heap.size∧(¬ ∃ (k id : Nat),ids[k]? = some id∧m id = some b)∧((g.env m st w).ok b∨∃ id,id ∈ views∧m id = some b)

def calleeM (m : Nat→Option Nat) (ids : List Nat) (k : Nat) : Option Nat:=(ids[k]?).bind m

theorem calleeM_some {k b : Nat} (h : calleeM m ids k = some b) : ∃ id,ids[k]? = some id∧m id = some b:=by
 unfold calleeM at h
 cases hk : ids[k]? with
 | none=>rw [hk] at h;cases h
 | some id=>rw [hk] at h;exact ⟨id,rfl,h⟩

def calleeEnv (g : Gr) (m : Nat→Option Nat) (st : St) (w : World) (ids views : List Nat) (args : List SV) (objs : List Ent) : Env :=
 (groundOf (calleeOk g m st w ids views) (calleeM m ids) objs w).env (calleeM m ids) (stOf args objs) w

variable {args : List SV} {objs : List Ent}

structure Handed (st : St) (ids views : List Nat) (objs : List Ent) : Prop where
 ents : ∀ (k id : Nat),ids[k]? = some id→∃ e e',st.σ id = some e∧objs[k]? = some e'∧TrEnt st.σ ids views e e'
 len : ids.length = objs.length
 nodup : ids.Nodup
 disj : ∀ id,id ∈ views→id ∉ ids
 views : ∀ id,id ∈ views→∃ E s rows fz,st.σ id = some (.arr E s rows fz)

theorem trEnt_mut {σ : Nat→Option Ent} {e e' : Ent} (h : TrEnt σ ids views e e') : e.mut = e'.mut∧e≠.gone∧e'≠.gone∧e.mut = true:=by
 cases e <;> cases e' <;> first | (exact h.elim;done) | skip
 ·exact ⟨rfl,by simp,by simp,rfl⟩
 ·obtain ⟨rfl,rfl,rfl,rfl,rfl,_⟩:=h;exact ⟨rfl,by simp,by simp,rfl⟩
 ·exact ⟨rfl,by simp,by simp,rfl⟩

theorem objs_get (hh : Handed st ids views objs) {k : Nat} {e' : Ent} (h : objs[k]? = some e') : ∃ id e,ids[k]? = some id∧st.σ id = some e∧TrEnt st.σ ids views e e':=by
 have hk : k < ids.length:=by
  rw [hh.len]
  rcases Nat.lt_or_ge k objs.length with h1 | h1
  ·exact h1
  ·rw [List.getElem?_eq_none h1] at h;cases h
 have hid : ids[k]? = some ids[k]:=List.getElem?_eq_getElem hk
 obtain ⟨e,e2,h1,h2,h3⟩:=hh.ents k _ hid
 rw [h] at h2;cases h2
 exact ⟨_,e,hid,h1,h3⟩

theorem calleeEnv_ok (hR : R g m st tmps w) (hh : Handed st ids views objs) {b : Nat} (hb : (g.env m st w).ok b∨((∃ id,id ∈ views∧m id = some b)∧b < w.heap.size)) : (calleeEnv g m st w ids views args objs).ok b:=by
 have hlt : b < w.heap.size:=by rcases hb with h | h;exact h.2.1;exact h.2
 have hno : ∀ (k id : Nat),ids[k]? = some id→∀ e,st.σ id = some e→e.mut = true→m id≠some b:=by
  intro k id hid e he hm hmb
  rcases hb with h | ⟨⟨id',h1,h2⟩,_⟩
  ·exact h.2.2 id e he hm hmb
  ·obtain ⟨E,s,rows,fz,hv⟩:=hh.views id' h1
   have:=hR.inj id id' e _ b he hv hm (by simp) hmb h2
   subst this
   exact hh.disj _ h1 (List.mem_of_getElem? hid)
 refine ⟨?_,hlt,fun k e' he hm hmb=>?_⟩
 ·by_cases hw : ∃ (k id : Nat),ids[k]? = some id∧m id = some b
  ·obtain ⟨k,id,h1,h2⟩:=hw
   refine .inl (.inr ⟨k,?_,?_⟩)
   ·rw [← hh.len]
    rcases Nat.lt_or_ge k ids.length with h | h
    ·exact h
    ·rw [List.getElem?_eq_none h] at h1;cases h1
   ·simp [calleeM,h1,h2]
  ·exact .inl (.inl ⟨hlt,hw,hb.imp id fun h=>h.1⟩)
 ·obtain ⟨id,h1,h2⟩:=calleeM_some hmb
  have he' : objs[k]? = some e':=he
  obtain ⟨id2,e,h3,h4,h5⟩:=objs_get hh he'
  rw [h1] at h3;cases h3
  exact hno k id h1 e h4 (by rw [(trEnt_mut h5).1];exact hm) h2

theorem rd_callee (hR : R g m st tmps w) (hh : Handed st ids views objs) {c : C} {v : Value} (h : RD (g.env m st w).h (g.env m st w).ok c v) : RD (calleeEnv g m st w ids views args objs).h (calleeEnv g m st w ids views args objs).ok c v :=
 h.mono (fun _ hb=>calleeEnv_ok hR hh (.inl hb)) (fun _ _=>rfl)

theorem view_rd (hR : R g m st tmps w) (hh : Handed st ids views objs) {id : Nat} {E : TypeId} {s : Nat} {rows : List (List C)} {fz : Bool} (hv : id ∈ views) (hid : st.σ id = some (.arr E s rows fz)) (hd : isDRows rows) {v : Value} (hc : RC (g.env m st w) (.osl id) v) :
  RD (calleeEnv g m st w ids views args objs).h (calleeEnv g m st w ids views args objs).ok (.sl rows) v:=by
 obtain ⟨a,ha,hc⟩:=hc
 have ha' : st.σ id = some a:=ha
 rw [hid] at ha';cases ha'
 have hE:=hR.ent id _ hid
 simp only at hc
 split at hc
 ·rename_i hm
  rw [show m id = none from hm] at hE
  obtain ⟨_,_,⟨_,rfl⟩ | ⟨_,_,_,h,_⟩⟩:=hE
  ·subst hc;exact .nil
  ·cases h
 ·rename_i b hm
  have hm' : m id = some b:=hm
  obtain ⟨cur,cap,h1,h2,rfl⟩:=hc
  rw [hm'] at hE
  obtain ⟨h0,h4,h' | ⟨b',cur',cap',h',g1,g2,g3,g4,g5⟩⟩:=hE
  ·cases h'.1
  ·cases h'
   rw [h1] at g1;cases g1
   have hcap : cap = cap':=Nat.eq_of_mul_eq_mul_right h0 (by omega)
   subst hcap
   have h1' : w.heap[b]? = some (.cells cur E (0,0)):=h1
   refine .sl rows s b 0 cap (fun i j=>(cur[i * s + j]?).getD undef) (calleeEnv_ok hR hh (.inr ⟨⟨id,hv,hm'⟩,heap_lt h1'⟩)) h4 (fun i r j c k1 k2=>?_) (fun i r j c k1 k2=>?_) g3
   ·obtain ⟨x,hx,_⟩:=g5 i r j c k1 k2
    rw [cellAt_of (show (calleeEnv g m st w ids views args objs).h[b]? = _ from h1'),Nat.zero_add];simp [hx]
   ·obtain ⟨x,hx,hxr⟩:=g5 i r j c k1 k2
    simp only [hx,Option.getD_some]
    exact rd_callee hR hh (isDRows_rd hd k1 k2 hxr)

theorem callee_m {k id : Nat} (h : ids[k]? = some id) : (calleeEnv g m st w ids views args objs).m k = m id:=by
 show calleeM m ids k = m id
 simp [calleeM,h]

theorem rc0_callee (hR : R g m st tmps w) (hh : Handed st ids views objs) {c c' : C} {v : Value} (ht : TrC0 st.σ ids views c c') (h : RC0 (g.env m st w) c v) : RC0 (calleeEnv g m st w ids views args objs) c' v:=by
 have key : ∀ (k id : Nat),ids[k]? = some id→∃ e e',st.σ id = some e∧(calleeEnv g m st w ids views args objs).σ k = some e'∧TrEnt st.σ ids views e e':=fun k id hk=>hh.ents k id hk
 cases c with
 | v x =>
  cases c' <;> first | (exact ht.elim;done) | skip
  ·have hx : x = _:=ht
   subst hx
   exact rd_callee hR hh h
  ·obtain ⟨h1,h2⟩:=ht
   subst h1;subst h2
   rw [rd_v (show RD _ _ (.v _) v from h)]
   exact RD.nil
 | sl rows =>
  cases c' <;> first | (exact ht.elim;done) | skip
  have hx : rows = _:=ht
  subst hx
  exact rd_callee hR hh h
 | osl id =>
  cases c' <;> first | (exact ht.elim;done) | skip
  ·obtain ⟨h1,E,s,fz,h2,h3⟩:=ht
   exact view_rd hR hh h1 h2 h3 h
  ·rename_i k
   have hk : ids[k]? = some id:=ht
   obtain ⟨e,e',h1,h2,h3⟩:=key k id hk
   obtain ⟨a,ha,h⟩:=h
   have ha' : st.σ id = some a:=ha
   rw [h1] at ha';cases ha'
   refine ⟨e',h2,?_⟩
   cases e <;> cases e' <;> first | (exact h3.elim;done) | (exact h.elim;done) | skip
   obtain ⟨rfl,rfl,rfl,rfl,_,_⟩:=h3
   simp only [callee_m hk]
   exact h
 | bp id o =>
  cases c' <;> first | (exact ht.elim;done) | skip
  rename_i k o'
  obtain ⟨hk,rfl⟩:=ht
  obtain ⟨e,e',h1,h2,h3⟩:=key k id hk
  obtain ⟨cs,b,h4,h5,rfl⟩:=h
  have h4' : st.σ id = some (.box cs):=h4
  rw [h1] at h4';cases h4'
  cases e' <;> first | (exact h3.elim;done) | skip
  exact ⟨_,b,h2,by rw [callee_m hk];exact h5,rfl⟩
 | ep id i o =>
  cases c' <;> first | (exact ht.elim;done) | skip
  rename_i k i' o'
  obtain ⟨hk,rfl,rfl⟩:=ht
  obtain ⟨e,e',h1,h2,h3⟩:=key k id hk
  obtain ⟨a,ha,h⟩:=h
  have ha' : st.σ id = some a:=ha
  rw [h1] at ha';cases ha'
  refine ⟨e',h2,?_⟩
  cases e <;> cases e' <;> first | (exact h3.elim;done) | (exact h.elim;done) | skip
  obtain ⟨rfl,rfl,rfl,rfl,_,_⟩:=h3
  simp only [callee_m hk]
  exact h
 | ow id lo n=>cases c' <;> exact ht.elim
 | rp cs =>
  cases c' <;> first | (exact ht.elim;done) | skip
  have hx : cs = _:=ht
  subst hx
  obtain ⟨b,off,h1,h2,h3⟩:=h
  exact ⟨b,off,calleeEnv_ok hR hh (.inl h1),h2,fun j c hj=>by obtain ⟨x,hx,hr⟩:=h3 j c hj;exact ⟨x,hx,rd_callee hR hh hr⟩⟩
 | fn f caps=>exact h.elim
 | mp id =>
  cases c' <;> first | (exact ht.elim;done) | skip
  rename_i k
  have hk : ids[k]? = some id:=ht
  obtain ⟨e,e',h1,h2,h3⟩:=key k id hk
  obtain ⟨agg,kvs,b,h4,h5,rfl⟩:=h
  have h4' : st.σ id = some (.mp agg kvs):=h4
  rw [h1] at h4';cases h4'
  cases e' <;> first | (exact h3.elim;done) | skip
  exact ⟨_,_,b,h2,by rw [callee_m hk];exact h5,rfl⟩
 | it id=>cases c' <;> exact ht.elim

theorem rc_callee (hR : R g m st tmps w) (hh : Handed st ids views objs) {c c' : C} {v : Value} (ht : TrC st.σ ids views c c') (h : RC (g.env m st w) c v) : RC (calleeEnv g m st w ids views args objs) c' v:=by
 by_cases hc : ∀ f caps,c≠.fn f caps
 ·have hc' : ∀ f caps,c'≠.fn f caps:=by
   rintro f caps rfl
   cases c <;> first | exact (hc _ _ rfl).elim | exact ht.elim
  have ht' : TrC0 st.σ ids views c c':=by
   cases c <;> first | exact (hc _ _ rfl).elim | exact ht
  exact (RC_iff0 hc').2 (rc0_callee hR hh ht' ((RC_iff0 hc).1 h))
 ·cases c with
  | fn f caps =>
   cases c' with
   | fn f' caps' =>
    obtain ⟨rfl,ht⟩:=ht
    obtain ⟨vs,rfl,h⟩:=h
    exact ⟨vs,rfl,(TrL.rl ht).trans h fun x y z h1 h2=>rc0_callee hR hh h1 h2⟩
   | _=>exact ht.elim
  | _=>exact absurd (by intro f caps;simp) hc

theorem rsv_callee (hR : R g m st tmps w) (hh : Handed st ids views objs) {v : Value} : ∀ {s s' : SV},TrSV st.σ ids views s s'→RSV (g.env m st w) s v→RSV (calleeEnv g m st w ids views args objs) s' v
 | .c x,s',ht,h=>by
  cases s' with
  | c y=>exact rc_callee hR hh ht h
  | _=>exact ht.elim
 | .agg xs,s',ht,h=>by
  cases s' with
  | agg ys =>
   obtain ⟨vs,rfl,h⟩:=h
   exact ⟨vs,rfl,(TrL.rl ht).trans h fun x y z h1 h2=>rc_callee hR hh h1 h2⟩
  | _=>exact ht.elim
 | .opt _ x,s',ht,h=>rsv_callee hR hh (s:=x) ht.2 (h.1 ht.1)
 | .dead,s',ht,_=>by cases s' <;> exact ht.elim
 | .tup _,s',ht,_=>by cases s' <;> exact ht.elim

theorem rent_callee (hR : R g m st tmps w) (hh : Handed st ids views objs) {e e' : Ent} {mb : Option Nat} (ht : TrEnt st.σ ids views e e') (h : REnt (g.env m st w) mb e) : REnt (calleeEnv g m st w ids views args objs) mb e':=by
 cases e <;> cases e' <;> first | (exact ht.elim;done) | skip
 ·obtain ⟨b,cur,T,rfl,h1,h2⟩:=h
  exact ⟨b,cur,T,rfl,h1,(TrL.rl ht).trans h2 fun x y z h1 h2=>rc_callee hR hh h1 h2⟩
 ·obtain ⟨rfl,rfl,rfl,rfl,_,hd⟩:=ht
  obtain ⟨h0,h1,h⟩:=h
  refine ⟨h0,h1,?_⟩
  rcases h with h | ⟨b,cur,cap,rfl,g1,g2,g3,g4,g5⟩
  ·exact .inl h
  ·exact .inr ⟨b,cur,cap,rfl,g1,g2,g3,g4,fun i r j c k1 k2=>by
    obtain ⟨x,hx,hr⟩:=g5 i r j c k1 k2
    exact ⟨x,hx,(rd_callee hR hh (isDRows_rd hd k1 k2 hr)).rc⟩⟩
 ·obtain ⟨rfl,rfl⟩:=ht
  obtain ⟨b,es,clock,rfl,h1,h2⟩:=h
  exact ⟨b,es,clock,rfl,h1,h2.imp fun _ _ _ hh'=>⟨hh'.1,hh'.2.1,hh'.2.2.imp fun _ _ _ h=>rd_callee hR hh h⟩⟩

theorem R_callee (hR : R g m st tmps w) (hh : Handed st ids views objs) {vs : Array Value} {sargs : List SV} (ht : TrL (TrSV st.σ ids views) sargs args) (hv : RL (RSV (g.env m st w)) sargs vs.toList) :
  R (groundOf (calleeOk g m st w ids views) (calleeM m ids) objs w) (calleeM m ids) (stOf args objs) vs w:=by
 refine ⟨Frame0.refl _ _,fun t=>?_,fun k e' he=>?_,fun k e' b he hg hb=>?_,fun k k' e e' b he he' hm hg hb hb'=>?_,fun b hb=>⟨hb.1,?_⟩,fun k e0 hk=>⟨e0,hk,EntLe.refl _,fun _=>⟨rfl,fun E s rows fz b cur _ _ hc=>⟨cur,hc,rfl⟩⟩⟩⟩
 ·have hrl:=(TrL.rl ht).trans hv fun x y z h1 h2=>rsv_callee (args:=args) hR hh h1 h2
  show RSV (calleeEnv g m st w ids views args objs) (args.getD t .dead) _
  rcases Nat.lt_or_ge t args.length with hl | hl
  ·obtain ⟨v,h1,h2⟩:=hrl.get (List.getElem?_eq_getElem hl)
   have : vs.getD t undef = v:=by
    simp only [Array.getElem?_toList] at h1
    simp [Array.getD_eq_getD_getElem?,h1]
   rw [this]
   simpa [List.getD,List.getElem?_eq_getElem hl] using h2
  ·simp [List.getD,List.getElem?_eq_none hl]
   trivial
 ·have he2 : objs[k]? = some e':=he
  obtain ⟨id,e,h1,h2,h3⟩:=objs_get hh he2
  have : calleeM m ids k = m id:=by simp [calleeM,h1]
  rw [this]
  exact rent_callee hR hh h3 (hR.ent id e h2)
 ·have he2 : objs[k]? = some e':=he
  obtain ⟨id,e,h1,h2,h3⟩:=objs_get hh he2
  obtain ⟨id',h4,h5⟩:=calleeM_some hb
  rw [h1] at h4;cases h4
  refine ⟨(hR.place id e b h2 (trEnt_mut h3).2.1 h5).1,.inr ⟨k,?_,hb⟩⟩
  rcases Nat.lt_or_ge k objs.length with h | h
  ·exact h
  ·rw [List.getElem?_eq_none h] at he2;cases he2
 ·have he2 : objs[k]? = some e:=he
  have he2' : objs[k']? = some e':=he'
  obtain ⟨id,x,h1,h2,h3⟩:=objs_get hh he2
  obtain ⟨id',x',h1',h2',h3'⟩:=objs_get hh he2'
  obtain ⟨i,h4,h5⟩:=calleeM_some hb
  obtain ⟨i',h4',h5'⟩:=calleeM_some hb'
  rw [h1] at h4;cases h4
  rw [h1'] at h4';cases h4'
  have:=hR.inj id id' x x' b h2 h2' (by rw [(trEnt_mut h3).1];exact hm) (trEnt_mut h3').2.1 h5 h5'
  subst this
  have hk : k < ids.length:=by
   rcases Nat.lt_or_ge k ids.length with h | h
   ·exact h
   ·rw [List.getElem?_eq_none h] at h1;cases h1
  have hk' : k' < ids.length:=by
   rcases Nat.lt_or_ge k' ids.length with h | h
   ·exact h
   ·rw [List.getElem?_eq_none h] at h1';cases h1'
  rw [List.getElem?_eq_getElem hk] at h1
  rw [List.getElem?_eq_getElem hk'] at h1'
  simp only [Option.some.injEq] at h1 h1'
  exact (List.getElem_inj hh.nodup).1 (h1.trans h1'.symm)
 ·rintro ⟨k,_,hk⟩
  obtain ⟨id,h1,h2⟩:=calleeM_some hk
  exact hb.2.1 ⟨k,id,h1,h2⟩

end
end Go.Abs

namespace Go.Abs
open Go

def backUps (σ : Nat→Option Ent) (ids views : List Nat) (fr : Nat) (out : List Ent) : List (Nat × Ent) :=
 (ids.zip out).map (fun p=>(p.1,renEnt ids fr p.2)) ++ ((out.drop ids.length).zipIdx.map fun p=>(fr + p.2,renEnt ids fr p.1)) ++
  views.filterMap (fun id=>match σ id with | some (.arr E s rows _)=>some (id,.arr E s rows true) | _=>none)

theorem updσ_not (id : Nat) : ∀ (l : List (Nat × Ent)) (σ : Nat→Option Ent),(∀ p ∈ l,p.1≠id)→updσ σ l id = σ id
 | [],_,_=>rfl
 | p :: l,σ,h=>by
  show updσ (upd σ p.1 (some p.2)) l id = σ id
  rw [updσ_not id l _ (fun q hq=>h q (by simp [hq])),upd_apply,if_neg (fun e=>h p (by simp) e.symm)]

theorem updσ_mem (id : Nat) (e : Ent) : ∀ (l : List (Nat × Ent)) (σ : Nat→Option Ent),(id,e) ∈ l→(∀ e',(id,e') ∈ l→e' = e)→updσ σ l id = some e
 | [],_,h,_=>by cases h
 | p :: l,σ,h,hu=>by
  show updσ (upd σ p.1 (some p.2)) l id = some e
  by_cases hl : ∃ e',(id,e') ∈ l
  ·obtain ⟨e',he'⟩:=hl
   have:=hu e' (by simp [he'])
   subst this
   exact updσ_mem id e' l _ he' fun e'' h''=>hu e'' (by simp [h''])
  ·rw [updσ_not id l _ (fun q hq hqe=>hl ⟨q.2,by rw [← hqe];exact hq⟩),upd_apply]
   rcases List.mem_cons.1 h with h | h
   ·rw [← h];simp
   ·exact (hl ⟨e,h⟩).elim

section
variable {P : Program} {g : Gr} {m : Nat→Option Nat} {st : St} {tmps : Array Value} {w : World} {ids views : List Nat} {args : List SV} {objs : List Ent}

def backM (m m2 : Nat→Option Nat) (ids : List Nat) (fr n : Nat) (id : Nat) : Option Nat :=
 if ids.idxOf id < ids.length then m2 (ids.idxOf id) else if fr≤id∧id < fr + (n - ids.length) then m2 (ids.length + (id - fr)) else m id

theorem idxOf_get {l : List Nat} (hn : l.Nodup) {k id : Nat} (h : l[k]? = some id) : l.idxOf id = k:=by
 have hk : k < l.length:=by
  rcases Nat.lt_or_ge k l.length with h1 | h1
  ·exact h1
  ·rw [List.getElem?_eq_none h1] at h;cases h
 have he : l[k] = id:=by rw [List.getElem?_eq_getElem hk] at h;cases h;rfl
 have hlt : l.idxOf id < l.length:=List.idxOf_lt_length_iff.2 (he ▸ List.getElem_mem hk)
 have:=List.getElem_idxOf hlt
 exact (List.getElem_inj hn).1 (this.trans he.symm)

structure Fresh (st : St) (fr n : Nat) : Prop where
 free : ∀ j,j < n→st.σ (fr + j) = none

variable {fr : Nat} {out : List Ent} {w' : World} {m2 : Nat→Option Nat}

inductive Which (ids views : List Nat) (fr n : Nat) (id : Nat) : Prop
 | handed (k : Nat) (h : ids[k]? = some id)
 | made (j : Nat) (h : j < n - ids.length) (e : id = fr + j)
 | other (h1 : id ∉ ids) (h2 : ¬ (fr≤id∧id < fr + (n - ids.length)))

theorem which (ids views : List Nat) (fr n id : Nat) : Which ids views fr n id:=by
 by_cases h1 : id ∈ ids
 ·obtain ⟨k,hk,he⟩:=List.mem_iff_getElem.1 h1
  exact .handed k (by rw [List.getElem?_eq_getElem hk,he])
 ·by_cases h2 : fr≤id∧id < fr + (n - ids.length)
  ·exact .made (id - fr) (by omega) (by omega)
  ·exact .other h1 h2

theorem mem_backUps {σ : Nat→Option Ent} {id : Nat} {e : Ent} : (id,e) ∈ backUps σ ids views fr out ↔
  (∃ (k : Nat) (e0 : Ent),ids[k]? = some id∧out[k]? = some e0∧e = renEnt ids fr e0)∨(∃ (j : Nat) (e0 : Ent),out[ids.length + j]? = some e0∧id = fr + j∧e = renEnt ids fr e0) ∨
   (id ∈ views∧∃ E s rows fz,σ id = some (.arr E s rows fz)∧e = .arr E s rows true):=by
 unfold backUps
 simp only [List.mem_append,List.mem_map,List.mem_filterMap]
 constructor
 ·rintro ((⟨⟨a,b⟩,h,he⟩ | ⟨⟨a,j⟩,h,he⟩) | ⟨i,hi,he⟩)
  ·simp only [Prod.mk.injEq] at he
   obtain ⟨rfl,rfl⟩:=he
   obtain ⟨k,hk⟩:=List.mem_iff_getElem?.1 h
   rw [List.getElem?_zip_eq_some] at hk
   exact .inl ⟨k,b,hk.1,hk.2,rfl⟩
  ·simp only [Prod.mk.injEq] at he
   obtain ⟨rfl,rfl⟩:=he
   have:=List.mem_zipIdx_iff_getElem?.1 h
   simp only [List.getElem?_drop] at this
   exact .inr (.inl ⟨j,a,this,rfl,rfl⟩)
  ·split at he
   ·rename_i E s rows fz hσ
    cases he
    exact .inr (.inr ⟨hi,E,s,rows,fz,hσ,rfl⟩)
   ·cases he
 ·rintro (⟨k,e0,h1,h2,rfl⟩ | ⟨j,e0,h1,rfl,rfl⟩ | ⟨h1,E,s,rows,fz,h2,rfl⟩)
  ·exact .inl (.inl ⟨(id,e0),List.mem_iff_getElem?.2 ⟨k,List.getElem?_zip_eq_some.2 ⟨h1,h2⟩⟩,rfl⟩)
  ·exact .inl (.inr ⟨(e0,j),List.mem_zipIdx_iff_getElem?.2 (by simpa using h1),rfl⟩)
  ·exact .inr ⟨id,h1,by rw [h2]⟩

theorem backσ (hh : Handed st ids views objs) (hf : Fresh st fr (out.length - ids.length)) (hl : ids.length≤out.length) (id : Nat) :
  (∀ (k : Nat),ids[k]? = some id→∃ e0,out[k]? = some e0∧updσ st.σ (backUps st.σ ids views fr out) id = some (renEnt ids fr e0)) ∧
  (∀ (j : Nat),j < out.length - ids.length→id = fr + j→∃ e0,out[ids.length + j]? = some e0∧updσ st.σ (backUps st.σ ids views fr out) id = some (renEnt ids fr e0)) ∧
  (id ∉ ids→¬ (fr≤id∧id < fr + (out.length - ids.length))→(id ∈ views→∃ E s rows fz,st.σ id = some (.arr E s rows fz)∧updσ st.σ (backUps st.σ ids views fr out) id = some (.arr E s rows true)) ∧
   (id ∉ views→updσ st.σ (backUps st.σ ids views fr out) id = st.σ id)):=by
 have nofresh : ∀ j,j < out.length - ids.length→∀ e,st.σ (fr + j) = some e→False:=fun j hj e he=>by rw [hf.free j hj] at he;cases he
 have hids : ∀ (k : Nat),ids[k]? = some id→∃ e,st.σ id = some e:=fun k hk=>by obtain ⟨e,_,h,_⟩:=hh.ents k id hk;exact ⟨e,h⟩
 have hvs : id ∈ views→∃ e,st.σ id = some e:=fun h=>by obtain ⟨_,_,_,_,h⟩:=hh.views id h;exact ⟨_,h⟩
 have hout : ∀ (k : Nat),k < out.length→∃ e0,out[k]? = some e0:=fun k hk=>⟨_,List.getElem?_eq_getElem hk⟩
 have hlt : ∀ (j : Nat) (e0 : Ent),out[ids.length + j]? = some e0→j < out.length - ids.length:=fun j e0 h=>by
  rcases Nat.lt_or_ge (ids.length + j) out.length with h1 | h1
  ·omega
  ·rw [List.getElem?_eq_none h1] at h;cases h
 refine ⟨fun k hk=>?_,fun j hj he=>?_,fun h1 h2=>⟨fun hv=>?_,fun hv=>?_⟩⟩
 ·have hkl : k < ids.length:=by
   rcases Nat.lt_or_ge k ids.length with h | h
   ·exact h
   ·rw [List.getElem?_eq_none h] at hk;cases hk
  obtain ⟨e0,he0⟩:=hout k (by omega)
  refine ⟨e0,he0,updσ_mem id _ _ _ (mem_backUps.2 (.inl ⟨k,e0,hk,he0,rfl⟩)) fun e' he'=>?_⟩
  rcases mem_backUps.1 he' with ⟨k',e1,h1,h2,rfl⟩ | ⟨j,e1,h1,h2,rfl⟩ | ⟨h1,_⟩
  ·have : k' = k:=by rw [← idxOf_get hh.nodup h1,← idxOf_get hh.nodup hk]
   subst this
   rw [he0] at h2;cases h2;rfl
  ·obtain ⟨e,he⟩:=hids k hk
   rw [h2] at he
   exact (nofresh j (hlt j e1 h1) e he).elim
  ·exact (hh.disj id h1 (List.mem_of_getElem? hk)).elim
 ·obtain ⟨e0,he0⟩:=hout (ids.length + j) (by omega)
  refine ⟨e0,he0,updσ_mem id _ _ _ (mem_backUps.2 (.inr (.inl ⟨j,e0,he0,he,rfl⟩))) fun e' he'=>?_⟩
  rcases mem_backUps.1 he' with ⟨k',e1,h1,h2,rfl⟩ | ⟨j',e1,h1,h2,rfl⟩ | ⟨h1,_⟩
  ·obtain ⟨e,hs⟩:=hids k' h1
   rw [he] at hs
   exact (nofresh j hj e hs).elim
  ·have : j' = j:=by omega
   subst this
   rw [he0] at h1;cases h1;rfl
  ·obtain ⟨e,hs⟩:=hvs h1
   rw [he] at hs
   exact (nofresh j hj e hs).elim
 ·obtain ⟨E,s,rows,fz,hσ⟩:=hh.views id hv
  refine ⟨E,s,rows,fz,hσ,updσ_mem id _ _ _ (mem_backUps.2 (.inr (.inr ⟨hv,E,s,rows,fz,hσ,rfl⟩))) fun e' he'=>?_⟩
  rcases mem_backUps.1 he' with ⟨k',e1,h3,_⟩ | ⟨j',e1,h3,h4,rfl⟩ | ⟨_,E',s',rows',fz',h3,rfl⟩
  ·exact (h1 (List.mem_of_getElem? h3)).elim
  ·have:=hlt j' e1 h3;exact (h2 ⟨by omega,by omega⟩).elim
  ·rw [hσ] at h3;cases h3;rfl
 ·refine updσ_not id _ _ fun p hp hpe=>?_
  obtain ⟨i,e⟩:=p
  subst hpe
  rcases mem_backUps.1 hp with ⟨k',e1,h3,_⟩ | ⟨j',e1,h3,h4,rfl⟩ | ⟨h3,_⟩
  ·exact h1 (List.mem_of_getElem? h3)
  ·have:=hlt j' e1 h3;exact h2 ⟨by omega,by omega⟩
  ·exact hv h3

theorem backM_handed (hn : ids.Nodup) {k id : Nat} (h : ids[k]? = some id) (n : Nat) : backM m m2 ids fr n id = m2 k:=by
 have hk : k < ids.length:=by
  rcases Nat.lt_or_ge k ids.length with h1 | h1
  ·exact h1
  ·rw [List.getElem?_eq_none h1] at h;cases h
 unfold backM
 rw [idxOf_get hn h,if_pos hk]

theorem backM_made {n j : Nat} (h : j < n - ids.length) (hf : fr + j ∉ ids) : backM m m2 ids fr n (fr + j) = m2 (ids.length + j):=by
 unfold backM
 rw [if_neg (by rw [List.idxOf_lt_length_iff];exact hf),if_pos ⟨by omega,by omega⟩]
 congr 1;omega

theorem backM_other {n id : Nat} (h1 : id ∉ ids) (h2 : ¬ (fr≤id∧id < fr + (n - ids.length))) : backM m m2 ids fr n id = m id:=by
 unfold backM
 rw [if_neg (by rw [List.idxOf_lt_length_iff];exact h1),if_neg h2]

end
end Go.Abs

namespace Go.Abs
open Go

theorem entLe_back {σ : Nat→Option Ent} {ids views : List Nat} {fr : Nat} {a b c : Ent} (h : TrEnt σ ids views a b) (h' : EntLe b c) : EntLe a (renEnt ids fr c):=by
 cases a <;> cases b <;> first | (exact h.elim;done) | skip
 all_goals cases c <;> first | (exact h'.elim;done) | skip
 all_goals first | trivial | skip
 ·obtain ⟨rfl,rfl,rfl,rfl,_⟩:=h
  exact h'
 ·obtain ⟨rfl,rfl⟩:=h
  exact h'

theorem renEnt_mut {ids : List Nat} {fr : Nat} (e : Ent) : (renEnt ids fr e).mut = e.mut:=by cases e <;> rfl
theorem renEnt_gone {ids : List Nat} {fr : Nat} {e : Ent} : renEnt ids fr e = .gone ↔ e = .gone:=by cases e <;> simp [renEnt]

section
variable {P : Program} {g : Gr} {m : Nat→Option Nat} {st : St} {tmps : Array Value} {w : World} {ids views : List Nat} {objs : List Ent}
variable {fr : Nat} {out : List Ent} {w' : World} {m2 : Nat→Option Nat}

def backEnv (g : Gr) (m : Nat→Option Nat) (st : St) (ids views : List Nat) (fr : Nat) (out : List Ent) (m2 : Nat→Option Nat) (w' : World) : Env :=
 g.env (backM m m2 ids fr out.length) { st with σ:=updσ st.σ (backUps st.σ ids views fr out) } w'

theorem R_back (hR : R g m st tmps w) (hh : Handed st ids views objs) (hf : Fresh st fr (out.length - ids.length)) (hl : ids.length≤out.length)
  (hb : R (groundOf (calleeOk g m st w ids views) (calleeM m ids) objs w) m2 { sl:=fun _=>.dead,σ:=fun i=>out[i]? } #[] w') (hpure : ∀ e ∈ out,e.pure) :
  R g (backM m m2 ids fr out.length) { st with σ:=updσ st.σ (backUps st.σ ids views fr out) } tmps w' ∧
   ∀ res v,(∀ b x,res≠.opt b x)→RSV ((groundOf (calleeOk g m st w ids views) (calleeM m ids) objs w).env m2 { sl:=fun _=>.dead,σ:=fun i=>out[i]? } w') res v→RSV (backEnv g m st ids views fr out m2 w') (renSV ids fr res) v:=by
 have hB : g.B≤w.heap.size:=hR.frame.size
 have hsz : w.heap.size≤w'.heap.size:=hb.frame.size
 -- a block that the callee may write is one of the caller's own
 have wr2 : ∀ b,(groundOf (calleeOk g m st w ids views) (calleeM m ids) objs w).wr b→∃ (k id : Nat) (e : Ent),ids[k]? = some id∧st.σ id = some e∧e.mut = true∧m id = some b:=by
  rintro b ⟨k,hk,hkb⟩
  obtain ⟨id,h1,h2⟩:=calleeM_some hkb
  obtain ⟨e,e',h3,_,h5⟩:=hh.ents k id h1
  exact ⟨k,id,e,h1,h3,(trEnt_mut h5).2.2.2,h2⟩
 have hfi : ∀ j,j < out.length - ids.length→fr + j ∉ ids:=fun j hj hm=>by
  obtain ⟨k,hk⟩:=List.mem_iff_getElem?.1 hm
  obtain ⟨e,_,h,_⟩:=hh.ents k _ hk
  rw [hf.free j hj] at h;cases h
 -- the callee's numbers,as the caller counts
 have hK4 : ∀ k a,out[k]? = some a→updσ st.σ (backUps st.σ ids views fr out) (rn ids fr k) = some (renEnt ids fr a)∧backM m m2 ids fr out.length (rn ids fr k) = m2 k:=by
  intro k a hk
  have hkl : k < out.length:=by
   rcases Nat.lt_or_ge k out.length with h | h
   ·exact h
   ·rw [List.getElem?_eq_none h] at hk;cases hk
  unfold rn
  cases hid : ids[k]? with
  | some id =>
   obtain ⟨e0,h1,h2⟩:=(backσ hh hf hl id).1 k hid
   rw [hk] at h1;cases h1
   exact ⟨h2,backM_handed hh.nodup hid _⟩
  | none =>
   have hge : ids.length≤k:=by
    rcases Nat.lt_or_ge k ids.length with h | h
    ·rw [List.getElem?_eq_getElem h] at hid;cases hid
    ·exact h
   have hj : k - ids.length < out.length - ids.length:=by omega
   obtain ⟨e0,h1,h2⟩:=(backσ hh hf hl (fr + (k - ids.length))).2.1 _ hj rfl
   rw [show ids.length + (k - ids.length) = k by omega,hk] at h1;cases h1
   refine ⟨h2,?_⟩
   have:=backM_made (m:=m) (m2:=m2) (ids:=ids) (fr:=fr) hj (hfi _ hj)
   rw [show ids.length + (k - ids.length) = k by omega] at this
   exact this
 -- what the callee holds good,the caller does
 have hK2 : ∀ b,((groundOf (calleeOk g m st w ids views) (calleeM m ids) objs w).env m2 { sl:=fun _=>.dead,σ:=fun i=>out[i]? } w').ok b→(backEnv g m st ids views fr out m2 w').ok b:=by
  intro b hok
  have hown : (g.okb b∨g.B≤b)∧(∀ id e,id ∉ ids→id ∉ views→st.σ id = some e→e.mut = true→m id≠some b):=by
   have frm : ∀ id e,st.σ id = some e→e≠.gone→m id = some b→g.okb b∨g.B≤b:=fun id e h1 h2 h3=>by
    rcases (hR.place id e b h1 h2 h3).2 with h | h
    ·exact .inr h
    ·exact .inl (.inr h)
   rcases hok.1 with (h | h) | h
   ·rcases h.2.2 with h1 | ⟨id,h1,h2⟩
    ·exact ⟨h1.1,fun id e _ _ h2 h3 h4=>h1.2.2 id e h2 h3 h4⟩
    ·obtain ⟨E,s,rows,fz,h3⟩:=hh.views id h1
     exact ⟨frm id _ h3 (by simp) h2,fun id' e _ hv h4 h5 h6=>hv (hR.inj id' id e _ b h4 h3 h5 (by simp) h6 h2 ▸ h1)⟩
   ·obtain ⟨k,id,e,h1,h2,h3,h4⟩:=wr2 b h
    exact ⟨frm id e h2 (Ent.mut_ne_gone h3) h4,fun id' e' hi _ h5 h6 h7=>hi (hR.inj id' id e' e b h5 h2 h6 (Ent.mut_ne_gone h3) h7 h4 ▸ List.mem_of_getElem? h1)⟩
   ·exact ⟨.inr (Nat.le_trans hB h),fun id' e' _ _ h5 h6 h7=>by
     have:=(hR.place id' e' b h5 (Ent.mut_ne_gone h6) h7).1
     have h' : w.heap.size≤b:=h
     omega⟩
  refine ⟨hown.1,hok.2.1,fun id a ha hm hmb=>?_⟩
  have ha' : updσ st.σ (backUps st.σ ids views fr out) id = some a:=ha
  rcases which ids views fr out.length id with ⟨k,hk⟩ | ⟨j,hj,rfl⟩ | ⟨h1,h2⟩
  ·obtain ⟨e0,h3,h4⟩:=(backσ hh hf hl id).1 k hk
   rw [h4] at ha';cases ha'
   rw [renEnt_mut] at hm
   rw [backM_handed hh.nodup hk] at hmb
   exact hok.2.2 k e0 h3 hm hmb
  ·obtain ⟨e0,h3,h4⟩:=(backσ hh hf hl (fr + j)).2.1 j hj rfl
   rw [h4] at ha';cases ha'
   rw [renEnt_mut] at hm
   rw [backM_made hj (hfi j hj)] at hmb
   exact hok.2.2 _ e0 h3 hm hmb
  ·rw [backM_other h1 h2] at hmb
   obtain ⟨h3,h4⟩:=(backσ hh hf hl id).2.2 h1 h2
   by_cases hv : id ∈ views
   ·obtain ⟨E,s,rows,fz,_,h5⟩:=h3 hv
    rw [h5] at ha';cases ha';cases hm
   ·rw [h4 hv] at ha'
    exact hown.2 id a h1 hv ha' hm hmb
 have hK1 : ∀ b,(g.env m st w).ok b→(backEnv g m st ids views fr out m2 w').ok b∧w'.heap[b]? = w.heap[b]?:=by
  intro b hok
  have hnw : ¬ (groundOf (calleeOk g m st w ids views) (calleeM m ids) objs w).wr b:=fun h=>by
   obtain ⟨k,id,e,_,h2,h3,h4⟩:=wr2 b h
   exact hok.2.2 id e h2 h3 h4
  have hlt : b < w.heap.size:=hok.2.1
  refine ⟨hK2 b ⟨.inl (.inl ⟨hlt,?_,.inl hok⟩),Nat.lt_of_lt_of_le hlt hsz,fun k e he hm hmb=>?_⟩,hb.frame.block b hlt hnw⟩
  ·rintro ⟨k,id,h1,h2⟩
   obtain ⟨e,e',h3,_,h5⟩:=hh.ents k id h1
   exact hok.2.2 id e h3 (trEnt_mut h5).2.2.2 h2
  ·rcases (hb.place k e b he (Ent.mut_ne_gone hm) hmb).2 with h | h
   ·exact absurd hlt (Nat.not_lt.2 h)
   ·exact hnw h
 -- an entry that was not handed over stands where it stood
 have still : ∀ id e b,id ∉ ids→st.σ id = some e→e≠.gone→m id = some b→w'.heap[b]? = w.heap[b]?:=by
  intro id e b hi he hg hmb
  refine hb.frame.block b (hR.place id e b he hg hmb).1 fun h=>?_
  obtain ⟨k,id',e',h1,h2,h3,h4⟩:=wr2 b h
  exact hi (hR.inj id' id e' e b h2 he h3 hg h4 hmb ▸ List.mem_of_getElem? h1)
 have hle : Env.Le (g.env m st w) (backEnv g m st ids views fr out m2 w'):=by
  refine ⟨hK1,fun id a ha=>?_,fun id E s rows fz b cur ha hmb hc=>?_⟩
  ·have ha' : st.σ id = some a:=ha
   rcases which ids views fr out.length id with ⟨k,hk⟩ | ⟨j,hj,rfl⟩ | ⟨h1,h2⟩
   ·obtain ⟨e,e',h3,h4,h5⟩:=hh.ents k id hk
    rw [ha'] at h3;cases h3
    obtain ⟨e0,h6,h7⟩:=(backσ hh hf hl id).1 k hk
    obtain ⟨e1,h8,h9,h10⟩:=hb.org k e' h4
    have h8' : out[k]? = some e1:=h8
    rw [h6] at h8';cases h8'
    refine ⟨_,h7,entLe_back h5 h9,fun hg=>?_⟩
    show backM m m2 ids fr out.length id = m id
    rw [backM_handed hh.nodup hk]
    have:=(h10 (fun h=>hg (renEnt_gone.2 h))).1
    refine this.trans ?_
    show calleeM m ids k = m id
    simp [calleeM,hk]
   ·rw [hf.free j hj] at ha';cases ha'
   ·obtain ⟨h3,h4⟩:=(backσ hh hf hl id).2.2 h1 h2
    have hm' : (backEnv g m st ids views fr out m2 w').m id = m id:=backM_other h1 h2
    by_cases hv : id ∈ views
    ·obtain ⟨E,s,rows,fz,h5,h6⟩:=h3 hv
     rw [ha'] at h5;cases h5
     exact ⟨_,h6,⟨rfl,rfl,rfl⟩,fun _=>hm'⟩
    ·exact ⟨a,(h4 hv).trans ha',EntLe.refl _,fun _=>hm'⟩
  ·have ha' : st.σ id = some (.arr E s rows fz):=ha
   have hmb' : m id = some b:=hmb
   have hc' : w.heap[b]? = some (.cells cur E (0,0)):=hc
   by_cases hi : id ∈ ids
   ·obtain ⟨k,hk⟩:=List.mem_iff_getElem?.1 hi
    obtain ⟨e,e',h3,h4,h5⟩:=hh.ents k id hk
    rw [ha'] at h3;cases h3
    obtain ⟨e0,h6,h7⟩:=(backσ hh hf hl id).1 k hk
    obtain ⟨e1,h8,h9,h10⟩:=hb.org k e' h4
    have h8' : out[k]? = some e1:=h8
    rw [h6] at h8';cases h8'
    by_cases hg : e0 = .gone
    ·subst hg;exact .inl h7
    ·cases e' <;> first | (exact h5.elim;done) | skip
     rename_i E' s' rows' fz'
     obtain ⟨rfl,rfl,rfl,rfl,_⟩:=h5
     refine .inr ((h10 hg).2 E s rows fz b cur rfl ?_ hc')
     show calleeM m ids k = some b
     simp [calleeM,hk,hmb']
   ·exact .inr ⟨cur,(still id _ b hi ha' (by simp) hmb').trans hc',rfl⟩
 have hrd : ∀ {c : C} {v : Value},RD w'.heap ((groundOf (calleeOk g m st w ids views) (calleeM m ids) objs w).env m2 { sl:=fun _=>.dead,σ:=fun i=>out[i]? } w').ok c v→RD w'.heap (backEnv g m st ids views fr out m2 w').ok c v:=fun h=>h.mono hK2 fun _ _=>rfl
 have hrc0 : ∀ {c : C} {v : Value},RC0 ((groundOf (calleeOk g m st w ids views) (calleeM m ids) objs w).env m2 { sl:=fun _=>.dead,σ:=fun i=>out[i]? } w') c v→RC0 (backEnv g m st ids views fr out m2 w') (renC0 ids fr c) v:=by
  intro c v h
  cases c with
  | v x=>exact hrd h
  | sl rows=>exact hrd h
  | osl k =>
   obtain ⟨a,h1,h2⟩:=h
   obtain ⟨h3,h4⟩:=hK4 k a h1
   refine ⟨_,h3,?_⟩
   cases a with
   | gone=>exact h2
   | arr E s rows fz =>
    have h4' : (backEnv g m st ids views fr out m2 w').m (rn ids fr k) = m2 k:=h4
    simp only [renEnt,h4']
    exact h2
   | _=>exact h2.elim
  | bp k o =>
   obtain ⟨cs,b,h1,h2,rfl⟩:=h
   obtain ⟨h3,h4⟩:=hK4 k _ h1
   exact ⟨_,b,h3,h4.trans h2,rfl⟩
  | ep k i o =>
   obtain ⟨a,h1,h2⟩:=h
   obtain ⟨h3,h4⟩:=hK4 k a h1
   refine ⟨_,h3,?_⟩
   cases a with
   | gone=>exact h2
   | arr E s rows fz =>
    have h4' : (backEnv g m st ids views fr out m2 w').m (rn ids fr k) = m2 k:=h4
    simp only [renEnt,h4']
    exact h2
   | _=>exact h2.elim
  | ow k lo n =>
   obtain ⟨a,h1,h2⟩:=h
   obtain ⟨h3,h4⟩:=hK4 k a h1
   refine ⟨_,h3,?_⟩
   cases a with
   | gone=>exact h2
   | arr E s rows fz =>
    have h4' : (backEnv g m st ids views fr out m2 w').m (rn ids fr k) = m2 k:=h4
    simp only [renEnt,h4']
    exact h2
   | _=>exact h2.elim
  | rp cs =>
   obtain ⟨b,off,h1,h2,h3⟩:=h
   exact ⟨b,off,hK2 b h1,h2,fun j c hj=>by obtain ⟨x,hx,hr⟩:=h3 j c hj;exact ⟨x,hx,hrd hr⟩⟩
  | fn f caps=>exact h.elim
  | mp k =>
   obtain ⟨agg,kvs,b,h1,h2,rfl⟩:=h
   obtain ⟨h3,h4⟩:=hK4 k _ h1
   exact ⟨_,_,b,h3,h4.trans h2,rfl⟩
  | it k =>
   obtain ⟨s,pos,b,h1,h2,rfl⟩:=h
   obtain ⟨h3,h4⟩:=hK4 k _ h1
   exact ⟨_,_,b,h3,h4.trans h2,rfl⟩
 have hrc : ∀ {c : C} {v : Value},RC ((groundOf (calleeOk g m st w ids views) (calleeM m ids) objs w).env m2 { sl:=fun _=>.dead,σ:=fun i=>out[i]? } w') c v→RC (backEnv g m st ids views fr out m2 w') (renC ids fr c) v:=by
  intro c v h
  by_cases hc : ∀ f caps,c≠.fn f caps
  ·have h1:=hrc0 ((RC_iff0 hc).1 h)
   cases c <;> first | exact (hc _ _ rfl).elim | exact h1
  ·cases c with
   | fn f caps =>
    obtain ⟨vs,rfl,h⟩:=h
    refine ⟨vs,rfl,by simpa using h.1,fun j x y hx hy=>?_⟩
    simp only [List.getElem?_map] at hx
    cases hj : caps[j]? with
    | none=>rw [hj] at hx;cases hx
    | some c0=>rw [hj] at hx;cases hx;exact hrc0 (h.2 j c0 y hj hy)
   | _=>exact absurd (by intro f caps;simp) hc
 have hrl : ∀ {cs : List C} {vs : List Value},RL (RC ((groundOf (calleeOk g m st w ids views) (calleeM m ids) objs w).env m2 { sl:=fun _=>.dead,σ:=fun i=>out[i]? } w')) cs vs→RL (RC (backEnv g m st ids views fr out m2 w')) (cs.map (renC ids fr)) vs:=by
  intro cs vs h
  refine ⟨by simpa using h.1,fun j x y hx hy=>?_⟩
  simp only [List.getElem?_map] at hx
  cases hj : cs[j]? with
  | none=>rw [hj] at hx;cases hx
  | some c0=>rw [hj] at hx;cases hx;exact hrc (h.2 j c0 y hj hy)
 have hent2 : ∀ k e0,out[k]? = some e0→REnt (backEnv g m st ids views fr out m2 w') (m2 k) (renEnt ids fr e0):=by
  intro k e0 hk
  have h:=hb.ent k e0 hk
  have hp:=hpure e0 (List.mem_of_getElem? hk)
  cases e0 with
  | box cs =>
   obtain ⟨b,cur,T,h1,h2,h3⟩:=h
   exact ⟨b,cur,T,h1,h2,hrl h3⟩
  | arr E s rows fz =>
   obtain ⟨h0,h1,h⟩:=h
   refine ⟨h0,h1,h.imp id ?_⟩
   rintro ⟨b,cur,cap,g1,g2,g3,g4,g5,g6⟩
   exact ⟨b,cur,cap,g1,g2,g3,g4,g5,fun i r j c k1 k2=>by
    obtain ⟨x,hx,hr⟩:=g6 i r j c k1 k2
    exact ⟨x,hx,(hrd (isDRows_rd hp k1 k2 hr)).rc⟩⟩
  | mp agg kvs =>
   obtain ⟨b,es,clock,h1,h2,h3⟩:=h
   exact ⟨b,es,clock,h1,h2,h3.imp fun _ _ _ hh'=>⟨hh'.1,hh'.2.1,hh'.2.2.imp fun _ _ _ h=>hrd h⟩⟩
  | it s pos =>
   obtain ⟨b,h1,h2⟩:=h
   exact ⟨b,h1,h2⟩
  | gone=>trivial
 have place2 : ∀ k e0 b,out[k]? = some e0→e0≠.gone→m2 k = some b→b < w'.heap.size∧(g.B≤b∨g.wr b):=by
  intro k e0 b hk hg hmb
  obtain ⟨h1,h2⟩:=hb.place k e0 b hk hg hmb
  refine ⟨h1,?_⟩
  rcases h2 with h | h
  ·exact .inl (Nat.le_trans hB h)
  ·obtain ⟨_,id,e,_,h4,h5,h6⟩:=wr2 b h
   exact (hR.place id e b h4 (Ent.mut_ne_gone h5) h6).2
 -- each entry,told by whose it is
 have told : ∀ id e,updσ st.σ (backUps st.σ ids views fr out) id = some e→(∃ k e0,out[k]? = some e0∧e = renEnt ids fr e0∧backM m m2 ids fr out.length id = m2 k∧id = rn ids fr k) ∨
   (id ∉ ids∧backM m m2 ids fr out.length id = m id∧∃ e1,st.σ id = some e1∧(e = e1∨∃ E s rows fz,e1 = .arr E s rows fz∧e = .arr E s rows true)):=by
  intro id e he
  rcases which ids views fr out.length id with ⟨k,hk⟩ | ⟨j,hj,rfl⟩ | ⟨h1,h2⟩
  ·obtain ⟨e0,h3,h4⟩:=(backσ hh hf hl id).1 k hk
   rw [h4] at he;cases he
   exact .inl ⟨k,e0,h3,rfl,backM_handed hh.nodup hk _,by simp [rn,hk]⟩
  ·obtain ⟨e0,h3,h4⟩:=(backσ hh hf hl (fr + j)).2.1 j hj rfl
   rw [h4] at he;cases he
   exact .inl ⟨_,e0,h3,rfl,backM_made hj (hfi j hj),by simp [rn]⟩
  ·obtain ⟨h3,h4⟩:=(backσ hh hf hl id).2.2 h1 h2
   refine .inr ⟨h1,backM_other h1 h2,?_⟩
   by_cases hv : id ∈ views
   ·obtain ⟨E,s,rows,fz,h5,h6⟩:=h3 hv
    rw [h6] at he;cases he
    exact ⟨_,h5,.inr ⟨E,s,rows,fz,rfl,rfl⟩⟩
   ·rw [h4 hv] at he
    exact ⟨e,he,.inl rfl⟩
 have hR' : R g (backM m m2 ids fr out.length) { st with σ:=updσ st.σ (backUps st.σ ids views fr out) } tmps w':=by
  refine hR.next (hR.frame.step hb.frame.os hb.frame.tape hb.frame.output hsz fun k hk hw=>hb.frame.block k (Nat.lt_of_lt_of_le hk hB) fun h=>?_) hle ?_ ?_ ?_
  ·obtain ⟨_,id,e,_,h4,h5,h6⟩:=wr2 k h
   rcases (hR.place id e k h4 (Ent.mut_ne_gone h5) h6).2 with h' | h'
   ·exact absurd hk (Nat.not_lt.2 h')
   ·exact hw h'
  ·intro id e he
   rcases told id e he with ⟨k,e0,h1,rfl,h3,_⟩ | ⟨h1,h2,e1,h3,h4⟩
   ·rw [h3];exact hent2 k e0 h1
   ·rw [h2]
    have hE:=hR.ent id e1 h3
    rcases h4 with rfl | ⟨E,s,rows,fz,rfl,rfl⟩
    ·exact REnt.le hle hE fun hg b hmb=>still id e b h1 h3 hg hmb
    ·have h0 : REnt (g.env m st w) (m id) (.arr E s rows true):=hE
     exact REnt.le hle h0 fun _ b hmb=>still id _ b h1 h3 (by simp) hmb
  ·intro id e b he hg hmb
   rcases told id e he with ⟨k,e0,h1,rfl,h3,_⟩ | ⟨h1,h2,e1,h3,h4⟩
   ·rw [h3] at hmb
    exact place2 k e0 b h1 (fun h=>hg (renEnt_gone.2 h)) hmb
   ·rw [h2] at hmb
    have hg1 : e1≠.gone:=by
     rcases h4 with rfl | ⟨_,_,_,_,rfl,_⟩
     ·exact hg
     ·simp
    have:=hR.place id e1 b h3 hg1 hmb
    exact ⟨Nat.lt_of_lt_of_le this.1 hsz,this.2⟩
  ·intro id id' e e' b he he' hm hg hmb hmb'
   have cross : ∀ (k : Nat) (e0 : Ent) (i : Nat) (e1 : Ent),out[k]? = some e0→e0≠.gone→m2 k = some b→i ∉ ids→st.σ i = some e1→e1≠.gone→m i = some b→False:=by
    intro k e0 i e1 h1 h2 h3 h4 h5 h6 h7
    have hlt:=(hR.place i e1 b h5 h6 h7).1
    rcases (hb.place k e0 b h1 h2 h3).2 with h | h
    ·exact absurd hlt (Nat.not_lt.2 h)
    ·obtain ⟨k2,i2,e2,h8,h9,h10,h11⟩:=wr2 b h
     exact h4 (hR.inj i2 i e2 e1 b h9 h5 h10 h6 h11 h7 ▸ List.mem_of_getElem? h8)
   rcases told id e he with ⟨k,e0,h1,rfl,h3,h3'⟩ | ⟨h1,h2,e1,h3,h4⟩ <;> rcases told id' e' he' with ⟨k',e0',g1,rfl,g3,g3'⟩ | ⟨g1,g2,e1',g3,g4⟩
   ·rw [renEnt_mut] at hm
    rw [h3] at hmb;rw [g3] at hmb'
    have:=hb.inj k k' e0 e0' b h1 g1 hm (fun h=>hg (renEnt_gone.2 h)) hmb hmb'
    rw [h3',g3',this]
   ·rw [renEnt_mut] at hm
    rw [h3] at hmb;rw [g2] at hmb'
    have hg1 : e1'≠.gone:=by
     rcases g4 with rfl | ⟨_,_,_,_,rfl,_⟩
     ·exact hg
     ·simp
    exact (cross k e0 id' e1' h1 (Ent.mut_ne_gone hm) hmb g1 g3 hg1 hmb').elim
   ·rw [h2] at hmb;rw [g3] at hmb'
    have hg1 : e1≠.gone:=by
     rcases h4 with rfl | ⟨_,_,_,_,rfl,_⟩
     ·exact Ent.mut_ne_gone hm
     ·simp
    exact (cross k' e0' id e1 g1 (fun h=>hg (renEnt_gone.2 h)) hmb' h1 h3 hg1 hmb).elim
   ·rw [h2] at hmb;rw [g2] at hmb'
    have hm1 : e1.mut = true:=by
     rcases h4 with rfl | ⟨_,_,_,_,_,rfl⟩
     ·exact hm
     ·cases hm
    have hg1 : e1'≠.gone:=by
     rcases g4 with rfl | ⟨_,_,_,_,rfl,_⟩
     ·exact hg
     ·simp
    exact hR.inj id id' e1 e1' b h3 g3 hm1 hg1 hmb hmb'
 refine ⟨hR',fun res v hno h=>?_⟩
 cases res with
 | dead=>trivial
 | c x=>exact hrc h
 | agg cs =>
  obtain ⟨vs,rfl,h⟩:=h
  exact ⟨vs,rfl,hrl h⟩
 | tup vs =>
  obtain ⟨ws,rfl,h⟩:=h
  refine ⟨ws,rfl,by simpa using h.1,fun j x y hx hy=>?_⟩
  simp only [List.getElem?_map] at hx
  cases hj : vs[j]? with
  | none=>rw [hj] at hx;cases hx
  | some s =>
   rw [hj] at hx;cases hx
   have:=h.2 j s y hj hy
   cases s with
   | dead=>trivial
   | c x=>exact hrc this
   | agg cs =>
    obtain ⟨vs,rfl,h⟩:=this
    exact ⟨vs,rfl,hrl h⟩
   | tup=>exact this.elim
   | opt=>exact this.elim
 | opt b x=>exact (hno b x rfl).elim

end
end Go.Abs

namespace Go.Abs
open Go

structure AO where
 op : AOp
 dst : Option Nat
 gd : Option (Nat × Bool)
 after : List Nat
 deriving Inhabited

structure Rec where
 sv : SV
 ups : List (Nat × Ent)
 rd : List Nat

def C.ids0 : C→List Nat
 | .osl id | .bp id _ | .ep id _ _ | .mp id | .it id | .ow id _ _=>[id]
 | _=>[]

def SV.ids : SV→List Nat
 | .c x=>x.ids0
 | .opt _ x=>x.ids
 | _=>[]

def idsOf (ρ : AX→SV) : List AX→List Nat
 | []=>[]
 | x :: xs=>(ρ x).ids ++ idsOf ρ xs

def AOp.ops : AOp→List AX
 | .mv x=>[x]
 | .pick c a b=>[c,a,b]
 | o=>o.needs

def AOp.rds : AOp→List AX
 | .mv _=>[]
 | o=>o.ops

def gval : SV→Option (Bool × Bool)
 | .c (.v (.bool t))=>some (true,t)
 | .opt g x=>match gval x with
  | some p=>some (g && p.1,p.2)
  | none=>none
 | _=>none

theorem gval_spec {e : Env} {v : Value} : ∀ {s : SV} {g t : Bool},gval s = some (g,t)→RSV e s v→(g = true→v = .bool t)∧(g = false→v = undef)
 | .c x,g,t,h,hv=>by
  unfold gval at h
  split at h <;> first | (cases h;done) | skip
  ·rename_i t' he
   cases h
   rw [he] at hv
   exact ⟨fun _=>rc_v (show RC _ (.v _) _ from hv),fun h=>(by cases h)⟩
  ·rename_i he;cases he
 | .opt g0 x,g,t,h,hv=>by
  simp only [gval] at h
  split at h
  ·rename_i p hp
   obtain ⟨g1,t1⟩:=p
   simp only [Option.some.injEq,Prod.mk.injEq] at h
   obtain ⟨rfl,rfl⟩:=h
   cases g0 with
   | false=>exact ⟨fun h=>(by cases h),fun _=>hv.2 rfl⟩
   | true=>simpa using gval_spec hp (hv.1 rfl)
  ·cases h
 | .dead,_,_,h,_=>by cases h
 | .agg _,_,_,h,_=>by cases h
 | .tup _,_,_,h,_=>by cases h

def SV.scalar : SV→Prop
 | .c (.v _)=>True
 | .dead=>True
 | .tup vs=>∀ s ∈ vs,∃ x,s = .c (.v x)
 | _=>False

def SV.pure1 : SV→Prop
 | .c x=>x.isD = true
 | .agg cs=>∀ c ∈ cs,c.isD = true
 | .dead=>True
 | _=>False

def SV.pureD : SV→Prop
 | .tup vs=>∀ s ∈ vs,s.pure1
 | s=>s.pure1

def SubU (σ : Nat→Option Ent) (U B : List (Nat × Ent)) : Prop:=(∀ p ∈ U,p ∈ B)∧∀ p ∈ B,p ∈ U∨σ p.1 = some p.2
theorem SubU.rfl {σ : Nat→Option Ent} {B : List (Nat × Ent)} : SubU σ B B:=⟨fun _ h=>h,fun _ h=>.inl h⟩

def CallOk (P : Program) (f : FuncId) (sargs : List SV) (σ : Nat→Option Ent) (fr : Nat) (r : Rec) : Prop :=
 (∃ (args : List SV) (res : SV) (views : List Nat),Con P f args [] res []∧TrL (TrSV σ [] views) sargs args∧(∀ id ∈ views,∃ E s rows fz,σ id = some (.arr E s rows fz))∧(res.scalar∨(res.pureD∧∀ id ∈ views,∃ E s rows,σ id = some (.arr E s rows true)))∧r = ⟨res,[],views⟩) ∨
 ∃ (args : List SV) (objs : List Ent) (res : SV) (out : List Ent) (ids views : List Nat) (U : List (Nat × Ent)),Con P f args objs res out∧TrL (TrSV σ ids views) sargs args ∧
  (∀ (k id : Nat),ids[k]? = some id→∃ e e',σ id = some e∧objs[k]? = some e'∧TrEnt σ ids views e e')∧ids.length = objs.length∧ids.Nodup∧(∀ id,id ∈ views→id ∉ ids)∧(∀ id ∈ views,∃ E s rows fz,σ id = some (.arr E s rows fz)) ∧
  (∀ j,j < out.length - ids.length→σ (fr + j) = none)∧(∀ e ∈ out,e.pure)∧(∀ b x,res≠.opt b x)∧out.length - ids.length≤16∧SubU σ U (backUps σ ids views fr out) ∧
  r = ⟨renSV ids fr res,U,ids ++ views ++ (List.range (out.length - ids.length)).map (fr + ·)⟩

def En0 (P : Program) (fr : Nat) (op : AOp) (sl : Nat→SV) (σ : Nat→Option Ent) (r : Rec) : Prop :=
 match op with
 | .call f args=>CallOk P f (args.map (ev sl)) σ fr r
 | .callv x args=>∃ f caps,(ev sl x).one? = some (.fn f caps)∧(ev sl x).pre∧CallOk P f (args.map (ev sl) ++ caps.map .c) σ fr r
 | op=>∃ sv ups cond,eff (ev sl) σ fr op = some (sv,ups,cond)∧cond∧presOf (ev sl) op.needs∧r = ⟨sv,ups,idsOf (ev sl) op.rds ++ [fr]⟩

def En (P : Program) (fr : Nat) (o : AO) (sl : Nat→SV) (σ : Nat→Option Ent) (r : Rec) : Prop :=
 match o.gd with
 | none=>En0 P fr o.op sl σ r
 | some (gs,want)=>(∃ g t sv,gval (sl gs) = some (g,t)∧r = ⟨.opt (g && (t == want)) sv,[],r.rd⟩∧((g && (t == want)) = true→En0 P fr o.op sl σ ⟨sv,[],r.rd⟩)) ∨
   ∃ g t,gval (sl gs) = some (g,t)∧(g && (t == want)) = true∧En0 P fr o.op sl σ r

def St.put (st : St) (dst : Option Nat) (r : Rec) : St :=
 { sl:=(match dst with | some d=>upd st.sl d r.sv | none=>st.sl),σ:=updσ st.σ r.ups }

structure CompO (P : Program) (ops : Array Oper) (N : Nat) (o : Oper) (ao : AO) : Prop where
 op : comp P o.op = some ao.op∨ao.op = .bad
 dst : o.dst = ao.dst
 lt : ∀ d,ao.dst = some d→d < N
 gd : match o.guard with
  | none=>ao.gd = none
  | some (j,want)=>∃ s,(ops[j]?).bind (·.dst) = some s∧ao.gd = some (s,want)

section
variable {P : Program} {g : Gr} {m : Nat→Option Nat} {st : St} {tmps : Array Value} {w : World} {a : Act}

theorem subU_upd {σ : Nat→Option Ent} {U B : List (Nat × Ent)} (h : SubU σ U B) (hu : ∀ id e e',(id,e) ∈ B→(id,e') ∈ B→e' = e) : updσ σ U = updσ σ B:=by
 funext id
 by_cases hB : ∃ e,(id,e) ∈ B
 ·obtain ⟨e,he⟩:=hB
  have h1 : updσ σ B id = some e:=updσ_mem id _ _ _ he fun e' he'=>hu id e e' he he'
  rw [h1]
  rcases h.2 _ he with h2 | h2
  ·exact updσ_mem id _ _ _ h2 fun e' he'=>hu id e e' he (h.1 _ he')
  ·by_cases h3 : (id,e) ∈ U
   ·exact updσ_mem id _ _ _ h3 fun e' he'=>hu id e e' he (h.1 _ he')
   ·rw [updσ_not id _ _ fun p hp hpe=>?_]
    ·exact h2
    ·obtain ⟨i,e'⟩:=p
     simp only at hpe;subst hpe
     have:=hu i e e' he (h.1 _ hp)
     subst this
     exact h3 hp
 ·rw [updσ_not id U _ fun p hp hpe=>hB ⟨p.2,by rw [← hpe];exact h.1 _ hp⟩,updσ_not id B _ fun p hp hpe=>hB ⟨p.2,by rw [← hpe];exact hp⟩]

theorem backUps_uniq {ids views : List Nat} {objs out : List Ent} {fr : Nat} (hh : Handed st ids views objs) (hf : Fresh st fr (out.length - ids.length)) (id : Nat) (e e' : Ent)
  (h : (id,e) ∈ backUps st.σ ids views fr out) (h' : (id,e') ∈ backUps st.σ ids views fr out) : e' = e:=by
 have hids : ∀ (k : Nat),ids[k]? = some id→∃ e,st.σ id = some e:=fun k hk=>by obtain ⟨e,_,h,_⟩:=hh.ents k id hk;exact ⟨e,h⟩
 have hlt : ∀ (j : Nat) (e0 : Ent),out[ids.length + j]? = some e0→j < out.length - ids.length:=fun j e0 h=>by
  rcases Nat.lt_or_ge (ids.length + j) out.length with h1 | h1
  ·omega
  ·rw [List.getElem?_eq_none h1] at h;cases h
 rcases mem_backUps.1 h with ⟨k,e1,a1,a2,rfl⟩ | ⟨j,e1,a1,a2,rfl⟩ | ⟨a1,E,s,rows,fz,a2,rfl⟩ <;> rcases mem_backUps.1 h' with ⟨k',e2,b1,b2,rfl⟩ | ⟨j',e2,b1,b2,rfl⟩ | ⟨b1,E',s',rows',fz',b2,rfl⟩
 ·have : k' = k:=by rw [← idxOf_get hh.nodup b1,← idxOf_get hh.nodup a1]
  subst this
  rw [a2] at b2;cases b2;rfl
 ·obtain ⟨e0,h0⟩:=hids k a1
  rw [b2,hf.free j' (hlt _ _ b1)] at h0;cases h0
 ·exact (hh.disj id b1 (List.mem_of_getElem? a1)).elim
 ·obtain ⟨e0,h0⟩:=hids k' b1
  rw [a2,hf.free j (hlt _ _ a1)] at h0;cases h0
 ·have : j' = j:=by omega
  subst this
  rw [a1] at b1;cases b1;rfl
 ·rw [a2,hf.free j (hlt _ _ a1)] at b2;cases b2
 ·exact (hh.disj id a1 (List.mem_of_getElem? b1)).elim
 ·rw [b2,hf.free j' (hlt _ _ b1)] at a2;cases a2
 ·rw [a2] at b2;cases b2;rfl

theorem scalar_rsv {e e' : Env} {s : SV} {v : Value} (hs : s.scalar) (h : RSV e s v) : RSV e' s v:=by
 cases s with
 | dead=>trivial
 | c x =>
  cases x <;> first | (exact hs.elim;done) | skip
  have h':=rc_v (show RC e (.v _) v from h)
  have h1:=rc_one (show RC e (.v _) v from h)
  subst h'
  exact RD.v _ h1
 | tup vs =>
  obtain ⟨ws,rfl,h⟩:=h
  refine ⟨ws,rfl,h.1,fun j x y hx hy=>?_⟩
  obtain ⟨z,rfl⟩:=hs x (List.mem_of_getElem? hx)
  have h2:=h.2 j _ y hx hy
  have h':=rc_v (show RC e (.v z) y from h2)
  have h1:=rc_one (show RC e (.v z) y from h2)
  subst h'
  exact RD.v _ h1
 | agg=>exact hs.elim
 | opt=>exact hs.elim

theorem pure_rc {e e' : Env} (hd : ∀ c v,RD e.h e.ok c v→RD e'.h e'.ok c v) {c : C} {v : Value} (hs : c.isD = true) (h : RC e c v) : RC e' c v:=by
 cases c <;> first | (cases hs;done) | exact hd _ _ h

theorem pure_rsv1 {e e' : Env} (hd : ∀ c v,RD e.h e.ok c v→RD e'.h e'.ok c v) {s : SV} {v : Value} (hs : s.pure1) (h : RSV1 e s v) : RSV1 e' s v:=by
 cases s with
 | dead=>trivial
 | c x=>exact pure_rc hd hs h
 | agg cs =>
  obtain ⟨vs,rfl,h⟩:=h
  exact ⟨vs,rfl,h.1,fun j x y hx hy=>pure_rc hd (hs x (List.mem_of_getElem? hx)) (h.2 j x y hx hy)⟩
 | tup vs=>exact hs.elim
 | opt g x=>exact hs.elim

theorem pure_rsv {e e' : Env} (hd : ∀ c v,RD e.h e.ok c v→RD e'.h e'.ok c v) {s : SV} {v : Value} (hs : s.pureD) (h : RSV e s v) : RSV e' s v:=by
 cases s with
 | dead=>trivial
 | c x=>exact pure_rsv1 (s:=.c x) hd hs h
 | agg cs=>exact pure_rsv1 (s:=.agg cs) hd hs h
 | tup vs =>
  obtain ⟨ws,rfl,h⟩:=h
  exact ⟨ws,rfl,h.1,fun j x y hx hy=>pure_rsv1 hd (hs x (List.mem_of_getElem? hx)) (h.2 j x y hx hy)⟩
 | opt g x=>exact hs.elim

theorem call_sound (hR : R g m st tmps w) {f : FuncId} {vs : Array Value} {sargs : List SV} (hv : RL (RSV (g.env m st w)) sargs vs.toList) {fr : Nat} {r : Rec} (hc : CallOk P f sargs st.σ fr r) :
  Calls P f vs w fun e w'=>∃ v m',e = .returned v∧R g m' { st with σ:=updσ st.σ r.ups } tmps w'∧RSV (g.env m' { st with σ:=updσ st.σ r.ups } w') r.sv v:=by
 have szs : ∀ {T : SV→SV→Prop} {xs ys : List SV},TrL T xs ys→xs.length = ys.length:=fun h=>(TrL.rl h).1
 rcases hc with ⟨args,res,views,hcon,ht,hvw,hsc,rfl⟩ | ⟨args,objs,res,out,ids,views,U,hcon,ht,h1,h2,h3,h4,h5,h6,h7,h8,_,hU,rfl⟩
 ·have hh : Handed st [] views []:=⟨fun k id h=>by simp at h,rfl,List.nodup_nil,fun _ _=>by simp,hvw⟩
  have hRc:=R_callee hR hh ht hv
  refine (hcon.2.2 _ _ w vs (by rw [← szs ht];simpa using hv.1.symm) hRc).mono ?_
  rintro e w' ⟨v,m',rfl,hb,hres⟩
  have hback:=R_back (fr:=0) (out:=[]) hR hh ⟨fun j hj=>by simp at hj⟩ (by simp) hb (by simp)
  -- nothing that was here has turned
  have hfr:=hb.frame
  have hno : ∀ b,¬ (groundOf (calleeOk g m st w [] views) (calleeM m []) [] w).wr b:=by rintro b ⟨i,hi,_⟩;simp at hi
  have hheap : ∀ b,b < w.heap.size→w'.heap[b]? = w.heap[b]?:=fun b hb'=>hfr.block b hb' (hno b)
  have hle : Env.Le (g.env m st w) (g.env m st w'):=by
   refine ⟨fun b hb'=>⟨okOf_mono hb' hfr.size fun id e h1 h2 h3=>⟨e,h1,h2,h3⟩,hheap b hb'.2.1⟩,fun id a ha=>⟨a,ha,EntLe.refl _,fun _=>rfl⟩,fun id E s rows fz b cur ha hm hc=>.inr ⟨cur,(hheap b (heap_lt hc)).trans hc,rfl⟩⟩
  have hfrozen : (∀ id ∈ views,∃ E s rows,st.σ id = some (.arr E s rows true))→∀ b,((groundOf (calleeOk g m st w [] views) (calleeM m []) [] w).env m' { sl:=fun x=>SV.dead,σ:=fun i=>([] : List Ent)[i]? } w').ok b→(g.env m st w').ok b:=by
   intro hvf b hb
   have hb1 : b < w'.heap.size:=hb.2.1
   have hB : g.B≤w.heap.size:=hR.frame.size
   rcases hb.1 with h0 | h0
   ·have h0' : calleeOk g m st w [] views b:=by
     rcases h0 with h | ⟨i,hi,_⟩
     ·exact h
     ·simp at hi
    rcases h0'.2.2 with h1 | ⟨id,hid,hmb⟩
    ·exact okOf_mono h1 hfr.size fun id e h1 h2 h3=>⟨e,h1,h2,h3⟩
    ·obtain ⟨E,s,rows,hfz⟩:=hvf id hid
     have hp:=hR.place id _ b hfz (by simp) hmb
     refine ⟨?_,hb1,fun id' e' he' hm' hb'=>?_⟩
     ·rcases hp.2 with h | h
      ·exact .inr h
      ·exact .inl (.inr h)
     ·have:=hR.inj id' id e' _ b he' hfz hm' (by simp) hb' hmb
      subst this
      have he2 : st.σ id' = some e':=he'
      rw [hfz] at he2;cases he2;cases hm'
   ·have h0' : w.heap.size≤b:=h0
    refine ⟨.inr (Nat.le_trans hB h0'),hb1,fun id' e' he' hm' hb'=>?_⟩
    have:=(hR.place id' e' b he' (by rintro rfl;cases hm') hb').1
    omega
  have hres' : RSV (g.env m st w') res v:=by
   rcases hsc with hsc | hsc
   ·exact scalar_rsv hsc hres
   ·exact pure_rsv (fun c x hcv=>hcv.mono (hfrozen hsc.2) fun _ _=>rfl) hsc.1 hres
  refine ⟨v,m,rfl,?_,hres'⟩
  exact hR.next (hR.frame.trans ⟨hfr.os,hfr.tape,hfr.output,hfr.size,fun k hk _=>hheap k hk⟩) hle (fun id e he=>REnt.le hle (hR.ent id e he) fun hg b hb'=>hheap b (hR.place id e b he hg hb').1)
   (fun id e b he hg hb'=>⟨Nat.lt_of_lt_of_le (hR.place id e b he hg hb').1 hfr.size,(hR.place id e b he hg hb').2⟩) hR.inj
 ·have hh : Handed st ids views objs:=⟨h1,h2,h3,h4,h5⟩
  simp only [subU_upd hU (backUps_uniq hh ⟨h6⟩)]
  have hRc:=R_callee hR hh ht hv
  refine (hcon.2.2 _ _ w vs (by rw [← szs ht];simpa using hv.1.symm) hRc).mono ?_
  rintro e w' ⟨v,m',rfl,hb,hres⟩
  have hback:=R_back hR hh ⟨h6⟩ (by rw [h2];exact hcon.2.1) hb h7
  exact ⟨v,_,rfl,hback.1,hback.2 res v h8 hres⟩

theorem okFunc_run {f : FuncId} (h : okFunc P f = true) (vs : Array Value) : (callFunc f vs).run P w = .ok (.enter f vs) w:=by
 unfold okFunc at h
 cases hf : P.funcs[f]? with
 | none=>rw [hf] at h;cases h
 | some fn =>
  rw [hf] at h
  simp only [Bool.and_eq_true,bne_iff_ne,ne_eq] at h
  simp [callFunc,hf,h.2]
  intro hn
  simp [hn] at h

theorem put_of (hR : R g m st tmps w) (ha : a.tmps = tmps) {dst : Option Nat} (hlt : ∀ d,dst = some d→d < tmps.size) {r : Rec} {v : Value} {m' : Nat→Option Nat} {w' : World} (h1 : R g m' { st with σ:=updσ st.σ r.ups } tmps w')
  (h2 : RSV (g.env m' { st with σ:=updσ st.σ r.ups } w') r.sv v) : R g m' (st.put dst r) (a.put dst v).tmps w':=by
 subst ha
 cases dst with
 | none=>exact h1
 | some d=>exact h1.put (hlt d rfl) h2

theorem yielded_of {ops : Array Oper} {j s : Nat} (hj : (ops[j]?).bind (·.dst) = some s) {tmps : Array Value} {b : Bool} (hs : s < tmps.size) (hv : tmps.getD s undef = .bool b) : yielded ops tmps j = some b:=by
 unfold yielded
 rw [hj]
 have : tmps[s]? = some (.bool b):=by
  rw [Array.getElem?_eq_getElem hs]
  simp [Array.getD,hs] at hv
  rw [hv]
 simp [this]

theorem yielded_undef {ops : Array Oper} {j s : Nat} (hj : (ops[j]?).bind (·.dst) = some s) {tmps : Array Value} (hv : tmps.getD s undef = undef) : yielded ops tmps j = none:=by
 unfold yielded
 rw [hj]
 simp only [Option.bind_some]
 cases h : tmps[s]? with
 | none=>rfl
 | some v =>
  have : v = undef:=by simp [Array.getD_eq_getD_getElem?,h] at hv;exact hv
  subst this
  rfl

def AOp.isCall : AOp→Bool
 | .call _ _ | .callv _ _=>true
 | _=>false

theorem map_isCall {α : Type} {f : α→AOp} (h : ∀ x,(f x).isCall = false) {o : Option α} {ao : AOp} (hc : o.map f = some ao) : ao.isCall = false:=by
 cases o with
 | none=>cases hc
 | some x=>cases hc;exact h x

theorem some_isCall {x ao : AOp} (h : x.isCall = false) (hc : some x = some ao) : ao.isCall = false:=by cases hc;exact h
theorem none_isCall {ao : AOp} (hc : none = some ao) : ao.isCall = false:=by cases hc

theorem ccall_isCall {c : Call} {ao : AOp} (hno : ∀ f,c.callee≠.value f) (hc : ccall P c = some ao) : ao.isCall = false:=by
 unfold ccall at hc
 split at hc
 ·rename_i h;exact absurd h (hno _)
 ·rename_i h;exact absurd h (hno _)
 all_goals
  repeat' (first | exact none_isCall hc | exact map_isCall (fun _=>rfl) hc | exact some_isCall rfl hc | split at hc)

theorem comp_isCall {op : Op} {ao : AOp} (hno : ∀ c f,op = .call c→c.callee = .value f→False) (hc : comp P op = some ao) : ao.isCall = false:=by
 cases op with
 | call c=>exact ccall_isCall (fun f h=>hno c f rfl h) hc
 | makeFunc fn a b =>
  cases fn <;> simp only [comp] at hc
  all_goals repeat' (first | exact none_isCall hc | exact map_isCall (fun _=>rfl) hc | exact some_isCall rfl hc | split at hc)
 | next x b =>
  cases b <;> simp only [comp] at hc
  all_goals repeat' (first | exact none_isCall hc | exact map_isCall (fun _=>rfl) hc | exact some_isCall rfl hc | split at hc)
 | _ =>
  simp only [comp] at hc
  repeat' (first | exact none_isCall hc | exact map_isCall (fun _=>rfl) hc | exact some_isCall rfl hc | split at hc)

theorem en0_plain {fr : Nat} {ao : AOp} {sl : Nat→SV} {σ : Nat→Option Ent} {r : Rec} (h : ao.isCall = false) (he : En0 P fr ao sl σ r) :
  ∃ sv ups cond,eff (ev sl) σ fr ao = some (sv,ups,cond)∧cond∧presOf (ev sl) ao.needs∧r = ⟨sv,ups,idsOf (ev sl) ao.rds ++ [fr]⟩:=by
 cases ao <;> first | (cases h;done) | exact he

theorem en0_bad {fr : Nat} {sl : Nat→SV} {σ : Nat→Option Ent} {r : Rec} (he : En0 P fr .bad sl σ r) : False:=by
 obtain ⟨_,_,_,h,_⟩:=he
 cases h

theorem en0_sound (hR : R g m st tmps w) (ha : a.tmps = tmps) {o : Oper} {ao : AOp} (hc' : comp P o.op = some ao∨ao = .bad) {fr : Nat} {r : Rec} (he : En0 P fr ao st.sl st.σ r) {dst : Option Nat} (hdst : o.dst = dst) (hlt : ∀ d,dst = some d→d < tmps.size)
  {K : Act→World→Prop} {Q : Exit→Act→World→Prop} (hK : ∀ m' v w',R g m' { st with σ:=updσ st.σ r.ups } tmps w'→RSV (g.env m' { st with σ:=updσ st.σ r.ups } w') r.sv v→K (a.put dst v) w') : o.wp P a w K Q:=by
 have hc : comp P o.op = some ao:=by
  rcases hc' with h | rfl
  ·exact h
  ·exact (en0_bad he).elim
 subst hdst
 have nocall : (∃ sv ups cond,eff (ev st.sl) st.σ fr ao = some (sv,ups,cond)∧cond∧presOf (ev st.sl) ao.needs∧r = ⟨sv,ups,idsOf (ev st.sl) ao.rds ++ [fr]⟩)→(∀ c f,o.op = .call c→c.callee = .value f→False)→o.wp P a w K Q:=by
  rintro ⟨sv,ups,cond,h1,h2,h3,rfl⟩ hno
  obtain ⟨n,v,m',w',h4,h5,h6,h7⟩:=snd_all o.op hno hR ha rfl hc h1 h2 h3
  unfold Oper.wp
  rw [h4]
  cases n <;> first | (cases h5;done) | skip
  ·cases h5
   exact hK m' _ w' h6 h7
  ·cases h5
   exact hK m' _ w' h6 h7
 cases hop : o.op with
 | call c =>
  cases hcal : c.callee with
  | value x =>
   rw [hop] at hc
   simp only [comp,ccall,hcal] at hc
   cases x with
   | func f =>
    simp only at hc
    split at hc
    ·rename_i hok
     simp only [Option.map_eq_some_iff] at hc
     obtain ⟨axs,hx,rfl⟩:=hc
     have hvs:=evs_rsv hR ha hx
     have hv : RL (RSV (g.env m st w)) (axs.map (ev st.sl)) (c.args.map a.eval).toList:=by
      rw [Array.toList_map]
      refine ⟨by simpa using hvs.1,fun j x y hx' hy=>?_⟩
      simp only [List.getElem?_map] at hx'
      cases hj : axs[j]? with
      | none=>rw [hj] at hx';cases hx'
      | some ax=>rw [hj] at hx';cases hx';exact hvs.2 j ax y hj hy
     have hcl:=call_sound hR hv he
     unfold Oper.wp
     have hrun : (execOp a.eval o).run P w = .ok (.enter f (c.args.map a.eval)) w:=by
      simp [execOp,hop,resolve,hcal,Act.eval,Deferred.ofValue,invoke,okFunc_run hok]
     rw [hrun]
     refine Calls.mono hcl ?_
     rintro e w' ⟨v,m',rfl,h1,h2⟩
     exact hK m' v w' h1 h2
    ·cases hc
   | tmp t =>
    simp only [Option.map_eq_some_iff] at hc
    obtain ⟨axs,hx,rfl⟩:=hc
    obtain ⟨f,caps,h1,h2,h3⟩:=he
    have hf:=(ev_rsv (x:=.tmp t) (ax:=.t t) hR ha rfl).one h2 h1
    obtain ⟨cvs,hfv,hcr⟩:=hf
    have hvs:=evs_rsv hR ha hx
    have hv : RL (RSV (g.env m st w)) (axs.map (ev st.sl) ++ caps.map .c) (c.args.map a.eval ++ cvs).toList:=by
     rw [Array.toList_append,Array.toList_map]
     refine RL.append ⟨by simpa using hvs.1,fun j x y hx' hy=>?_⟩ ⟨by simpa using hcr.1,fun j x y hx' hy=>?_⟩
     ·simp only [List.getElem?_map] at hx'
      cases hj : axs[j]? with
      | none=>rw [hj] at hx';cases hx'
      | some ax=>rw [hj] at hx';cases hx';exact hvs.2 j ax y hj hy
     ·simp only [List.getElem?_map] at hx'
      cases hj : caps[j]? with
      | none=>rw [hj] at hx';cases hx'
      | some c0 =>
       rw [hj] at hx';cases hx'
       have h0:=hcr.2 j c0 y hj hy
       have : ∀ f cs,c0≠.fn f cs:=by rintro f cs rfl;exact h0
       exact (RC_iff0 this).2 h0
    have hcl:=call_sound hR hv h3
    have hok : okFunc P f = true:=by
     rcases h3 with ⟨_,_,_,hcon,_⟩ | ⟨_,_,_,_,_,_,_,hcon,_⟩ <;> exact hcon.1
    unfold Oper.wp
    have hrun : (execOp a.eval o).run P w = .ok (.enter f (c.args.map a.eval ++ cvs)) w:=by
     simp [execOp,hop,resolve,hcal,hfv,Deferred.ofValue,invoke,okFunc_run hok]
    rw [hrun]
    refine Calls.mono hcl ?_
    rintro e w' ⟨v,m',rfl,h1,h2⟩
    exact hK m' v w' h1 h2
   | const v=>cases hc
   | global q=>cases hc
  | _ =>
   have hno : ∀ c f,o.op = .call c→c.callee = .value f→False:=fun c' f h1 h2=>by rw [hop] at h1;cases h1;rw [hcal] at h2;cases h2
   exact nocall (en0_plain (comp_isCall hno hc) he) hno
 | _ =>
  have hno : ∀ c f,o.op = .call c→c.callee = .value f→False:=fun c' f h1 _=>by rw [hop] at h1;cases h1
  exact nocall (en0_plain (comp_isCall hno hc) he) hno

theorem en_sound (hR : R g m st tmps w) (ha : a.tmps = tmps) {ops : Array Oper} {i : Nat} {o : Oper} {ao : AO} (hi : ops[i]? = some o) (hc : CompO P ops tmps.size o ao) {fr : Nat} {r : Rec} (he : En P fr ao st.sl st.σ r)
    {K : Act→World→Prop} {Q : Exit→Act→World→Prop} (hK : ∀ m' a' w',R g m' (st.put ao.dst r) a'.tmps w'→a'.tmps.size = tmps.size→a'.defers = a.defers→K a' w') : wpOp P ops Q i K a w:=by
  have hds : ∀ v,(a.put o.dst v).tmps.size = tmps.size∧(a.put o.dst v).defers = a.defers:=fun v=>by
    subst ha
    cases o.dst <;> simp [Act.put]
  have hlt : ∀ d,o.dst = some d→d < tmps.size:=fun d hd=>hc.lt d (hc.dst ▸ hd)
  unfold wpOp
  rw [hi]
  simp only
  have fin : ∀ (m' : Nat→Option Nat) (v : Value) (w' : World) (r' : Rec),r'.ups = r.ups→R g m' { st with σ:=updσ st.σ r'.ups } tmps w'→RSV (g.env m' { st with σ:=updσ st.σ r'.ups } w') r.sv v→K (a.put o.dst v) w':=by
    intro m' v w' r' hu h1 h2
    rw [hu] at h1 h2
    refine hK m' _ w' ?_ (hds v).1 (hds v).2
    rw [← hc.dst]
    exact put_of hR ha hlt h1 h2
  unfold En at he
  have hcg:=hc.gd
  split at he
  · rename_i hg
    have hgd : o.guard = none:=by
      cases h : o.guard with
      | none=>rfl
      | some p=>rw [h] at hcg;obtain ⟨s,_,h2⟩:=hcg;rw [hg] at h2;cases h2
    have hw : Region.wanted o (yielded ops a.tmps) = true:=by unfold Region.wanted;rw [hgd]
    rw [if_pos hw]
    exact .inl (en0_sound hR ha hc.op he rfl hlt fun m' v w' h1 h2=>fin m' v w' r rfl h1 h2)
  · rename_i gs want hg
    have hgd : ∃ j,o.guard = some (j,want)∧(ops[j]?).bind (·.dst) = some gs:=by
      cases h : o.guard with
      | none=>rw [h] at hcg;rw [hg] at hcg;cases hcg
      | some p=>rw [h] at hcg;obtain ⟨s,h4,h5⟩:=hcg;rw [hg] at h5;cases h5;exact ⟨_,rfl,h4⟩
    obtain ⟨j,hj,hjs⟩:=hgd
    have hslot:=hR.slot gs
    subst ha
    -- the guard,as it stands in the frame
    have hwant : ∀ (gg t : Bool),gval (st.sl gs) = some (gg,t)→Region.wanted o (yielded ops a.tmps) = (gg && (t == want)):=by
     intro gg t h1
     have hspec:=gval_spec h1 hslot
     have hyield : (gg = true→yielded ops a.tmps j = some t)∧(gg = false→yielded ops a.tmps j = none):=by
       refine ⟨fun h=>?_,fun h=>yielded_undef hjs (hspec.2 h)⟩
       have hv:=hspec.1 h
       refine yielded_of hjs ?_ hv
       rcases Nat.lt_or_ge gs a.tmps.size with h | h
       · exact h
       · simp [Array.getD_eq_getD_getElem?,Array.getElem?_eq_none h] at hv
         cases hv
     unfold Region.wanted
     rw [hj]
     simp only
     cases gg
     · rw [hyield.2 rfl];rfl
     · rw [hyield.1 rfl];cases t <;> cases want <;> rfl
    rcases he with ⟨gg,t,sv,h1,h2,h3⟩ | ⟨gg,t,h1,h2,h3⟩
    rotate_left
    · rw [hwant gg t h1,h2,if_pos rfl]
      exact .inl (en0_sound hR rfl hc.op h3 rfl hlt fun m' v w' h4 h5=>fin m' v w' r rfl h4 h5)
    rw [hwant gg t h1]
    cases hgt : (gg && (t == want)) with
    | true =>
      rw [if_pos rfl]
      refine .inl (en0_sound hR rfl hc.op (h3 hgt) rfl hlt fun m' v w' h4 h5=>fin m' v w' ⟨sv,[],r.rd⟩ (by rw [h2]) h4 ?_)
      rw [h2,hgt]
      exact ⟨fun _=>h5,fun h=>by cases h⟩
    | false =>
      rw [if_neg (by simp)]
      refine fin m undef w ⟨sv,[],r.rd⟩ (by rw [h2]) hR ?_
      rw [h2,hgt]
      exact ⟨(fun h=>by cases h),fun _=>rfl⟩

end
end Go.Abs

namespace Go.Abs
open Go

theorem updσ_congr {id : Nat} : ∀ (l : List (Nat × Ent)) {σ σ' : Nat→Option Ent},σ id = σ' id→updσ σ l id = updσ σ' l id
 | [],_,_,h=>h
 | p :: l,σ,σ',h=>updσ_congr l (by simp only [upd_apply];split <;> simp_all)

theorem updσ_key {id : Nat} : ∀ (l : List (Nat × Ent)) {σ σ' : Nat→Option Ent},id ∈ l.map (·.1)→updσ σ l id = updσ σ' l id
 | [],_,_,h=>by simp at h
 | p :: l,σ,σ',h=>by
  show updσ (upd σ p.1 (some p.2)) l id = updσ (upd σ' p.1 (some p.2)) l id
  by_cases h1 : id = p.1
  ·exact updσ_congr l (by simp [upd_apply,h1])
  ·exact updσ_key l (by
    rcases List.mem_cons.1 h with h | h
    ·exact absurd h h1
    ·exact h)

theorem idsOf_mem {ρ : AX→SV} : ∀ {xs : List AX} {x : AX} {id : Nat},x ∈ xs→id ∈ (ρ x).ids→id ∈ idsOf ρ xs
 | [],x,id,h,_=>by cases h
 | y :: ys,x,id,h,hi=>by
  rcases List.mem_cons.1 h with rfl | h
  ·exact List.mem_append_left _ hi
  ·exact List.mem_append_right _ (idsOf_mem h hi)

theorem one_ids : ∀ {s : SV} {c : C},s.one? = some c→∀ id ∈ c.ids0,id ∈ s.ids
 | .c x,c,h,id,hi=>by cases h;exact hi
 | .opt _ x,c,h,id,hi=>one_ids (s:=x) h id hi
 | .dead,c,h,_,_=>by cases h
 | .agg _,c,h,_,_=>by cases h
 | .tup _,c,h,_,_=>by cases h

section
variable {ρ ρ' : AX→SV} {σ σ' : Nat→Option Ent} {fr : Nat}

theorem presOf_congr : ∀ {xs : List AX},(∀ x ∈ xs,ρ x = ρ' x)→(presOf ρ xs ↔ presOf ρ' xs)
 | [],_=>Iff.rfl
 | x :: xs,h=>by
  simp only [presOf,h x (by simp)]
  rw [presOf_congr fun y hy=>h y (by simp [hy])]

theorem idsOf_congr : ∀ {xs : List AX},(∀ x ∈ xs,ρ x = ρ' x)→idsOf ρ xs = idsOf ρ' xs
 | [],_=>rfl
 | x :: xs,h=>by
  simp only [idsOf,h x (by simp)]
  rw [idsOf_congr fun y hy=>h y (by simp [hy])]

theorem bldFold_congr : ∀ {ps : List (Nat × Nat × AX)} {cs : List C},(∀ p ∈ ps,ρ p.2.2 = ρ' p.2.2)→bldFold ρ ps cs = bldFold ρ' ps cs
 | [],_,_=>rfl
 | (off,k,x) :: ps,cs,h=>by
  have hx : ρ x = ρ' x:=h (off,k,x) (by simp)
  simp only [bldFold,hx]
  split
  ·split
   ·exact bldFold_congr fun p hp=>h p (by simp [hp])
   ·rfl
  ·rfl

theorem bSRows_congr {s : Nat} : ∀ {ps : List AX},(∀ p ∈ ps,ρ p = ρ' p)→bSRows ρ s ps = bSRows ρ' s ps
 | [],_=>rfl
 | x :: ps,h=>by
  simp only [bSRows,h x (by simp)]
  rw [bSRows_congr fun p hp=>h p (by simp [hp])]

theorem caps1_congr : ∀ {ps : List AX},(∀ p ∈ ps,ρ p = ρ' p)→caps1 ρ ps = caps1 ρ' ps
 | [],_=>rfl
 | x :: ps,h=>by
  simp only [caps1,h x (by simp)]
  rw [caps1_congr fun p hp=>h p (by simp [hp])]

theorem map_congr_ax {ps : List AX} (h : ∀ p ∈ ps,ρ p = ρ' p) : ps.map ρ = ps.map ρ':=List.map_congr_left h

theorem rowsOf_congr {c : C} (h : ∀ id ∈ c.ids0,σ id = σ' id) : rowsOf σ c = rowsOf σ' c:=by
 unfold rowsOf
 split <;> first | rfl | skip
 ·rename_i id
  rw [h id (by simp [C.ids0])]
 ·rename_i id lo q
  rw [h id (by simp [C.ids0])]

theorem winTo_congr {s : Nat} {c : C} {l : Int} {h : Option Int} (hσ : ∀ id ∈ c.ids0,σ id = σ' id) : winTo σ s c l h = winTo σ' s c l h:=by
 unfold winTo
 split
 ·rename_i id;rw [hσ id (by simp [C.ids0])]
 ·rename_i id lo q;rw [hσ id (by simp [C.ids0])]
 ·rfl

theorem sliceTo_congr {s : Nat} {c : C} {l : Int} {h : Option Int} (hσ : ∀ id ∈ c.ids0,σ id = σ' id) : sliceTo σ s c l h = sliceTo σ' s c l h:=by
 unfold sliceTo
 rw [rowsOf_congr hσ]
 cases c with
 | osl id=>simp only [hσ id (by simp [C.ids0])]
 | v x =>
  cases rowsOf σ' (.v x) with
  | none=>rfl
  | some rows =>
   cases x with
   | slice ad n k=>cases ad <;> rfl
   | _=>rfl
 | _=>rfl

theorem keepTo_congr {s : Nat} {c : C} {l h : Option Int} (hfr : σ fr = σ' fr) (hσ : ∀ id ∈ c.ids0,σ id = σ' id) : keepTo σ fr s c l h = keepTo σ' fr s c l h:=by
 unfold keepTo
 split
 ·rfl
 ·rename_i id l;rw [hσ id (by simp [C.ids0])]
 ·rename_i id h;rw [hσ id (by simp [C.ids0]),hfr]
 ·rfl

theorem srcOf_congr {s : Nat} {c : C} (hσ : ∀ id ∈ c.ids0,σ id = σ' id) : srcOf σ s c = srcOf σ' s c:=by
 unfold srcOf
 split
 ·rfl
 ·rw [rowsOf_congr hσ]

theorem bnd_congr {d : Int} {x : Option AX} (h : ∀ y ∈ x.toList,ρ y = ρ' y) : bnd ρ d x = bnd ρ' d x:=by
 cases x with
 | none=>rfl
 | some y=>simp only [bnd,h y (by simp)]

theorem bnd'_congr {x : Option AX} (h : ∀ y ∈ x.toList,ρ y = ρ' y) : bnd' ρ x = bnd' ρ' x:=by
 cases x with
 | none=>rfl
 | some y=>simp only [bnd',h y (by simp)]

theorem eff_congr_ρ {op : AOp} (h : ∀ x ∈ op.ops,ρ x = ρ' x) : eff ρ σ fr op = eff ρ' σ fr op:=by
 cases op with
 | mv x=>simp only [eff,h x (by simp [AOp.ops])]
 | pick c a b=>simp only [eff,h c (by simp [AOp.ops]),h a (by simp [AOp.ops]),h b (by simp [AOp.ops])]
 | alloc z=>rfl
 | bad=>rfl
 | nilC x=>simp only [eff,h x (by simp [AOp.ops,AOp.needs])]
 | clr s z x=>simp only [eff,h x (by simp [AOp.ops,AOp.needs])]
 | capN x=>simp only [eff,h x (by simp [AOp.ops,AOp.needs])]
 | rgS x=>simp only [eff,h x (by simp [AOp.ops,AOp.needs])]
 | nxS x=>simp only [eff,h x (by simp [AOp.ops,AOp.needs])]
 | cvB x=>simp only [eff,h x (by simp [AOp.ops,AOp.needs])]
 | appZ E s b z x y=>simp only [eff,h x (by simp [AOp.ops,AOp.needs]),h y (by simp [AOp.ops,AOp.needs])]
 | box x=>simp only [eff,h x (by simp [AOp.ops,AOp.needs])]
 | ld1 x=>simp only [eff,h x (by simp [AOp.ops,AOp.needs])]
 | ldn k x=>simp only [eff,h x (by simp [AOp.ops,AOp.needs])]
 | st k x y=>simp only [eff,h x (by simp [AOp.ops,AOp.needs]),h y (by simp [AOp.ops,AOp.needs])]
 | bin o b x y=>simp only [eff,h x (by simp [AOp.ops,AOp.needs]),h y (by simp [AOp.ops,AOp.needs])]
 | cmpP b x=>simp only [eff,h x (by simp [AOp.ops,AOp.needs])]
 | cmpS b x=>simp only [eff,h x (by simp [AOp.ops,AOp.needs])]
 | un o x=>simp only [eff,h x (by simp [AOp.ops,AOp.needs])]
 | cvI o x=>simp only [eff,h x (by simp [AOp.ops,AOp.needs])]
 | b2s x=>simp only [eff,h x (by simp [AOp.ops,AOp.needs])]
 | s2b x=>simp only [eff,h x (by simp [AOp.ops,AOp.needs])]
 | fa o x=>simp only [eff,h x (by simp [AOp.ops,AOp.needs])]
 | ia s x y=>simp only [eff,h x (by simp [AOp.ops,AOp.needs]),h y (by simp [AOp.ops,AOp.needs])]
 | idxS x y=>simp only [eff,h x (by simp [AOp.ops,AOp.needs]),h y (by simp [AOp.ops,AOp.needs])]
 | slc s x lo hi=>simp only [eff,h x (by simp [AOp.ops,AOp.needs]),bnd'_congr (x:=lo) (fun y hy=>h y (List.mem_cons_of_mem _ (List.mem_append_left _ hy))),bnd_congr (x:=lo) (fun y hy=>h y (List.mem_cons_of_mem _ (List.mem_append_left _ hy))),bnd'_congr (x:=hi) (fun y hy=>h y (List.mem_cons_of_mem _ (List.mem_append_right _ hy)))]
 | slc3 s x lo hi q=>simp only [eff,h x (by simp [AOp.ops,AOp.needs]),h q (by simp [AOp.ops,AOp.needs]),bnd_congr (x:=lo) (fun y hy=>h y (List.mem_cons_of_mem _ (List.mem_cons_of_mem _ (List.mem_append_left _ hy)))),bnd'_congr (x:=hi) (fun y hy=>h y (List.mem_cons_of_mem _ (List.mem_cons_of_mem _ (List.mem_append_right _ hy))))]
 | slcS x lo hi=>simp only [eff,h x (by simp [AOp.ops,AOp.needs]),bnd_congr (x:=lo) (fun y hy=>h y (List.mem_cons_of_mem _ (List.mem_append_left _ hy))),bnd_congr (x:=hi) (fun y hy=>h y (List.mem_cons_of_mem _ (List.mem_append_right _ hy)))]
 | mkS E s z b n c=>simp only [eff,h n (by simp [AOp.ops,AOp.needs]),h c (by simp [AOp.ops,AOp.needs])]
 | bS E s ps=>simp only [eff,bSRows_congr (ps:=ps) (fun p hp=>h p hp)]
 | bld z ps=>simp only [eff,bldFold_congr (ps:=ps) (fun p hp=>h p.2.2 (List.mem_map_of_mem hp))]
 | fld1 o x=>simp only [eff,h x (by simp [AOp.ops,AOp.needs])]
 | fldn o k x=>simp only [eff,h x (by simp [AOp.ops,AOp.needs])]
 | ext i x=>simp only [eff,h x (by simp [AOp.ops,AOp.needs])]
 | mkF f cs=>simp only [eff,caps1_congr (ps:=cs) (fun p hp=>h p hp)]
 | len x=>simp only [eff,h x (by simp [AOp.ops,AOp.needs])]
 | lenS x=>simp only [eff,h x (by simp [AOp.ops,AOp.needs])]
 | lenM x=>simp only [eff,h x (by simp [AOp.ops,AOp.needs])]
 | app E s b x y=>simp only [eff,h x (by simp [AOp.ops,AOp.needs]),h y (by simp [AOp.ops,AOp.needs])]
 | mx b x xs=>simp only [eff,h x (by simp [AOp.ops,AOp.needs]),map_congr_ax (ps:=xs) (fun p hp=>h p (List.mem_cons_of_mem _ hp))]
 | mkM b=>rfl
 | lkp z agg ok x y=>simp only [eff,h x (by simp [AOp.ops,AOp.needs]),h y (by simp [AOp.ops,AOp.needs])]
 | mup agg x y z=>simp only [eff,h x (by simp [AOp.ops,AOp.needs]),h y (by simp [AOp.ops,AOp.needs]),h z (by simp [AOp.ops,AOp.needs])]
 | call f as=>rfl
 | callv x as=>rfl

theorem at_id {xs : List AX} {x : AX} {c : C} {id : Nat} (hσ : ∀ id ∈ idsOf ρ xs ++ [fr],σ id = σ' id) (hx : x ∈ xs) (h1 : (ρ x).one? = some c) (hi : id ∈ c.ids0) : σ id = σ' id :=
 hσ id (List.mem_append_left _ (idsOf_mem hx (one_ids h1 id hi)))

theorem at_fr {xs : List AX} (hσ : ∀ id ∈ idsOf ρ xs ++ [fr],σ id = σ' id) : σ fr = σ' fr:=hσ fr (by simp)

theorem eff_congr_σ {op : AOp} (h : ∀ id ∈ idsOf ρ op.rds ++ [fr],σ id = σ' id) : eff ρ σ fr op = eff ρ σ' fr op:=by
 have hfr:=at_fr h
 cases op <;> first
  | rfl
  | (simp only [eff,hfr];done)
  | skip
 case app E s b x y =>
  simp only [eff,hfr]
  split
  ·rename_i cx' cy' _ h1 h2
   have hy : ∀ id ∈ cy'.ids0,σ id = σ' id:=fun id hi=>at_id h (by simp [AOp.rds,AOp.ops,AOp.needs]) h2 hi
   rw [srcOf_congr hy]
   have hx : ∀ id,(cx' = .osl id∨∃ lo n,cx' = .ow id lo n)→σ id = σ' id:=fun id he=>at_id h (x:=x) (by simp [AOp.rds,AOp.ops,AOp.needs]) h1 (by rcases he with he | ⟨lo,n,he⟩ <;> (rw [he];simp [C.ids0]))
   generalize srcOf σ' s cy' = src
   split
   ·rfl
   ·rename_i id new q;rw [hx id (.inl rfl)]
   ·rename_i id lo n new q;rw [hx id (.inr ⟨lo,n,rfl⟩)]
   ·rfl
  ·rfl
 case ld1 x =>
  simp only [eff]
  split
  ·rename_i id off h1;rw [at_id h (by simp [AOp.rds,AOp.ops,AOp.needs]) h1 (by simp [C.ids0] : id ∈ _)]
  ·rename_i id i off h1;rw [at_id h (by simp [AOp.rds,AOp.ops,AOp.needs]) h1 (by simp [C.ids0] : id ∈ _)]
  ·rfl
  ·rfl
 case ldn k x =>
  simp only [eff]
  split
  ·rename_i id off h1;rw [at_id h (by simp [AOp.rds,AOp.ops,AOp.needs]) h1 (by simp [C.ids0] : id ∈ _)]
  ·rename_i id i off h1;rw [at_id h (by simp [AOp.rds,AOp.ops,AOp.needs]) h1 (by simp [C.ids0] : id ∈ _)]
  ·rfl
  ·rfl
 case st k x y =>
  simp only [eff]
  split
  ·rename_i id off ys h1 h2;rw [at_id h (x:=x) (by simp [AOp.rds,AOp.ops,AOp.needs]) h1 (by simp [C.ids0] : id ∈ _)]
  ·rename_i id i off ys h1 h2;rw [at_id h (x:=x) (by simp [AOp.rds,AOp.ops,AOp.needs]) h1 (by simp [C.ids0] : id ∈ _)]
  ·rfl
 case cmpS b x =>
  simp only [eff]
  split
  ·rfl
  ·rfl
  ·rfl
  ·rename_i id h1;rw [at_id h (x:=x) (by simp [AOp.rds,AOp.ops,AOp.needs]) h1 (by simp [C.ids0] : id ∈ _)]
  ·rfl
 case b2s x =>
  simp only [eff]
  cases h1 : (ρ x).one? with
  | none=>rfl
  | some c=>simp only [Option.bind_some];rw [rowsOf_congr fun id hi=>at_id h (by simp [AOp.rds,AOp.ops,AOp.needs]) h1 hi]
 case fa o x =>
  simp only [eff]
  split
  ·rfl
  ·rename_i id i o h1;rw [at_id h (x:=x) (by simp [AOp.rds,AOp.ops,AOp.needs]) h1 (by simp [C.ids0] : id ∈ _)]
  ·rfl
  ·rfl
 case ia s x y =>
  simp only [eff]
  split
  ·rfl
  ·rename_i id k n h1 h2;rw [at_id h (x:=x) (by simp [AOp.rds,AOp.ops,AOp.needs]) h1 (by simp [C.ids0] : id ∈ _)]
  ·rename_i id lo q k n h1 h2;rw [at_id h (x:=x) (by simp [AOp.rds,AOp.ops,AOp.needs]) h1 (by simp [C.ids0] : id ∈ _)]
  ·rfl
 case clr s z x =>
  simp only [eff]
  split
  ·rename_i id lo q h1;rw [at_id h (x:=x) (by simp [AOp.rds,AOp.ops,AOp.needs]) h1 (by simp [C.ids0] : id ∈ _)]
  ·rfl
 case cvB x =>
  simp only [eff]
  split
  ·rename_i id h1;rw [at_id h (x:=x) (by simp [AOp.rds,AOp.ops,AOp.needs]) h1 (by simp [C.ids0] : id ∈ _)]
  ·rfl
 case slc s x lo hi =>
  simp only [eff]
  split
  ·split
   ·rename_i c l hh h1 h2 h3;exact winTo_congr fun id hi=>at_id h (x:=x) (by simp [AOp.rds,AOp.ops,AOp.needs]) h1 hi
   ·rfl
  split
  ·split
   ·rename_i c l hh h1 h2 h3;exact keepTo_congr hfr fun id hi=>at_id h (x:=x) (by simp [AOp.rds,AOp.ops,AOp.needs]) h1 hi
   ·rfl
  split
  ·rename_i c l hh h1 h2 h3;exact sliceTo_congr fun id hi=>at_id h (x:=x) (by simp [AOp.rds,AOp.ops,AOp.needs]) h1 hi
  ·rfl
 case slc3 s x lo hi q =>
  simp only [eff]
  split
  ·rfl
  ·rename_i id l hh k n h1 h2 h3 h4;rw [at_id h (x:=x) (by simp [AOp.rds,AOp.ops,AOp.needs]) h1 (by simp [C.ids0] : id ∈ _)]
  ·rfl
 case len x =>
  simp only [eff]
  cases h1 : (ρ x).one? with
  | none=>rfl
  | some c=>simp only [Option.bind_some];rw [rowsOf_congr fun id hi=>at_id h (by simp [AOp.rds,AOp.ops,AOp.needs]) h1 hi]
 case lenM x =>
  simp only [eff]
  split
  ·rename_i id h1;rw [at_id h (x:=x) (by simp [AOp.rds,AOp.ops,AOp.needs]) h1 (by simp [C.ids0] : id ∈ _)]
  ·rfl
 case nxS x =>
  simp only [eff]
  split
  ·rename_i id h1;rw [at_id h (x:=x) (by simp [AOp.rds,AOp.ops,AOp.needs]) h1 (by simp [C.ids0] : id ∈ _)]
  ·rfl
 case lkp z agg ok x y =>
  simp only [eff]
  split
  ·rename_i id j n h1 h2;rw [at_id h (x:=x) (by simp [AOp.rds,AOp.ops,AOp.needs]) h1 (by simp [C.ids0] : id ∈ _)]
  ·rfl
 case mup agg x y z =>
  simp only [eff]
  split
  ·rename_i id j n cs h1 h2 h3;rw [at_id h (x:=x) (by simp [AOp.rds,AOp.ops,AOp.needs]) h1 (by simp [C.ids0] : id ∈ _)]
  ·rfl

end
end Go.Abs

namespace Go.Abs
open Go

def slotsOf : List AX→List Nat
 | []=>[]
 | .t n :: l=>n :: slotsOf l
 | .k _ :: l=>slotsOf l

theorem slotsOf_mem : ∀ {l : List AX} {n : Nat},AX.t n ∈ l→n ∈ slotsOf l
 | .t k :: l,n,h=>by
  rcases List.mem_cons.1 h with h | h
  ·cases h;simp [slotsOf]
  ·simp [slotsOf,slotsOf_mem h]
 | .k _ :: l,n,h=>by
  rcases List.mem_cons.1 h with h | h
  ·cases h
  ·exact slotsOf_mem (l:=l) h

def AO.reads (o : AO) : List Nat:=slotsOf o.op.ops ++ (match o.gd with | some (s,_)=>[s] | none=>[])
def AO.writes (o : AO) : List Nat:=o.dst.toList

theorem ev_congr {sl sl' : Nat→SV} {l : List AX} (h : ∀ t ∈ slotsOf l,sl t = sl' t) : ∀ x ∈ l,ev sl x = ev sl' x:=by
 intro x hx
 cases x with
 | t n=>exact h n (slotsOf_mem hx)
 | k _=>rfl

section
variable {P : Program} {fr : Nat} {sl sl' : Nat→SV} {σ σ' : Nat→Option Ent} {r : Rec}

theorem TrC0_congr {ids views : List Nat} (h : ∀ id ∈ views,σ id = σ' id) {c c' : C} (ht : TrC0 σ ids views c c') : TrC0 σ' ids views c c':=by
 cases c <;> cases c' <;> first | exact ht | skip
 obtain ⟨h1,h2⟩:=ht
 exact ⟨h1,by rw [← h _ h1];exact h2⟩

theorem TrL_imp {α β : Type} {T T' : α→β→Prop} (h : ∀ x y,T x y→T' x y) : ∀ {xs : List α} {ys : List β},TrL T xs ys→TrL T' xs ys
 | [],[],_=>trivial
 | x :: xs,y :: ys,ht=>⟨h _ _ ht.1,TrL_imp h ht.2⟩
 | [],_ :: _,ht=>ht.elim
 | _ :: _,[],ht=>ht.elim

theorem TrC_congr {ids views : List Nat} (h : ∀ id ∈ views,σ id = σ' id) {c c' : C} (ht : TrC σ ids views c c') : TrC σ' ids views c c':=by
 by_cases hc : ∀ f caps,c≠.fn f caps
 ·have : ∀ τ,TrC τ ids views c c' ↔ TrC0 τ ids views c c':=fun τ=>by cases c <;> first | exact (hc _ _ rfl).elim | exact Iff.rfl
  exact (this _).2 (TrC0_congr h ((this _).1 ht))
 ·cases c with
  | fn f caps =>
   cases c' with
   | fn f' caps'=>exact ⟨ht.1,TrL_imp (fun _ _=>TrC0_congr h) ht.2⟩
   | _=>exact ht.elim
  | _=>exact absurd (by intro f caps;simp) hc

theorem TrSV_congr {ids views : List Nat} (h : ∀ id ∈ views,σ id = σ' id) : ∀ {s s' : SV},TrSV σ ids views s s'→TrSV σ' ids views s s'
 | .c x,s',ht=>by
  cases s' with
  | c y=>exact TrC_congr h ht
  | _=>exact ht.elim
 | .agg xs,s',ht=>by
  cases s' with
  | agg ys=>exact TrL_imp (fun _ _=>TrC_congr h) ht
  | _=>exact ht.elim
 | .opt _ x,s',ht=>⟨ht.1,TrSV_congr h (s:=x) ht.2⟩
 | .dead,s',ht=>by cases s' <;> exact ht.elim
 | .tup _,s',ht=>by cases s' <;> exact ht.elim

theorem TrEnt_congr {ids views : List Nat} (h : ∀ id ∈ views,σ id = σ' id) {e e' : Ent} (ht : TrEnt σ ids views e e') : TrEnt σ' ids views e e':=by
 cases e <;> cases e' <;> first | exact ht | skip
 exact TrL_imp (fun _ _=>TrC_congr h) ht

theorem filterMap_congr' {α β : Type} {f g : α→Option β} : ∀ {l : List α},(∀ x ∈ l,f x = g x)→l.filterMap f = l.filterMap g
 | [],_=>rfl
 | x :: l,h=>by
  have ih : l.filterMap f = l.filterMap g:=filterMap_congr' fun y hy=>h y (List.mem_cons_of_mem _ hy)
  rw [List.filterMap_cons,List.filterMap_cons,h x (by simp),ih]

theorem callOk_congr {f : FuncId} {sargs : List SV} (h : ∀ id ∈ r.rd,σ id = σ' id) (hc : CallOk P f sargs σ fr r) : CallOk P f sargs σ' fr r:=by
 rcases hc with ⟨args,res,views,hcon,ht,hvw,hsc,rfl⟩ | ⟨args,objs,res,out,ids,views,U,hcon,ht,h1,h2,h3,h4,h5,h6,h7,h8,h9,hU,rfl⟩
 ·exact .inl ⟨args,res,views,hcon,TrL_imp (fun _ _=>TrSV_congr h) ht,fun id hid=>by rw [← h id hid];exact hvw id hid,hsc.imp (fun hs=>hs) fun hs=>⟨hs.1,fun id hid=>by rw [← h id hid];exact hs.2 id hid⟩,rfl⟩
 ·have hv : ∀ id ∈ views,σ id = σ' id:=fun id hid=>h id (List.mem_append_left _ (List.mem_append_right _ hid))
  have hi : ∀ id ∈ ids,σ id = σ' id:=fun id hid=>h id (List.mem_append_left _ (List.mem_append_left _ hid))
  refine .inr ⟨args,objs,res,out,ids,views,U,hcon,TrL_imp (fun _ _=>TrSV_congr hv) ht,fun k id hk=>?_,h2,h3,h4,fun id hid=>by rw [← hv id hid];exact h5 id hid,fun j hj=>?_,h7,h8,h9,?_,rfl⟩
  ·obtain ⟨e,e',g1,g2,g3⟩:=h1 k id hk
   exact ⟨e,e',by rw [← hi id (List.mem_of_getElem? hk)];exact g1,g2,TrEnt_congr hv g3⟩
  ·rw [← h (fr + j) (List.mem_append_right _ (List.mem_map_of_mem (List.mem_range.2 hj)))]
   exact h6 j hj
  ·have : backUps σ ids views fr out = backUps σ' ids views fr out:=by
    unfold backUps
    congr 1
    exact filterMap_congr' fun id hid=>by rw [hv id hid]
   rw [← this]
   refine ⟨hU.1,fun p hp=>(hU.2 p hp).imp (fun h=>h) fun hp2=>?_⟩
   rw [← hp2]
   obtain ⟨i,e⟩:=p
   rcases mem_backUps.1 hp with ⟨k,e0,g1,_⟩ | ⟨j,e0,g1,g2,_⟩ | ⟨g1,_⟩
   ·exact (hi i (List.mem_of_getElem? g1)).symm
   ·refine (h i (List.mem_append_right _ (List.mem_map.2 ⟨j,List.mem_range.2 ?_,g2.symm⟩))).symm
    rcases Nat.lt_or_ge (ids.length + j) out.length with h1 | h1
    ·omega
    ·rw [List.getElem?_eq_none h1] at g1;cases g1
   ·exact (hv i g1).symm

theorem en0_congr {op : AOp} (h1 : ∀ t ∈ slotsOf op.ops,sl t = sl' t) (h2 : ∀ id ∈ r.rd,σ id = σ' id) (he : En0 P fr op sl σ r) : En0 P fr op sl' σ' r:=by
 have hev:=ev_congr h1
 by_cases hcl : op.isCall = false
 ·obtain ⟨sv,ups,cond,g1,g2,g3,rfl⟩:=en0_plain hcl he
  have hneeds : ∀ x ∈ op.needs,ev sl x = ev sl' x:=fun x hx=>hev x (by
   cases op <;> first
    | exact hx
    | (simp only [AOp.needs] at hx;simp only [AOp.ops];simp_all;done))
  have key : ∃ sv' ups' cond',eff (ev sl') σ' fr op = some (sv',ups',cond')∧cond'∧presOf (ev sl') op.needs∧(⟨sv,ups,idsOf (ev sl) op.rds ++ [fr]⟩ : Rec) = ⟨sv',ups',idsOf (ev sl') op.rds ++ [fr]⟩:=by
   refine ⟨sv,ups,cond,?_,g2,(presOf_congr hneeds).1 g3,by rw [idsOf_congr (xs:=op.rds) fun x hx=>hev x (by cases op <;> first | exact hx | cases hx)]⟩
   rw [← eff_congr_ρ (ρ:=ev sl) (ρ':=ev sl') hev,← eff_congr_σ h2]
   exact g1
  cases op <;> first | exact key | cases hcl
 ·cases op <;> first | (exact absurd rfl hcl;done) | skip
  ·rename_i f args
   have : args.map (ev sl) = args.map (ev sl'):=List.map_congr_left fun x hx=>hev x hx
   show CallOk P f (args.map (ev sl')) σ' fr r
   rw [← this]
   exact callOk_congr h2 he
  ·rename_i x args
   obtain ⟨f,caps,g1,g2,g3⟩:=he
   have hx : ev sl x = ev sl' x:=hev x (by simp [AOp.ops,AOp.needs])
   have : args.map (ev sl) = args.map (ev sl'):=List.map_congr_left fun y hy=>hev y (by simp [AOp.ops,AOp.needs,hy])
   exact ⟨f,caps,by rw [← hx];exact g1,by rw [← hx];exact g2,by rw [← this];exact callOk_congr h2 g3⟩

theorem en_congr {o : AO} (h1 : ∀ t ∈ o.reads,sl t = sl' t) (h2 : ∀ id ∈ r.rd,σ id = σ' id) (he : En P fr o sl σ r) : En P fr o sl' σ' r:=by
 have ho : ∀ t ∈ slotsOf o.op.ops,sl t = sl' t:=fun t ht=>h1 t (List.mem_append_left _ ht)
 unfold En at he ⊢
 split at he
 ·exact en0_congr ho h2 he
 ·rename_i gs want hg
  rcases he with ⟨g,t,sv,g1,g2,g3⟩ | ⟨g,t,g1,g2,g3⟩
  ·refine .inl ⟨g,t,sv,?_,g2,fun hh=>en0_congr ho h2 (g3 hh)⟩
   rw [← h1 gs (List.mem_append_right _ (by rw [hg];simp))]
   exact g1
  ·refine .inr ⟨g,t,?_,g2,en0_congr ho h2 g3⟩
   rw [← h1 gs (List.mem_append_right _ (by rw [hg];simp))]
   exact g1

end

def RunL (P : Program) : Nat→List AO→St→List Rec→(St→List Rec→Prop)→Prop
 | _,[],st,rs,K=>K st rs.reverse
 | fr,o :: l,st,rs,K=>∃ r,En P fr o st.sl st.σ r∧RunL P (fr + 16) l (st.put o.dst r) (r :: rs) K

def fold (L : Nat→Bool) : Nat→List (AO × Rec)→St→St
 | _,[],st=>st
 | i,p :: l,st=>fold L (i + 1) l (if L i then st.put p.1.dst p.2 else st)

theorem put_sl {st st' : St} {t : Nat} (h : st.sl t = st'.sl t) (d : Option Nat) (r : Rec) : (st.put d r).sl t = (st'.put d r).sl t:=by
 cases d with
 | none=>exact h
 | some d=>simp only [St.put,upd_apply];split <;> simp_all

theorem put_sl_ne {st : St} {t : Nat} {d : Option Nat} (h : d≠some t) (r : Rec) : (st.put d r).sl t = st.sl t:=by
 cases d with
 | none=>rfl
 | some d=>simp only [St.put,upd_apply];rw [if_neg (by rintro rfl;exact h rfl)]

theorem fold_sl {t : Nat} {L L' : Nat→Bool} : ∀ (l : List (AO × Rec)) (i : Nat) (st st' : St),st.sl t = st'.sl t→(∀ (j : Nat) (p : AO × Rec),l[j]? = some p→p.1.dst = some t→L (i + j) = L' (i + j))→(fold L i l st).sl t = (fold L' i l st').sl t
 | [],_,_,_,h,_=>h
 | p :: l,i,st,st',h,hL=>by
  refine fold_sl l (i + 1) _ _ ?_ fun j q hj hd=>by rw [Nat.add_assoc,Nat.add_comm 1 j];exact hL (j + 1) q (by simpa using hj) hd
  by_cases hd : p.1.dst = some t
  ·have:=hL 0 p rfl hd
   simp only [Nat.add_zero] at this
   rw [this]
   split
   ·exact put_sl h _ _
   ·exact h
  ·have e1 : ∀ (b : Bool) (s : St),(if b then s.put p.1.dst p.2 else s).sl t = s.sl t:=fun b s=>by cases b <;> simp [put_sl_ne hd]
   rw [e1,e1];exact h

theorem fold_σ {id : Nat} {L L' : Nat→Bool} : ∀ (l : List (AO × Rec)) (i : Nat) (st st' : St),st.σ id = st'.σ id→(∀ (j : Nat) (p : AO × Rec),l[j]? = some p→id ∈ p.2.ups.map (·.1)→L (i + j) = L' (i + j))→(fold L i l st).σ id = (fold L' i l st').σ id
 | [],_,_,_,h,_=>h
 | p :: l,i,st,st',h,hL=>by
  refine fold_σ l (i + 1) _ _ ?_ fun j q hj hd=>by rw [Nat.add_assoc,Nat.add_comm 1 j];exact hL (j + 1) q (by simpa using hj) hd
  by_cases hd : id ∈ p.2.ups.map (·.1)
  ·have:=hL 0 p rfl hd
   simp only [Nat.add_zero] at this
   rw [this]
   split
   ·exact updσ_congr _ h
   ·exact h
  ·have e1 : ∀ (b : Bool) (s : St),(if b then s.put p.1.dst p.2 else s).σ id = s.σ id:=fun b s=>by
    cases b
    ·rfl
    ·exact updσ_not id _ _ fun q hq hqe=>hd (List.mem_map.2 ⟨q,hq,hqe⟩)
   rw [e1,e1];exact h

theorem fold_sl_last {t : Nat} {L : Nat→Bool} : ∀ (l : List (AO × Rec)) (i k : Nat) (p : AO × Rec) (st : St),l[k]? = some p→p.1.dst = some t→L (i + k) = true→(∀ (j : Nat) (q : AO × Rec),k < j→l[j]? = some q→q.1.dst = some t→L (i + j) = false)→(fold L i l st).sl t = p.2.sv
 | [],_,_,_,_,h,_,_,_=>by simp at h
 | q :: l,i,0,p,st,h,hd,hL,hn=>by
  simp only [List.getElem?_cons_zero,Option.some.injEq] at h
  subst h
  simp only [Nat.add_zero] at hL
  show (fold L (i + 1) l (if L i then st.put q.1.dst q.2 else st)).sl t = _
  rw [hL,if_pos rfl]
  rw [fold_sl (L':=fun _=>false) l (i + 1) _ (st.put q.1.dst q.2) rfl (fun j x hj hx=>by
   have:=hn (j + 1) x (by omega) (by simpa using hj) hx
   rw [Nat.add_assoc,Nat.add_comm 1 j];exact this)]
  have : ∀ (l : List (AO × Rec)) (i : Nat) (s : St),fold (fun _=>false) i l s = s:=by
   intro l
   induction l with
   | nil=>intro i s;rfl
   | cons x l ih=>intro i s;exact ih (i + 1) s
  rw [this,hd]
  simp [St.put,upd_apply]
 | q :: l,i,k + 1,p,st,h,hd,hL,hn=>by
  refine fold_sl_last l (i + 1) k p _ (by simpa using h) hd (by rw [Nat.add_assoc,Nat.add_comm 1 k];exact hL) fun j x hj hx hxd=>?_
  have:=hn (j + 1) x (by omega) (by simpa using hx) hxd
  rw [Nat.add_assoc,Nat.add_comm 1 j];exact this

theorem fold_σ_last {id : Nat} {L : Nat→Bool} : ∀ (l : List (AO × Rec)) (i k : Nat) (p : AO × Rec) (st : St) (τ : Nat→Option Ent),l[k]? = some p→id ∈ p.2.ups.map (·.1)→L (i + k) = true→(∀ (j : Nat) (q : AO × Rec),k < j→l[j]? = some q→id ∈ q.2.ups.map (·.1)→L (i + j) = false)→(fold L i l st).σ id = updσ τ p.2.ups id
 | [],_,_,_,_,_,h,_,_,_=>by simp at h
 | q :: l,i,0,p,st,τ,h,hd,hL,hn=>by
  simp only [List.getElem?_cons_zero,Option.some.injEq] at h
  subst h
  simp only [Nat.add_zero] at hL
  show (fold L (i + 1) l (if L i then st.put q.1.dst q.2 else st)).σ id = _
  rw [hL,if_pos rfl]
  rw [fold_σ (L':=fun _=>false) l (i + 1) _ (st.put q.1.dst q.2) rfl (fun j x hj hx=>by
   have:=hn (j + 1) x (by omega) (by simpa using hj) hx
   rw [Nat.add_assoc,Nat.add_comm 1 j];exact this)]
  have : ∀ (l : List (AO × Rec)) (i : Nat) (s : St),fold (fun _=>false) i l s = s:=by
   intro l
   induction l with
   | nil=>intro i s;rfl
   | cons x l ih=>intro i s;exact ih (i + 1) s
  rw [this]
  exact updσ_key _ hd
 | q :: l,i,k + 1,p,st,τ,h,hd,hL,hn=>by
  refine fold_σ_last l (i + 1) k p _ τ (by simpa using h) hd (by rw [Nat.add_assoc,Nat.add_comm 1 k];exact hL) fun j x hj hx hxd=>?_
  have:=hn (j + 1) x (by omega) (by simpa using hx) hxd
  rw [Nat.add_assoc,Nat.add_comm 1 j];exact this

theorem RunL.parts {P : Program} : ∀ (aos : List AO) (fr : Nat) (st : St) (rs : List Rec) (K : St→List Rec→Prop),RunL P fr aos st rs K →
  ∃ l : List (AO × Rec),l.map (·.1) = aos∧K (fold (fun _=>true) 0 l st) (rs.reverse ++ l.map (·.2))∧∀ (i : Nat) (p : AO × Rec),l[i]? = some p→∀ st',st' = fold (fun j=>decide (j < i)) 0 l st→En P (fr + 16 * i) p.1 st'.sl st'.σ p.2
 | [],fr,st,rs,K,h=>⟨[],rfl,(by simp only [List.map_nil,List.append_nil];exact h),fun i p hp=>by simp at hp⟩
 | o :: aos,fr,st,rs,K,⟨r,h1,h2⟩=>by
  obtain ⟨l,g1,g2,g3⟩:=RunL.parts aos (fr + 16) _ _ K h2
  have shift : ∀ (L L' : Nat→Bool) (l : List (AO × Rec)) (i j : Nat) (s : St),(∀ k,L (i + k) = L' (j + k))→fold L i l s = fold L' j l s:=by
   intro L L' l
   induction l with
   | nil=>intro i j s _;rfl
   | cons x l ih =>
    intro i j s hk
    have h0:=hk 0
    simp only [Nat.add_zero] at h0
    show fold L (i + 1) l _ = fold L' (j + 1) l _
    rw [h0]
    exact ih (i + 1) (j + 1) _ fun k=>by rw [Nat.add_assoc,Nat.add_assoc];exact hk (1 + k)
  refine ⟨(o,r) :: l,by simp [g1],?_,fun i p hp st' hst'=>?_⟩
  ·simp only [List.reverse_cons,List.append_assoc,List.singleton_append] at g2
   show K (fold _ (0 + 1) l _) _
   rw [shift (fun _=>true) (fun _=>true) l (0 + 1) 0 _ fun _=>rfl]
   exact g2
  ·cases i with
   | zero =>
    simp only [List.getElem?_cons_zero,Option.some.injEq] at hp
    subst hp
    have : st' = st:=by
     rw [hst']
     have : ∀ (l : List (AO × Rec)) (i : Nat) (s : St),fold (fun j=>decide (j < 0)) i l s = s:=by
      intro l
      induction l with
      | nil=>intro i s;rfl
      | cons x l ih=>intro i s;exact ih (i + 1) s
     exact this _ _ _
    subst this
    exact h1
   | succ i =>
    have:=g3 i p (by simpa using hp) st' (by
     rw [hst']
     show fold _ (0 + 1) l _ = _
     rw [if_pos (by simp)]
     exact shift _ _ l (0 + 1) 0 _ fun k=>by simp;omega)
    rw [show fr + 16 * (i + 1) = fr + 16 + 16 * i by omega]
    exact this

end Go.Abs

namespace Go.Abs
open Go

def dstOk (N : Nat) : Option Nat→Bool
 | some d=>decide (d < N)
 | none=>true

def guardOf (ops : Array Oper) : Option (Nat × Bool)→Option (Option (Nat × Bool))
 | none=>some none
 | some (j,want)=>((ops[j]?).bind (·.dst)).map fun s=>some (s,want)

def compO (P : Program) (ops : Array Oper) (N : Nat) (o : Oper) : Option AO :=
 match guardOf ops o.guard with
 | some gd=>if dstOk N o.dst then some ⟨(comp P o.op).getD .bad,o.dst,gd,o.after.toList.filterMap fun e=>if Region.binds .any e then some e.on else none⟩ else none
 | none=>none

def compOs (P : Program) (ops : Array Oper) (N : Nat) : List Oper→Option (List AO)
 | []=>some []
 | o :: l=>match compO P ops N o,compOs P ops N l with
  | some a,some r=>some (a :: r)
  | _,_=>none

theorem compO_spec {P : Program} {ops : Array Oper} {N : Nat} {o : Oper} {ao : AO} (h : compO P ops N o = some ao) : CompO P ops N o ao∧ao.after = o.after.toList.filterMap fun e=>if Region.binds .any e then some e.on else none:=by
 unfold compO at h
 split at h
 ·rename_i gd h2
  split at h
  ·rename_i hd
   cases h
   refine ⟨⟨?_,rfl,fun d hd'=>?_,?_⟩,rfl⟩
   ·cases hcp : comp P o.op with
    | none=>exact .inr rfl
    | some x=>exact .inl rfl
   ·have hd'' : o.dst = some d:=hd'
    rw [hd''] at hd
    simpa [dstOk] using hd
   ·cases hg : o.guard with
    | none=>rw [hg] at h2;cases h2;rfl
    | some p =>
     rw [hg] at h2
     simp only [guardOf,Option.map_eq_some_iff] at h2
     obtain ⟨s,h3,h4⟩:=h2
     exact ⟨s,h3,h4.symm⟩
  ·cases h
 ·cases h

theorem compOs_get {P : Program} {ops : Array Oper} {N : Nat} : ∀ {l : List Oper} {aos : List AO},compOs P ops N l = some aos→aos.length = l.length∧∀ (i : Nat) (o : Oper),l[i]? = some o→∃ ao,aos[i]? = some ao∧compO P ops N o = some ao
 | [],aos,h=>by cases h;exact ⟨rfl,fun i o hi=>by simp at hi⟩
 | o :: l,aos,h=>by
  simp only [compOs] at h
  split at h
  ·rename_i a r h1 h2
   cases h
   obtain ⟨g1,g2⟩:=compOs_get h2
   refine ⟨by simp [g1],fun i o' hi=>?_⟩
   cases i with
   | zero=>simp at hi;subst hi;exact ⟨a,rfl,h1⟩
   | succ i=>exact g2 i o' (by simpa using hi)
  ·cases h

theorem fold_false : ∀ (l : List (AO × Rec)) (i : Nat) (st : St),fold (fun _=>false) i l st = st
 | [],_,_=>rfl
 | _ :: l,i,st=>fold_false l (i + 1) st

theorem St.ext' {a b : St} (h1 : ∀ t,a.sl t = b.sl t) (h2 : ∀ id,a.σ id = b.σ id) : a = b:=by
 cases a;cases b
 have e1:=funext h1
 have e2:=funext h2
 simp only at e1 e2
 subst e1;subst e2;rfl

theorem fold_more {l : List (AO × Rec)} {k : Nat} {p : AO × Rec} (hk : l[k]? = some p) {L L' : Nat→Bool} (hL : L' k = true) (hne : ∀ j,j≠k→L' j = L j) (h0 : L k = false) (st : St)
  (hs : ∀ (j : Nat) (q : AO × Rec),k < j→l[j]? = some q→L j = true→(∀ t,p.1.dst = some t→q.1.dst≠some t)∧∀ id ∈ p.2.ups.map (·.1),id ∉ q.2.ups.map (·.1)) :
  (fold L 0 l st).put p.1.dst p.2 = fold L' 0 l st:=by
 refine St.ext' (fun t=>?_) (fun id=>?_)
 ·by_cases hd : p.1.dst = some t
  ·rw [fold_sl_last l 0 k p st hk hd (by simpa using hL) (fun j q hj hq hqd=>by
    rw [Nat.zero_add,hne j (by omega)]
    cases hLj : L j with
    | false=>rfl
    | true=>exact absurd hqd ((hs j q hj hq hLj).1 t hd))]
   simp [St.put,hd,upd_apply]
  ·rw [put_sl_ne hd]
   refine fold_sl l 0 st st rfl fun j q hj hqd=>?_
   rw [Nat.zero_add]
   by_cases hjk : j = k
   ·subst hjk;rw [hk] at hj;cases hj;exact absurd hqd hd
   ·exact (hne j hjk).symm
 ·by_cases hd : id ∈ p.2.ups.map (·.1)
  ·rw [fold_σ_last l 0 k p st (fold L 0 l st).σ hk hd (by simpa using hL) (fun j q hj hq hqd=>by
    rw [Nat.zero_add,hne j (by omega)]
    cases hLj : L j with
    | false=>rfl
    | true=>exact absurd hqd ((hs j q hj hq hLj).2 id hd))]
   rfl
  ·have e1 : ((fold L 0 l st).put p.1.dst p.2).σ id = (fold L 0 l st).σ id:=updσ_not id _ _ fun q hq hqe=>hd (List.mem_map.2 ⟨q,hq,hqe⟩)
   rw [e1]
   refine fold_σ l 0 st st rfl fun j q hj hqd=>?_
   rw [Nat.zero_add]
   by_cases hjk : j = k
   ·subst hjk;rw [hk] at hj;cases hj;exact absurd hqd hd
   ·exact (hne j hjk).symm

section
variable {P : Program} {g : Gr} {m : Nat→Option Nat} {st : St} {w : World} {a : Act} {ops : Array Oper} {aos : List AO} {Q : Exit→Act→World→Prop}

theorem region_plain (hc : compOs P ops a.tmps.size ops.toList = some aos) (hR : R g m st a.tmps w) {fr : Nat} {K : St→List Rec→Prop} (hrun : RunL P fr aos st [] K)
  (hK : ∀ st' rs m' a' w',K st' rs→R g m' st' a'.tmps w'→a'.tmps.size = a.tmps.size→a'.defers = a.defers→Q .normal a' w') : wpOps P ops Q (List.range ops.size) a w:=by
 obtain ⟨l,h1,h2,h3⟩:=RunL.parts aos fr st [] K hrun
 obtain ⟨g1,g2⟩:=compOs_get hc
 have hll : l.length = ops.size:=by
  have:=congrArg List.length h1
  simp at this
  simp at g1
  omega
 have main : ∀ (n i : Nat) (m' : Nat→Option Nat) (a' : Act) (w' : World),i + n = ops.size→R g m' (fold (fun j=>decide (j < i)) 0 l st) a'.tmps w'→a'.tmps.size = a.tmps.size→a'.defers = a.defers→wpOps P ops Q (List.range' i n) a' w':=by
  intro n
  induction n with
  | zero =>
   intro i m' a' w' hi hR' hs hd
   refine hK _ _ m' a' w' h2 ?_ hs hd
   have : fold (fun j=>decide (j < i)) 0 l st = fold (fun _=>true) 0 l st:=by
    refine St.ext' (fun t=>fold_sl l 0 st st rfl fun j q hj _=>?_) (fun id=>fold_σ l 0 st st rfl fun j q hj _=>?_)
    all_goals
     have : j < l.length:=by
      rcases Nat.lt_or_ge j l.length with h | h
      ·exact h
      ·rw [List.getElem?_eq_none h] at hj;cases hj
     simp;omega
   rw [← this]
   exact hR'
  | succ n ih =>
   intro i m' a' w' hi hR' hs hd
   have hil : i < ops.size:=by omega
   have hio : ops[i]? = some ops[i]:=Array.getElem?_eq_getElem hil
   obtain ⟨ao,hao,hco⟩:=g2 i ops[i] (by simpa using hio)
   obtain ⟨hcomp,_⟩:=compO_spec hco
   have hpl : l[i]? = some l[i]:=List.getElem?_eq_getElem (by omega)
   have hpa : l[i].1 = ao:=by
    have : (l.map (·.1))[i]? = some ao:=by rw [h1];exact hao
    rw [List.getElem?_map,hpl] at this
    simpa using this
   have hen:=h3 i _ hpl _ rfl
   rw [List.range'_succ,wpOps_cons]
   rw [← hs] at hcomp
   rw [hpa] at hen
   refine en_sound hR' rfl hio hcomp hen fun m2 a2 w2 hR2 hs2 hd2=>ih (i + 1) m2 a2 w2 (by omega) ?_ (hs2.trans hs) (hd2.trans hd)
   have:=fold_more hpl (L:=fun j=>decide (j < i)) (L':=fun j=>decide (j < i + 1)) (by simp) (fun j hj=>by simp;omega) (by simp) st (fun j q hj hq hLj=>by simp at hLj;omega)
   rw [← this,hpa]
   exact hR2
 have h0 : fold (fun j=>decide (j < 0)) 0 l st = st:=by
  have : (fun j : Nat=>decide (j < 0)) = fun _=>false:=by funext j;simp
  rw [this];exact fold_false l 0 st
 rw [List.range_eq_range']
 exact main ops.size 0 m a w (by omega) (by rw [h0];exact hR) rfl rfl

end

def disj (a b : List Nat) : Bool:=a.all fun x=>!b.contains x

theorem disj_spec {a b : List Nat} (h : disj a b = true) {x : Nat} (hx : x ∈ a) : x ∉ b:=by
 unfold disj at h
 have:=List.all_eq_true.1 h x hx
 simpa using this

def once : List Nat→List Nat
 | []=>[]
 | x :: l=>let s:=once l;if s.contains x then s else x :: s

theorem mem_once {x : Nat} : ∀ {l : List Nat},x ∈ once l→x ∈ l
 | [],h=>h
 | y :: l,h=>by
  simp only [once] at h
  split at h
  ·exact List.mem_cons_of_mem _ (mem_once h)
  ·rcases List.mem_cons.1 h with h | h
   ·rw [h];exact List.mem_cons_self ..
   ·exact List.mem_cons_of_mem _ (mem_once h)

def clos : List (List Nat)→List (List Nat)→List (List Nat)
 | acc,[]=>acc
 | acc,a :: l=>clos (acc ++ [once (a.flatMap fun e=>e :: acc.getD e [])]) l

def pairOk (oj oi : AO) (kj ki : List Nat × List Nat) : Bool :=
 disj oj.writes (oi.reads ++ oi.writes) && disj oi.writes oj.reads && disj kj.2 (ki.1 ++ ki.2) && disj ki.2 kj.1

def Rec.key (r : Rec) : List Nat × List Nat:=(r.rd,r.ups.map (·.1))

def drawOk (aos : List AO) (ks : List (List Nat × List Nat)) : Bool :=
 (aos.zipIdx.all fun p=>p.1.after.all (· < p.2)) &&
 (clos [] (aos.map (·.after))).zipIdx.all fun p=>let i:=p.2;(List.range i).all fun j =>
  p.1.contains j || pairOk (aos.getD j default) (aos.getD i default) (ks.getD j ([],[])) (ks.getD i ([],[]))

theorem clos_getD : ∀ (l acc : List (List Nat)) (i : Nat),i < acc.length→(clos acc l).getD i [] = acc.getD i []
 | [],_,_,_=>rfl
 | a :: l,acc,i,h=>by
  rw [clos,clos_getD l _ i (by simp;omega)]
  simp [List.getD,List.getElem?_append,h]

theorem clos_len : ∀ (l acc : List (List Nat)),(clos acc l).length = acc.length + l.length
 | [],_=>rfl
 | a :: l,acc=>by rw [clos,clos_len l];simp;omega

theorem clos_spec : ∀ (l acc : List (List Nat)) (i : Nat) (a : List Nat),l[i]? = some a→∀ j ∈ (clos acc l).getD (acc.length + i) [],j ∈ a∨∃ e ∈ a,e < acc.length + i∧j ∈ (clos acc l).getD e []
 | [],_,_,_,h,_,_=>by simp at h
 | b :: l,acc,0,a,h,j,hj=>by
  simp only [List.getElem?_cons_zero,Option.some.injEq] at h
  subst h
  rw [clos,Nat.add_zero,clos_getD l _ acc.length (by simp)] at hj
  simp only [List.getD,List.getElem?_append_right (Nat.le_refl _),Nat.sub_self,List.getElem?_cons_zero,Option.getD_some] at hj
  have hj:=List.mem_flatMap.1 (mem_once hj)
  obtain ⟨e,he,hj⟩:=hj
  rcases List.mem_cons.1 hj with rfl | hj
  ·exact .inl he
  ·have hlt : e < acc.length:=by
    rcases Nat.lt_or_ge e acc.length with h | h
    ·exact h
    ·rw [List.getElem?_eq_none h] at hj;simp at hj
   refine .inr ⟨e,he,by omega,?_⟩
   rw [clos,clos_getD l _ e (by simp;omega)]
   simpa [List.getD,List.getElem?_append,hlt] using hj
 | b :: l,acc,i + 1,a,h,j,hj=>by
  rw [clos] at hj ⊢
  have:=clos_spec l (acc ++ [once (b.flatMap fun e=>e :: acc.getD e [])]) i a (by simpa using h) j (by
   rw [show (acc ++ [once (b.flatMap fun e=>e :: acc.getD e [])]).length + i = acc.length + (i + 1) by simp;omega];exact hj)
  rcases this with h1 | ⟨e,h1,h2,h3⟩
  ·exact .inl h1
  ·exact .inr ⟨e,h1,by simp at h2;omega,h3⟩

section
variable {P : Program} {g : Gr} {m : Nat→Option Nat} {st : St} {w : World} {a : Act} {ops : Array Oper} {aos : List AO} {Q : Exit→Act→World→Prop}

theorem region_draw (hc : compOs P ops a.tmps.size ops.toList = some aos) (hR : R g m st a.tmps w) {fr : Nat} {K : St→List Rec→Prop} (hrun : RunL P fr aos st [] K) (hok : ∀ st' rs,K st' rs→drawOk aos (rs.map Rec.key) = true)
  (hK : ∀ st' rs m' a' w',K st' rs→R g m' st' a'.tmps w'→a'.tmps.size = a.tmps.size→a'.defers = a.defers→Q .normal a' w') : wpAny P .any ops Q ops.size (Array.replicate ops.size false) a w:=by
 obtain ⟨l,h1,h2,h3⟩:=RunL.parts aos fr st [] K hrun
 obtain ⟨g1,g2⟩:=compOs_get hc
 have hll : l.length = ops.size:=by
  have:=congrArg List.length h1
  simp at this
  simp at g1
  omega
 have hal : aos.length = ops.size:=by rw [← h1];simp [hll]
 have hd:=hok _ _ h2
 simp only [drawOk,Bool.and_eq_true] at hd
 obtain ⟨hedge,hpair⟩:=hd
 have hpl : ∀ i : Nat,i < ops.size→∃ p,l[i]? = some p∧aos[i]? = some p.1:=fun i hi=>by
  have hp : l[i]? = some l[i]:=List.getElem?_eq_getElem (by omega)
  exact ⟨_,hp,by rw [← h1,List.getElem?_map,hp];rfl⟩
 have lt_of : ∀ (j : Nat) (p : AO × Rec),l[j]? = some p→j < ops.size:=fun j p hj=>by
  rcases Nat.lt_or_ge j l.length with h | h
  ·omega
  ·rw [List.getElem?_eq_none h] at hj;cases hj
 have edge_lt : ∀ (i : Nat) (ao : AO),aos[i]? = some ao→∀ e ∈ ao.after,e < i:=fun i ao hi e he=>by
  have:=List.all_eq_true.1 hedge (ao,i) (List.mem_zipIdx_iff_getElem?.2 hi)
  have:=List.all_eq_true.1 this e he
  simpa using this
 -- two operations that no edge holds apart touch nothing in common
 have apart : ∀ (j i : Nat) (pj pi : AO × Rec),j < i→l[j]? = some pj→l[i]? = some pi→j ∈ (clos [] (aos.map (·.after))).getD i []∨pairOk pj.1 pi.1 pj.2.key pi.2.key = true:=by
  intro j i pj pi hji hj hi
  have hci : i < (clos [] (aos.map (·.after))).length:=by rw [clos_len];simp;have:=lt_of i pi hi;omega
  have hcg : (clos [] (aos.map (·.after)))[i]? = some ((clos [] (aos.map (·.after))).getD i []):=by
   rw [List.getD_eq_getElem?_getD,List.getElem?_eq_getElem hci];rfl
  have:=List.all_eq_true.1 hpair (_,i) (List.mem_zipIdx_iff_getElem?.2 hcg)
  have:=List.all_eq_true.1 this j (List.mem_range.2 hji)
  simp only [Bool.or_eq_true] at this
  rcases this with h | h
  ·exact .inl (List.contains_iff_mem.1 h)
  ·refine .inr ?_
   have e1 : ∀ (k : Nat) (p : AO × Rec),l[k]? = some p→aos.getD k default = p.1:=fun k p hk=>by
    simp [List.getD,← h1,List.getElem?_map,hk]
   have e2 : ∀ (k : Nat) (p : AO × Rec),l[k]? = some p→((([] : List Rec).reverse ++ l.map (fun q : AO × Rec=>q.2)).map Rec.key).getD k ([],[]) = p.2.key:=fun k p hk=>by
    simp [List.getD,List.getElem?_map,hk]
   rw [e1 j pj hj,e1 i pi hi,e2 j pj hj,e2 i pi hi] at h
   exact h
 -- what is listed lists what it waits for
 have closed : ∀ (L : Nat→Bool),(∀ (i : Nat) (ao : AO),aos[i]? = some ao→L i = true→∀ e ∈ ao.after,L e = true)→∀ i,i < ops.size→(∀ ao : AO,aos[i]? = some ao→∀ e ∈ ao.after,L e = true)→∀ j ∈ (clos [] (aos.map (·.after))).getD i [],L j = true:=by
  intro L hL i
  induction i using Nat.strongRecOn with
  | _ i ih =>
   intro hi hre j hj
   obtain ⟨p,_,hp⟩:=hpl i hi
   have:=clos_spec (aos.map (·.after)) [] i p.1.after (by rw [List.getElem?_map,hp];rfl) j (by simpa using hj)
   rcases this with h | ⟨e,he,hlt,hje⟩
   ·exact hre _ hp j h
   ·simp only [List.length_nil,Nat.zero_add] at hlt
    exact ih e hlt (by omega) (fun ao hao=>hL e ao hao (hre _ hp e he)) j hje
 have edges_eq : ∀ (i : Nat) (o : Oper) (ao : AO),ops[i]? = some o→aos[i]? = some ao→ao.after = o.after.toList.filterMap fun e=>if Region.binds .any e then some e.on else none:=fun i o ao hi hao=>by
  obtain ⟨ao',h4,h5⟩:=g2 i o (by simpa using hi)
  rw [hao] at h4;cases h4
  exact (compO_spec h5).2
 have ready_iff : ∀ (listed : Array Bool) (i : Nat),listed.size = ops.size→i ∈ Region.ready .any ops listed→i < ops.size∧listed.getD i false = false∧∀ ao : AO,aos[i]? = some ao→∀ e ∈ ao.after,listed.getD e false = true:=by
  intro listed i hsz hi
  unfold Region.ready at hi
  rw [List.mem_filter] at hi
  obtain ⟨hi1,hi2⟩:=hi
  have hil : i < ops.size:=List.mem_range.1 hi1
  have hio : ops[i]? = some ops[i]:=Array.getElem?_eq_getElem hil
  rw [hio] at hi2
  simp only [Option.map_some,Option.getD_some,Bool.and_eq_true,Bool.not_eq_true'] at hi2
  refine ⟨hil,?_,fun ao hao e he=>?_⟩
  ·have : listed.getD i true = false:=hi2.1
   simpa [Array.getD,hsz,hil] using this
  ·rw [edges_eq i _ ao hio hao,List.mem_filterMap] at he
   obtain ⟨ed,hed,hee⟩:=he
   split at hee
   ·rename_i hb
    cases hee
    have:=Array.all_eq_true_iff_forall_mem.1 hi2.2 ed (Array.mem_toList_iff.1 hed)
    simp only [hb,Bool.not_true,Bool.false_or] at this
    exact this
   ·cases hee
 have ready_of : ∀ (listed : Array Bool) (i : Nat),listed.size = ops.size→i < ops.size→listed.getD i false = false→(∀ ao : AO,aos[i]? = some ao→∀ e ∈ ao.after,listed.getD e false = true)→i ∈ Region.ready .any ops listed:=by
  intro listed i hsz hil hl he
  unfold Region.ready
  rw [List.mem_filter]
  have hio : ops[i]? = some ops[i]:=Array.getElem?_eq_getElem hil
  refine ⟨List.mem_range.2 hil,?_⟩
  rw [hio]
  simp only [Option.map_some,Option.getD_some,Bool.and_eq_true,Bool.not_eq_true']
  refine ⟨by simpa [Array.getD,hsz,hil] using hl,Array.all_eq_true_iff_forall_mem.2 fun ed hed=>?_⟩
  cases hb : Region.binds .any ed with
  | false=>rfl
  | true =>
   obtain ⟨p,_,hp⟩:=hpl i hil
   have:=he _ hp ed.on (by
    rw [edges_eq i _ _ hio hp,List.mem_filterMap]
    exact ⟨ed,Array.mem_toList_iff.2 hed,by rw [if_pos hb]⟩)
   simp [this]
 have main : ∀ (fuel : Nat) (listed : Array Bool) (m' : Nat→Option Nat) (a' : Act) (w' : World),listed.size = ops.size→(listed.toList.filter (! ·)).length≤fuel →
   (∀ (i : Nat) (ao : AO),aos[i]? = some ao→listed.getD i false = true→∀ e ∈ ao.after,listed.getD e false = true) →
   R g m' (fold (fun j=>listed.getD j false) 0 l st) a'.tmps w'→a'.tmps.size = a.tmps.size→a'.defers = a.defers→wpAny P .any ops Q fuel listed a' w':=by
  -- where nothing is ready all is listed
  have fin : ∀ (listed : Array Bool) (m' : Nat→Option Nat) (a' : Act) (w' : World),listed.size = ops.size→R g m' (fold (fun j=>listed.getD j false) 0 l st) a'.tmps w'→a'.tmps.size = a.tmps.size→a'.defers = a.defers →
    (∀ i,i < ops.size→listed.getD i false = true)→Q .normal a' w':=by
   intro listed m' a' w' hsz hR' hs hd hall
   refine hK _ _ m' a' w' h2 ?_ hs hd
   have : fold (fun j=>listed.getD j false) 0 l st = fold (fun _=>true) 0 l st :=
    St.ext' (fun t=>fold_sl l 0 st st rfl fun j q hj _=>by rw [Nat.zero_add];exact hall j (lt_of j q hj)) (fun id=>fold_σ l 0 st st rfl fun j q hj _=>by rw [Nat.zero_add];exact hall j (lt_of j q hj))
   rw [← this];exact hR'
  have nonready : ∀ (listed : Array Bool),listed.size = ops.size→Region.ready .any ops listed = []→∀ i,i < ops.size→listed.getD i false = true:=by
   intro listed hsz hnil i
   induction i using Nat.strongRecOn with
   | _ i ih =>
    intro hi
    cases hl : listed.getD i false with
    | true=>rfl
    | false =>
     have:=ready_of listed i hsz hi hl fun ao hao e he=>ih e (edge_lt i ao hao e he) (by have:=edge_lt i ao hao e he;omega)
     rw [hnil] at this;cases this
  intro fuel
  induction fuel with
  | zero =>
   intro listed m' a' w' hsz hcnt hcl hR' hs hd
   have hall : ∀ i,i < ops.size→listed.getD i false = true:=fun i hi=>by
    cases hl : listed.getD i false with
    | true=>rfl
    | false =>
     have hm : false ∈ listed.toList.filter (! ·):=List.mem_filter.2 ⟨by
      have : listed[i]? = some false:=by
       rw [Array.getElem?_eq_getElem (by omega)]
       simp [Array.getD,hsz,hi] at hl
       rw [hl]
      exact List.mem_of_getElem? (by simpa using this),rfl⟩
     have:=List.length_pos_of_mem hm
     omega
   refine ⟨?_,fin listed m' a' w' hsz hR' hs hd hall⟩
   rcases List.eq_nil_or_concat (Region.ready .any ops listed) with h | ⟨xs,x,h⟩
   ·exact h
   ·have:=ready_iff listed x hsz (by rw [h];simp)
    rw [hall x this.1] at this
    exact absurd this.2.1 (by simp)
  | succ fuel ih =>
   intro listed m' a' w' hsz hcnt hcl hR' hs hd
   refine ⟨fun hnil=>fin listed m' a' w' hsz hR' hs hd (nonready listed hsz hnil),fun i hi=>?_⟩
   obtain ⟨hil,hnl,hre⟩:=ready_iff listed i hsz hi
   have hio : ops[i]? = some ops[i]:=Array.getElem?_eq_getElem hil
   obtain ⟨ao,hao,hco⟩:=g2 i ops[i] (by simpa using hio)
   obtain ⟨hcomp,_⟩:=compO_spec hco
   obtain ⟨p,hp1,hp2⟩:=hpl i hil
   rw [hao] at hp2;cases hp2
   rw [← hs] at hcomp
   have hdeps:=closed (fun j=>listed.getD j false) hcl i hil hre
   have hupper : ∀ (j : Nat) (q : AO × Rec),i < j→l[j]? = some q→listed.getD j false = true→pairOk p.1 q.1 p.2.key q.2.key = true:=by
    intro j q hij hq hlj
    rcases apart i j p q hij hp1 hq with h | h
    ·obtain ⟨q',hq1,hq2⟩:=hpl j (lt_of j q hq)
     have:=closed (fun j=>listed.getD j false) hcl j (lt_of j q hq) (fun ao hao=>hcl j ao hao hlj) i h
     have this' : listed.getD i false = true:=this
     rw [hnl] at this';cases this'
    ·exact h
   have hlower : ∀ (j : Nat) (q : AO × Rec),j < i→l[j]? = some q→listed.getD j false = false→pairOk q.1 p.1 q.2.key p.2.key = true:=by
    intro j q hji hq hlj
    rcases apart j i q p hji hq hp1 with h | h
    ·have:=hdeps j h
     rw [hlj] at this;cases this
    ·exact h
   -- the operation stands as it stands in the text's order
   have hen:=h3 i p hp1 _ rfl
   have hen' : En P (fr + 16 * i) p.1 (fold (fun j=>listed.getD j false) 0 l st).sl (fold (fun j=>listed.getD j false) 0 l st).σ p.2:=by
    refine en_congr (fun t ht=>?_) (fun id hid=>?_) hen
    ·refine fold_sl l 0 st st rfl fun j q hj hqd=>?_
     rw [Nat.zero_add]
     have hw : t ∈ q.1.writes:=by unfold AO.writes;rw [hqd];simp
     rcases Nat.lt_trichotomy j i with hji | rfl | hij
     ·simp only [hji,decide_true]
      cases hlj : listed.getD j false with
      | true=>rfl
      | false =>
       have:=hlower j q hji hj hlj
       simp only [pairOk,Bool.and_eq_true] at this
       exact absurd (List.mem_append_left _ ht) (disj_spec this.1.1.1 hw)
     ·simp [hnl]
     ·simp only [show ¬ j < i by omega,decide_false]
      cases hlj : listed.getD j false with
      | false=>rfl
      | true =>
       have:=hupper j q hij hj hlj
       simp only [pairOk,Bool.and_eq_true] at this
       exact absurd ht (disj_spec this.1.1.2 hw)
    ·refine fold_σ l 0 st st rfl fun j q hj hqd=>?_
     rw [Nat.zero_add]
     have hw : id ∈ q.2.key.2:=hqd
     have hr : id ∈ p.2.key.1:=hid
     rcases Nat.lt_trichotomy j i with hji | rfl | hij
     ·simp only [hji,decide_true]
      cases hlj : listed.getD j false with
      | true=>rfl
      | false =>
       have:=hlower j q hji hj hlj
       simp only [pairOk,Bool.and_eq_true] at this
       exact absurd (List.mem_append_left _ hr) (disj_spec this.1.2 hw)
     ·simp [hnl]
     ·simp only [show ¬ j < i by omega,decide_false]
      cases hlj : listed.getD j false with
      | false=>rfl
      | true =>
       have:=hupper j q hij hj hlj
       simp only [pairOk,Bool.and_eq_true] at this
       exact absurd hr (disj_spec this.2 hw)
   have hset : ∀ j,(listed.setIfInBounds i true).getD j false = if j = i then true else listed.getD j false:=fun j=>by
    simp only [Array.getD_eq_getD_getElem?,Array.getElem?_setIfInBounds]
    by_cases hj : j = i
    ·subst hj;simp [hsz,hil]
    ·rw [if_neg (fun h=>hj h.symm),if_neg hj]
   refine en_sound hR' rfl hio hcomp hen' fun m2 a2 w2 hR2 hs2 hd2=>ih (listed.setIfInBounds i true) m2 a2 w2 (by simpa using hsz) ?_ ?_ ?_ (hs2.trans hs) (hd2.trans hd)
   ·have hli : listed.toList[i]? = some false:=by
     have : listed[i]? = some false:=by
      rw [Array.getElem?_eq_getElem (by omega)]
      simp [Array.getD,hsz,hil] at hnl
      rw [hnl]
     simpa using this
    have hdec : ∀ (xs : List Bool) (i : Nat),xs[i]? = some false→((xs.set i true).filter (! ·)).length + 1 = (xs.filter (! ·)).length:=by
     intro xs
     induction xs with
     | nil=>intro i h;simp at h
     | cons x xs ih =>
      intro i h
      cases i with
      | zero=>simp at h;subst h;simp
      | succ i =>
       have:=ih i (by simpa using h)
       cases x <;> simp <;> omega
    have:=hdec listed.toList i hli
    rw [Array.toList_setIfInBounds]
    omega
   ·intro j ao' hao' hlj e he
    rw [hset] at hlj ⊢
    split
    ·rfl
    ·split at hlj
     ·rename_i hji;subst hji;exact hre ao' hao' e he
     ·exact hcl j ao' hao' hlj e he
   ·have hfm:=fold_more hp1 (L:=fun j=>listed.getD j false) (L':=fun j=>(listed.setIfInBounds i true).getD j false) (by simp [hset]) (fun j hj=>by simp [hset,hj]) hnl st (fun j q hij hq hlj=>by
     have:=hupper j q hij hq hlj
     simp only [pairOk,Bool.and_eq_true] at this
     refine ⟨fun t ht hqt=>?_,fun id hid hqid=>?_⟩
     ·exact disj_spec this.1.1.1 (x:=t) (by unfold AO.writes;rw [ht];simp) (List.mem_append_right _ (by unfold AO.writes;rw [hqt];simp))
     ·exact disj_spec this.1.2 (x:=id) hid (List.mem_append_right _ hqid))
    rw [← hfm]
    exact hR2
 refine main ops.size (Array.replicate ops.size false) m a w (by simp) (by simp) (fun i ao _ hl=>?_) ?_ rfl rfl
 ·simp [Array.getD] at hl
 ·have : (fun j : Nat=>(Array.replicate ops.size false).getD j false) = fun _=>false:=by
   funext j;simp [Array.getD]
  rw [this,fold_false];exact hR

end
end Go.Abs

namespace Go.Abs
open Go

inductive AC where
 | skip
 | ret
 | exit (id : Nat)
 | seq (a b : AC)
 | cond (c : AX) (a b : AC)
 | block (id : Nat) (a : AC)
 | loop (a : AC)
 | region (ops : List AO) (draw : Bool)
 | bad

def compC (P : Program) (N : Nat) : Code→Option AC
 | .skip=>some .skip
 | .ret=>some .ret
 | .exit id=>some (.exit id)
 | .seq a b=>match compC P N a,compC P N b with
  | some x,some y=>some (.seq x y)
  | _,_=>none
 | .cond c a b=>match cx c,compC P N a,compC P N b with
  | some c,some x,some y=>some (.cond c x y)
  | _,_,_=>none
 | .block id a=>(compC P N a).map (.block id)
 | .loop a=>(compC P N a).map .loop
 | .region _ ops draw=>(compOs P ops N ops.toList).map fun l=>.region l draw
 | _=>some .bad

def Le (n : Nat) (st st' : St) : Prop :=
 ∀ (g : Gr) (m : Nat→Option Nat) (tmps : Array Value) (w : World),(∀ k,n≤k→g.σ0 k = none)→R g m st tmps w→∃ m',R g m' st' tmps w

theorem Le.refl (n : Nat) (st : St) : Le n st st:=fun _ m _ _ _ h=>⟨m,h⟩
theorem Le.trans {n : Nat} {a b c : St} (h : Le n a b) (h' : Le n b c) : Le n a c:=fun g m tmps w hg hR=>by
 obtain ⟨m1,h1⟩:=h g m tmps w hg hR
 exact h' g m1 tmps w hg h1

def awp (P : Program) (n : Nat) : AC→(Exit→St→Prop)→St→Prop
 | .skip,Q,st=>Q .normal st
 | .ret,Q,st=>Q .ret st
 | .exit id,Q,st=>Q (.exit id) st
 | .seq a b,Q,st=>awp P n a (Exit.rec (motive:=fun _=>St→Prop) (awp P n b Q) (fun id=>Q (.exit id)) (fun l=>Q (.goto l)) (Q .ret) (fun c=>Q (.panic c)) (Q .outgrown)) st
 | .cond c a b,Q,st=>∃ st0,Le n st st0∧∃ t,(ev st0.sl c).one? = some (.v (.bool t))∧(ev st0.sl c).pre∧(t = true→awp P n a Q st0)∧(t = false→awp P n b Q st0)
 | .block id a,Q,st=>awp P n a (fun e st'=>match e with
   | .exit id'=>if id' = id then Q .normal st' else Q (.exit id') st'
   | e=>Q e st') st
 | .loop a,Q,st=>∃ (X : Type) (S : X→St) (μ : X→Nat) (x0 : X),Le n st (S x0)∧∀ x,awp P n a (fun e st'=>match e with
   | .normal=>∃ x',Le n st' (S x')∧μ x' < μ x
   | e=>Q e st') (S x)
 | .region ops draw,Q,st=>∃ st0,Le n st st0∧∃ fr,RunL P fr ops st0 [] fun st' rs=>(draw = true→drawOk ops (rs.map Rec.key) = true)∧Q .normal st'
 | .bad,_,_=>False

theorem awp_mono {P : Program} {n : Nat} : ∀ (c : AC) {Q Q' : Exit→St→Prop} {st : St},(∀ e s,Q e s→Q' e s)→awp P n c Q st→awp P n c Q' st
 | .skip,_,_,_,h,ha=>h _ _ ha
 | .ret,_,_,_,h,ha=>h _ _ ha
 | .exit _,_,_,_,h,ha=>h _ _ ha
 | .seq a b,_,_,_,h,ha=>awp_mono a (fun e s hq=>by
   cases e with
   | normal=>exact awp_mono b h hq
   | _=>exact h _ _ hq) ha
 | .cond _ a b,_,_,_,h,⟨s0,hle,t,h1,h2,h3,h4⟩=>⟨s0,hle,t,h1,h2,fun ht=>awp_mono a h (h3 ht),fun ht=>awp_mono b h (h4 ht)⟩
 | .block _ a,_,_,_,h,ha=>awp_mono a (fun e s hq=>by
   cases e with
   | exit id' =>
    simp only at hq ⊢
    split at hq
    ·rename_i hid;rw [if_pos hid];exact h _ _ hq
    ·rename_i hid;rw [if_neg hid];exact h _ _ hq
   | _=>exact h _ _ hq) ha
 | .loop a,_,_,_,h,⟨X,S,μ,x0,h1,h2⟩=>⟨X,S,μ,x0,h1,fun x=>awp_mono a (fun e s hq=>by
   cases e with
   | normal=>exact hq
   | _=>exact h _ _ hq) (h2 x)⟩
 | .bad,_,_,_,_,ha=>ha.elim
 | .region ops _,_,_,_,h,⟨s0,hle,fr,ha⟩=>⟨s0,hle,fr,by
   have : ∀ (l : List AO) (fr : Nat) (s : St) (rs : List Rec) (K K' : St→List Rec→Prop),(∀ s r,K s r→K' s r)→RunL P fr l s rs K→RunL P fr l s rs K':=by
    intro l
    induction l with
    | nil=>intro fr s rs K K' hk hr;exact hk _ _ hr
    | cons o l ih=>intro fr s rs K K' hk hr;obtain ⟨r,h1,h2⟩:=hr;exact ⟨r,h1,ih _ _ _ _ _ hk h2⟩
   exact this ops fr _ [] _ _ (fun s r hh=>⟨hh.1,h _ _ hh.2⟩) ha⟩

def Cl (n : Nat) (Q : Exit→St→Prop) : Prop:=∀ e s s',Le n s s'→Q e s'→Q e s

theorem awp_cl {P : Program} {n : Nat} : ∀ (c : AC) {Q : Exit→St→Prop},Cl n Q→∀ {s s' : St},Le n s s'→awp P n c Q s'→awp P n c Q s
 | .skip,_,hQ,_,_,hl,h=>hQ _ _ _ hl h
 | .ret,_,hQ,_,_,hl,h=>hQ _ _ _ hl h
 | .exit _,_,hQ,_,_,hl,h=>hQ _ _ _ hl h
 | .seq a b,Q,hQ,_,_,hl,h=>awp_cl a (fun e s s' hl h=>by
   cases e with
   | normal=>exact awp_cl b hQ hl h
   | _=>exact hQ _ _ _ hl h) hl h
 | .cond _ a b,_,hQ,_,_,hl,⟨s0,hle,h⟩=>⟨s0,hl.trans hle,h⟩
 | .block _ a,_,hQ,_,_,hl,h=>awp_cl a (fun e s s' hl h=>by
   cases e with
   | exit id' =>
    simp only at h ⊢
    split at h
    ·rename_i hid;rw [if_pos hid];exact hQ _ _ _ hl h
    ·rename_i hid;rw [if_neg hid];exact hQ _ _ _ hl h
   | _=>exact hQ _ _ _ hl h) hl h
 | .loop a,_,hQ,_,_,hl,⟨X,S,μ,x0,h1,h2⟩=>⟨X,S,μ,x0,hl.trans h1,h2⟩
 | .bad,_,_,_,_,_,h=>h.elim
 | .region _ _,_,_,_,_,hl,⟨s0,hle,h⟩=>⟨s0,hl.trans hle,h⟩

theorem exists_least {p : Nat→Prop} (h : ∃ n,p n) : ∃ n,p n∧∀ k,p k→n≤k:=by
 obtain ⟨n,hn⟩:=h
 induction n using Nat.strongRecOn with
 | _ n ih =>
  by_cases hk : ∃ k,k < n∧p k
  ·obtain ⟨k,h1,h2⟩:=hk;exact ih k h1 h2
  ·exact ⟨n,hn,fun k hp=>Nat.le_of_not_lt fun hlt=>hk ⟨k,hlt,hp⟩⟩

theorem wp_loop_x {P : Program} {Q : Exit→Act→World→Prop} {c : Code} {X : Type} (J : X→Act→World→Prop) (μ : X→Nat) {a : Act} {w : World} (x0 : X) (h0 : J x0 a w)
  (round : ∀ x a w,J x a w→c.wp P (Exit.then (fun a' w'=>∃ x',J x' a' w'∧μ x' < μ x) Q) a w) : (Code.loop c).wp P Q a w:=by
 classical
 let I : Act→World→Prop:=fun a w=>∃ n,∃ x,μ x = n∧J x a w
 let M : Act→World→Nat:=fun a w=>if h : ∃ n,∃ x,μ x = n∧J x a w then Classical.choose (exists_least h) else 0
 refine wp_loop I M ⟨μ x0,x0,rfl,h0⟩ fun a w hI=>?_
 have hM : M a w = Classical.choose (exists_least hI):=dif_pos hI
 obtain ⟨x,hx,hJ⟩:=(Classical.choose_spec (exists_least hI)).1
 refine wp_mono (round x a w hJ) fun e a' w' hq=>?_
 cases e with
 | normal =>
  obtain ⟨x',hJ',hlt⟩:=hq
  have hI' : I a' w':=⟨μ x',x',rfl,hJ'⟩
  refine ⟨hI',?_⟩
  have h1 : M a' w' = Classical.choose (exists_least hI'):=dif_pos hI'
  rw [h1,hM]
  exact Nat.lt_of_le_of_lt ((Classical.choose_spec (exists_least hI')).2 _ ⟨x',rfl,hJ'⟩) (by omega)
 | _=>exact hq

theorem awp_sound {P : Program} (hm : P.follows .mixedOrders = true) {n N : Nat} {g : Gr} (hg : ∀ k,n≤k→g.σ0 k = none) : ∀ (c : Code) {ac : AC} {AQ : Exit→St→Prop} {st : St} {m : Nat→Option Nat} {a : Act} {w : World} {Q : Exit→Act→World→Prop},
  compC P N c = some ac→awp P n ac AQ st→R g m st a.tmps w→a.tmps.size = N→(∀ e st' m' a' w',AQ e st'→R g m' st' a'.tmps w'→a'.tmps.size = N→a'.defers = a.defers→Q e a' w')→c.wp P Q a w:=by
 intro c
 induction c with
 | skip=>intro ac AQ st m a w Q hc ha hR hN hQ;cases hc;exact wp_skip (hQ _ _ _ _ _ ha hR hN rfl)
 | ret=>intro ac AQ st m a w Q hc ha hR hN hQ;cases hc;exact wp_ret (hQ _ _ _ _ _ ha hR hN rfl)
 | exit id=>intro ac AQ st m a w Q hc ha hR hN hQ;cases hc;exact wp_exit (hQ _ _ _ _ _ ha hR hN rfl)
 | seq x y ihx ihy =>
  intro ac AQ st m a w Q hc ha hR hN hQ
  simp only [compC] at hc
  split at hc
  ·rename_i ax ay h1 h2
   cases hc
   refine wp_seq (ihx h1 ha hR hN fun e st' m' a' w' hq hR' hN' hd'=>?_)
   cases e with
   | normal=>exact ihy h2 hq hR' hN' fun e st2 m2 a2 w2 hq2 hR2 hN2 hd2=>hQ e st2 m2 a2 w2 hq2 hR2 hN2 (hd2.trans hd')
   | _=>exact hQ _ _ _ _ _ hq hR' hN' hd'
  ·cases hc
 | cond x c d ihc ihd =>
  intro ac AQ st m a w Q hc ha hR hN hQ
  simp only [compC] at hc
  split at hc
  ·rename_i ax ac' ad h1 h2 h3
   cases hc
   obtain ⟨s0,hle,t,g1,g2,g3,g4⟩:=ha
   obtain ⟨m0,hR⟩:=hle g m a.tmps w hg hR
   have hv:=one_v (ev_rsv hR rfl h1) g2 g1
   refine wp_cond_split hv (fun ht=>ihc h2 (g3 ht) hR hN hQ) (fun ht=>ihd h3 (g4 ht) hR hN hQ)
  ·cases hc
 | block id c ih =>
  intro ac AQ st m a w Q hc ha hR hN hQ
  simp only [compC,Option.map_eq_some_iff] at hc
  obtain ⟨ac',h1,rfl⟩:=hc
  refine wp_block (ih h1 ha hR hN fun e st' m' a' w' hq hR' hN' hd'=>?_)
  cases e with
  | exit id' =>
   simp only [Exit.inBlock]
   simp only at hq
   split
   ·rename_i hid;rw [if_pos hid] at hq;exact hQ _ _ _ _ _ hq hR' hN' hd'
   ·rename_i hid;rw [if_neg hid] at hq;exact hQ _ _ _ _ _ hq hR' hN' hd'
  | _=>exact hQ _ _ _ _ _ hq hR' hN' hd'
 | loop c ih =>
  intro ac AQ st m a w Q hc ha hR hN hQ
  simp only [compC,Option.map_eq_some_iff] at hc
  obtain ⟨ac',h1,rfl⟩:=hc
  obtain ⟨X,S,μ,x0,h2,h3⟩:=ha
  obtain ⟨m0,hR0⟩:=h2 g m a.tmps w hg hR
  refine wp_loop_x (fun x a' w'=>∃ m',R g m' (S x) a'.tmps w'∧a'.tmps.size = N∧a'.defers = a.defers) μ x0 ⟨m0,hR0,hN,rfl⟩ fun x a1 w1 hJ=>?_
  obtain ⟨m1,hR1,hN1,hd1⟩:=hJ
  refine ih h1 (h3 x) hR1 hN1 fun e st' m' a' w' hq hR' hN' hd'=>?_
  cases e with
  | normal =>
   obtain ⟨x',h4,h5⟩:=hq
   obtain ⟨m2,hR2⟩:=h4 g m' a'.tmps w' hg hR'
   exact ⟨x',⟨m2,hR2,hN',hd'.trans hd1⟩,h5⟩
  | _=>exact hQ _ _ _ _ _ hq hR' hN' (hd'.trans hd1)
 | region id ops draw =>
  intro ac AQ st m a w Q hc ha hR hN hQ
  simp only [compC,Option.map_eq_some_iff] at hc
  obtain ⟨l,h1,rfl⟩:=hc
  obtain ⟨s0,hle,fr,hrun⟩:=ha
  obtain ⟨m0,hR⟩:=hle g m a.tmps w hg hR
  rw [← hN] at h1
  cases draw with
  | false =>
   have:=region_plain (Q:=Q) h1 hR hrun fun st' rs m' a' w' hk hR' hs hd=>hQ _ _ _ _ _ hk.2 hR' (hs.trans hN) hd
   exact wp_region this
  | true =>
   have hR' : R g m0 s0 a.tmps { w with drawn:=w.drawn + 1 }:=hR.same rfl rfl rfl rfl
   have:=region_draw (Q:=Q) h1 hR' hrun (fun st' rs hk=>hk.1 rfl) fun st' rs m' a' w' hk hR' hs hd=>hQ _ _ _ _ _ hk.2 hR' (hs.trans hN) hd
   exact wp_region_any hm this
 | _=>intro ac AQ st m a w Q hc ha;cases hc;exact ha.elim

inductive AR where
 | t (n : Nat)
 | l1 (n : Nat)
 | ln (n k : Nat)

def compR1 (P : Program) : ResultVar→Option AR
 | .tmp t=>some (.t t)
 | .cell p T=>match P.underlying T,P.info? T with
  | some d,some i=>some (if isAggD d then .ln p i.size else .l1 p)
  | _,_=>none

def compR (P : Program) : List ResultVar→Option (List AR)
 | []=>some []
 | r :: l=>match compR1 P r,compR P l with
  | some a,some b=>some (a :: b)
  | _,_=>none

def resV1 (st : St) : AR→Option SV
 | .t n=>some (st.sl n)
 | .l1 n=>match (st.sl n).one? with
  | some (.bp id off)=>(match st.σ id with
   | some (.box cs)=>cs[off]?.map .c
   | _=>none)
  | _=>none
 | .ln n k=>match (st.sl n).one? with
  | some (.bp id off)=>(match st.σ id with
   | some (.box cs)=>if off + k≤cs.length then some (.agg ((cs.drop off).take k)) else none
   | _=>none)
  | _=>none

def SV.flat : SV→Bool
 | .c _ | .agg _ | .dead=>true
 | _=>false

def resVs (st : St) : List AR→Option (List SV)
 | []=>some []
 | r :: l=>match resV1 st r,resVs st l with
  | some a,some b=>if a.flat then some (a :: b) else none
  | _,_=>none

def resV (st : St) (l : List AR) : Option SV :=
 match resVs st l with
 | some [x]=>some x
 | some xs=>some (.tup xs)
 | none=>none

def AR.slot : AR→Nat
 | .t n | .l1 n | .ln n _=>n

def resPre (st : St) : List AR→Prop
 | []=>True
 | .t _ :: l=>resPre st l
 | r :: l=>(st.sl r.slot).pre∧resPre st l

end Go.Abs

namespace Go.Abs
open Go

def WkC0 (σ : Nat→Option Ent) (ρ : Nat→Nat) (dom : Nat→Prop) : C→C→Prop
 | .v x,.v y=>x = y
 | .sl rows,.v y=>rows = []∧y = .slice none 0 0
 | .sl r,.sl r'=>r = r'
 | .sl rows,.osl id=>(∃ E s,σ id = some (.arr E s rows true))∧isDRows rows
 | .osl k,.osl id=>ρ k = id∧dom k
 | .bp k o,.bp id o'=>ρ k = id∧o = o'∧dom k
 | .ep k i o,.ep id i' o'=>ρ k = id∧i = i'∧o = o'∧dom k
 | .mp k,.mp id=>ρ k = id∧dom k
 | .it k,.it id=>ρ k = id∧dom k
 | .ow k lo n,.ow id lo' n'=>ρ k = id∧lo = lo'∧n = n'∧dom k
 | .rp cs,.rp cs'=>cs = cs'
 | _,_=>False

def WkC (σ : Nat→Option Ent) (ρ : Nat→Nat) (dom : Nat→Prop) : C→C→Prop
 | .fn f caps,.fn f' caps'=>f = f'∧TrL (WkC0 σ ρ dom) caps caps'
 | x,y=>WkC0 σ ρ dom x y

def WkSV1 (σ : Nat→Option Ent) (ρ : Nat→Nat) (dom : Nat→Prop) : SV→SV→Prop
 | .dead,_=>True
 | .c x,.c y=>WkC σ ρ dom x y
 | .agg xs,.agg ys=>TrL (WkC σ ρ dom) xs ys
 | _,_=>False

def WkSV (σ : Nat→Option Ent) (ρ : Nat→Nat) (dom : Nat→Prop) : SV→SV→Prop
 | .dead,_=>True
 | .tup xs,.tup ys=>TrL (WkSV1 σ ρ dom) xs ys
 | .opt g x,.opt g' y=>g = g'∧(g = true→WkSV σ ρ dom x y)
 | x,.opt g y=>g = true∧WkSV σ ρ dom x y
 | x,y=>WkSV1 σ ρ dom x y

def WkEnt (σ : Nat→Option Ent) (ρ : Nat→Nat) (dom : Nat→Prop) : Ent→Ent→Prop
 | .box cs,.box cs'=>TrL (WkC σ ρ dom) cs cs'
 | .arr E s rows fz,.arr E' s' rows' fz'=>E = E'∧s = s'∧rows = rows'∧(fz = fz'∨fz = true)∧isDRows rows
 | .mp a kvs,.mp a' kvs'=>a = a'∧kvs = kvs'
 | .it s p,.it s' p'=>s = s'∧p = p'
 | .gone,.gone=>True
 | _,_=>False

theorem TrL.len {α β : Type} {T : α→β→Prop} {xs : List α} {ys : List β} (h : TrL T xs ys) : xs.length = ys.length:=(TrL.rl h).1

theorem RL.back {α β γ : Type} {S : α→β→Prop} {T : β→γ→Prop} {U : α→γ→Prop} {xs : List α} {ys : List β} {zs : List γ} (h : RL S xs ys) (h' : RL T ys zs) (hu : ∀ x y z,S x y→T y z→U x z) : RL U xs zs :=
 ⟨h.1.trans h'.1,fun j x z hx hz=>by
  have hj : j < ys.length:=by
   rw [← h.1]
   rcases Nat.lt_or_ge j xs.length with h1 | h1
   ·exact h1
   ·rw [List.getElem?_eq_none h1] at hx;cases hx
  have hy : ys[j]? = some ys[j]:=List.getElem?_eq_getElem hj
  exact hu _ _ _ (h.2 j x _ hx hy) (h'.2 j _ z hy hz)⟩

def WkEnt2 (σ : Nat→Option Ent) (ρ : Nat→Nat) (dom : Nat→Prop) : Ent→Ent→Prop
 | .box cs,.box cs'=>TrL (WkC σ ρ dom) cs cs'
 | .arr E s rows fz,.arr E' s' rows' fz'=>E = E'∧s = s'∧rows.length = rows'.length∧(fz = fz'∨fz = true)∧((rows = rows'∧isDRows rows)∨TrL (TrL (WkC σ ρ dom)) rows rows')
 | .mp a kvs,.mp a' kvs'=>a = a'∧kvs = kvs'
 | .it s p,.it s' p'=>s = s'∧p = p'
 | .gone,.gone=>True
 | _,_=>False

theorem WkEnt.two {σ : Nat→Option Ent} {ρ : Nat→Nat} {dom : Nat→Prop} {e' e : Ent} (h : WkEnt σ ρ dom e' e) : WkEnt2 σ ρ dom e' e:=by
 cases e' <;> cases e <;> first | (exact h.elim;done) | skip
 ·exact h
 ·obtain ⟨h1,h2,rfl,h4,h5⟩:=h
  exact ⟨h1,h2,rfl,h4,.inl ⟨rfl,h5⟩⟩
 ·exact h
 ·exact h
 ·trivial

theorem TrL.getT {α β : Type} {T : α→β→Prop} : ∀ {xs : List α} {ys : List β},TrL T xs ys→∀ (k : Nat) (x : α),xs[k]? = some x→∃ y,ys[k]? = some y∧T x y
 | [],[],_,k,x,h=>by simp at h
 | a :: r,b :: s,h,0,x,hx=>by
  simp only [List.getElem?_cons_zero,Option.some.injEq] at hx
  subst hx
  exact ⟨b,rfl,h.1⟩
 | a :: r,b :: s,h,k + 1,x,hx=>by
  simp only [List.getElem?_cons_succ] at hx
  obtain ⟨y,h1,h2⟩:=TrL.getT h.2 k x hx
  exact ⟨y,by simpa using h1,h2⟩
 | [],_ :: _,h,_,_,_=>h.elim
 | _ :: _,[],h,_,_,_=>h.elim

theorem Le.weaken2 {n : Nat} {st st' : St} (ρ : Nat→Nat) (hs : ∀ t,WkSV st.σ ρ (fun k=>st'.σ k≠none) (st'.sl t) (st.sl t))
  (he : ∀ k e',st'.σ k = some e'→∃ e,st.σ (ρ k) = some e∧WkEnt2 st.σ ρ (fun k=>st'.σ k≠none) e' e)
  (hi : ∀ k k' e e',st'.σ k = some e→st'.σ k' = some e'→ρ k = ρ k'→k = k') (hn : ∀ k,k < n→st.σ k≠none→ρ k = k∧st'.σ k≠none) : Le n st st':=by
 intro g m tmps w hg hR
 let m' : Nat→Option Nat:=fun k=>m (ρ k)
 have mutle : ∀ {e' e : Ent},WkEnt2 st.σ ρ (fun k=>st'.σ k≠none) e' e→(e'.mut = true→e.mut = true)∧(e'≠.gone→e≠.gone)∧EntLe e e':=by
  intro e' e h
  cases e' <;> cases e <;> first | (exact h.elim;done) | skip
  ·exact ⟨fun _=>rfl,fun _=>by simp,trivial⟩
  ·obtain ⟨rfl,rfl,hlen,hf,_⟩:=h
   refine ⟨fun hm=>?_,fun _=>by simp,rfl,rfl,hlen⟩
   rcases hf with rfl | rfl
   ·exact hm
   ·cases hm
  ·obtain ⟨rfl,rfl⟩:=h
   exact ⟨fun _=>rfl,fun _=>by simp,rfl⟩
  ·obtain ⟨rfl,rfl⟩:=h
   exact ⟨fun _=>rfl,fun _=>by simp,rfl⟩
  ·exact ⟨fun h=>h,fun h=>h,trivial⟩
 have hok : ∀ b,(g.env m st w).ok b→(g.env m' st' w).ok b:=fun b hb=>⟨hb.1,hb.2.1,fun k e' hk hm hmb=>by
  obtain ⟨e,h1,h2⟩:=he k e' hk
  exact hb.2.2 (ρ k) e h1 ((mutle h2).1 hm) hmb⟩
 have hrd : ∀ {c : C} {v : Value},RD (g.env m st w).h (g.env m st w).ok c v→RD (g.env m' st' w).h (g.env m' st' w).ok c v:=fun h=>h.mono hok fun _ _=>rfl
 have hfz : ∀ {id : Nat} {E : TypeId} {s : Nat} {rows : List (List C)},st.σ id = some (.arr E s rows true)→∀ b,m id = some b→(g.env m st w).ok b:=fun {id E s rows} hid b hb=>by
  have hp:=hR.place id _ b hid (by simp) hb
  refine ⟨?_,hp.1,fun id' e' he' hm' hb'=>?_⟩
  ·rcases hp.2 with h | h
   ·exact .inr h
   ·exact .inl (.inr h)
  ·have:=hR.inj id' id e' _ b he' hid hm' (by simp) hb' hb
   subst this
   rw [hid] at he';cases he';cases hm'
 have hdom : ∀ k,st'.σ k≠none→∃ e',st'.σ k = some e':=fun k hk=>by
  cases h : st'.σ k with
  | none=>exact absurd h hk
  | some e'=>exact ⟨e',rfl⟩
 have hrc0 : ∀ {c' c : C} {v : Value},WkC0 st.σ ρ (fun k=>st'.σ k≠none) c' c→RC0 (g.env m st w) c v→RC0 (g.env m' st' w) c' v:=by
  intro c' c v ht h
  cases c' with
  | v x =>
   cases c <;> first | (exact ht.elim;done) | skip
   have hx : x = _:=ht
   subst hx
   exact hrd h
  | sl rows =>
   cases c <;> first | (exact ht.elim;done) | skip
   ·obtain ⟨rfl,rfl⟩:=ht
    rw [rd_v (show RD _ _ (.v _) v from h)]
    exact RD.nil
   ·have hx : rows = _:=ht
    subst hx
    exact hrd h
   ·obtain ⟨⟨E,s,hid⟩,hd⟩:=ht
    exact hrd (osl_rd hR hid hd h (hfz hid))
  | osl k =>
   cases c <;> first | (exact ht.elim;done) | skip
   rename_i id
   obtain ⟨rfl,hk⟩:=ht
   obtain ⟨e',hk'⟩:=hdom k hk
   obtain ⟨e,h1,h2⟩:=he k e' hk'
   obtain ⟨a,ha,h⟩:=h
   have ha' : st.σ (ρ k) = some a:=ha
   rw [h1] at ha';cases ha'
   refine ⟨e',hk',?_⟩
   cases e' <;> cases e <;> first | (exact h2.elim;done) | (exact h.elim;done) | skip
   ·obtain ⟨rfl,rfl,hlen,_,_⟩:=h2
    simp only [hlen]
    exact h
   ·exact h
  | bp k o =>
   cases c <;> first | (exact ht.elim;done) | skip
   obtain ⟨rfl,rfl,hk⟩:=ht
   obtain ⟨e',hk'⟩:=hdom k hk
   obtain ⟨e,h1,h2⟩:=he k e' hk'
   obtain ⟨cs,b,h4,h5,rfl⟩:=h
   have h4' : st.σ (ρ k) = some (.box cs):=h4
   rw [h1] at h4';cases h4'
   cases e' <;> first | (exact h2.elim;done) | skip
   exact ⟨_,b,hk',h5,rfl⟩
  | ep k i o =>
   cases c <;> first | (exact ht.elim;done) | skip
   obtain ⟨rfl,rfl,rfl,hk⟩:=ht
   obtain ⟨e',hk'⟩:=hdom k hk
   obtain ⟨e,h1,h2⟩:=he k e' hk'
   obtain ⟨a,ha,h⟩:=h
   have ha' : st.σ (ρ k) = some a:=ha
   rw [h1] at ha';cases ha'
   refine ⟨e',hk',?_⟩
   cases e' <;> cases e <;> first | (exact h2.elim;done) | (exact h.elim;done) | skip
   ·obtain ⟨rfl,rfl,hlen,_,_⟩:=h2
    simp only [hlen]
    exact h
   ·exact h
  | ow k lo n =>
   cases c <;> first | (exact ht.elim;done) | skip
   obtain ⟨rfl,rfl,rfl,hk⟩:=ht
   obtain ⟨e',hk'⟩:=hdom k hk
   obtain ⟨e,h1,h2⟩:=he k e' hk'
   obtain ⟨a,ha,h⟩:=h
   have ha' : st.σ (ρ k) = some a:=ha
   rw [h1] at ha';cases ha'
   refine ⟨e',hk',?_⟩
   cases e' <;> cases e <;> first | (exact h2.elim;done) | (exact h.elim;done) | skip
   ·obtain ⟨rfl,rfl,hlen,_,_⟩:=h2
    simp only [hlen]
    exact h
   ·exact h
  | rp cs =>
   cases c <;> first | (exact ht.elim;done) | skip
   have hx : cs = _:=ht
   subst hx
   obtain ⟨b,off,h1,h2,h3⟩:=h
   exact ⟨b,off,hok b h1,h2,fun j c hj=>by obtain ⟨x,hx,hr⟩:=h3 j c hj;exact ⟨x,hx,hrd hr⟩⟩
  | fn f caps=>cases c <;> exact ht.elim
  | mp k =>
   cases c <;> first | (exact ht.elim;done) | skip
   obtain ⟨rfl,hk⟩:=ht
   obtain ⟨e',hk'⟩:=hdom k hk
   obtain ⟨e,h1,h2⟩:=he k e' hk'
   obtain ⟨agg,kvs,b,h4,h5,rfl⟩:=h
   have h4' : st.σ (ρ k) = some (.mp agg kvs):=h4
   rw [h1] at h4';cases h4'
   cases e' <;> first | (exact h2.elim;done) | skip
   exact ⟨_,_,b,hk',h5,rfl⟩
  | it k =>
   cases c <;> first | (exact ht.elim;done) | skip
   obtain ⟨rfl,hk⟩:=ht
   obtain ⟨e',hk'⟩:=hdom k hk
   obtain ⟨e,h1,h2⟩:=he k e' hk'
   obtain ⟨s,pos,b,h4,h5,rfl⟩:=h
   have h4' : st.σ (ρ k) = some (.it s pos):=h4
   rw [h1] at h4';cases h4'
   cases e' <;> first | (exact h2.elim;done) | skip
   exact ⟨_,_,b,hk',h5,rfl⟩
 have hrc : ∀ {c' c : C} {v : Value},WkC st.σ ρ (fun k=>st'.σ k≠none) c' c→RC (g.env m st w) c v→RC (g.env m' st' w) c' v:=by
  intro c' c v ht h
  by_cases hc : ∀ f caps,c'≠.fn f caps
  ·have hc2 : ∀ f caps,c≠.fn f caps:=by
    rintro f caps rfl
    cases c' <;> first | exact (hc _ _ rfl).elim | exact ht.elim
   have ht' : WkC0 st.σ ρ (fun k=>st'.σ k≠none) c' c:=by
    cases c' <;> first | exact (hc _ _ rfl).elim | exact ht
   exact (RC_iff0 hc).2 (hrc0 ht' ((RC_iff0 hc2).1 h))
  ·cases c' with
   | fn f' caps' =>
    cases c with
    | fn f caps =>
     obtain ⟨rfl,ht⟩:=ht
     obtain ⟨vs,rfl,h⟩:=h
     exact ⟨vs,rfl,(TrL.rl ht).back h fun x y z h1 h2=>hrc0 h1 h2⟩
    | _=>exact ht.elim
   | _=>exact absurd (by intro f caps;simp) hc
 have hsv1 : ∀ {s' s : SV} {v : Value},WkSV1 st.σ ρ (fun k=>st'.σ k≠none) s' s→RSV1 (g.env m st w) s v→RSV1 (g.env m' st' w) s' v:=by
  intro s' s v ht h
  cases s' with
  | dead=>trivial
  | c x=>cases s <;> first | (exact ht.elim;done) | exact hrc ht h
  | agg xs =>
   cases s <;> first | (exact ht.elim;done) | skip
   obtain ⟨vs,rfl,h⟩:=h
   exact ⟨vs,rfl,(TrL.rl ht).back h fun x y z h1 h2=>hrc h1 h2⟩
  | tup=>cases s <;> exact ht.elim
  | opt=>cases s <;> exact ht.elim
 have hsv : ∀ {s' s : SV} {v : Value},WkSV st.σ ρ (fun k=>st'.σ k≠none) s' s→RSV (g.env m st w) s v→RSV (g.env m' st' w) s' v:=by
  have key : ∀ (s s' : SV) (v : Value),WkSV st.σ ρ (fun k=>st'.σ k≠none) s' s→RSV (g.env m st w) s v→RSV (g.env m' st' w) s' v:=by
   intro s
   -- by the old datum
   have hflat : ∀ (s : SV),(∀ g x,s≠.opt g x)→(∀ vs,s≠.tup vs)→∀ (s' : SV) (v : Value),WkSV st.σ ρ (fun k=>st'.σ k≠none) s' s→RSV (g.env m st w) s v→RSV (g.env m' st' w) s' v:=by
    intro s h1 h2 s' v ht h
    have h' : RSV1 (g.env m st w) s v:=by cases s <;> first | exact h | exact absurd rfl (h1 _ _) | exact absurd rfl (h2 _)
    cases s' with
    | dead=>trivial
    | c x=>cases s <;> first | exact absurd rfl (h1 _ _) | exact absurd rfl (h2 _) | exact hsv1 (s':=.c x) ht h'
    | agg x=>cases s <;> first | exact absurd rfl (h1 _ _) | exact absurd rfl (h2 _) | exact hsv1 (s':=.agg x) ht h'
    | tup xs=>cases s <;> first | exact absurd rfl (h1 _ _) | exact absurd rfl (h2 _) | exact ht.elim
    | opt q x=>cases s <;> first | exact absurd rfl (h1 _ _) | exact absurd rfl (h2 _) | exact ht.elim
   have hopt : ∀ (s : SV) (s' : SV) (v : Value),WkSV st.σ ρ (fun k=>st'.σ k≠none) s' s→RSV (g.env m st w) s v→RSV (g.env m' st' w) s' v:=by
    intro s
    exact SV.rec (motive_1:=fun s=>∀ (s' : SV) (v : Value),WkSV st.σ ρ (fun k=>st'.σ k≠none) s' s→RSV (g.env m st w) s v→RSV (g.env m' st' w) s' v) (motive_2:=fun _=>True)
     (hflat .dead (by simp) (by simp)) (fun x=>hflat (.c x) (by simp) (by simp)) (fun cs=>hflat (.agg cs) (by simp) (by simp))
     (fun vs _ s' v ht h=>by
      obtain ⟨ws,rfl,h⟩:=h
      cases s' with
      | dead=>trivial
      | tup xs=>exact ⟨ws,rfl,(TrL.rl ht).back h fun x y z h1 h2=>hsv1 h1 h2⟩
      | c=>exact ht.elim
      | agg=>exact ht.elim
      | opt=>exact ht.elim)
     (fun q x ih s' v ht h=>by
      cases s' with
      | dead=>trivial
      | opt q' x' =>
       obtain ⟨rfl,ht⟩:=ht
       exact ⟨fun hq=>ih x' v (ht hq) (h.1 hq),h.2⟩
      | c y=>exact ih (.c y) v ht.2 (h.1 ht.1)
      | agg y=>exact ih (.agg y) v ht.2 (h.1 ht.1)
      | tup y=>exact ih (.tup y) v ht.2 (h.1 ht.1))
     trivial (fun _ _ _ _=>trivial) s
   exact hopt s
  intro s' s v
  exact key s s' v
 refine ⟨m',hR.frame,fun t=>hsv (hs t) (hR.slot t),fun k e' hk=>?_,fun k e' b hk hg hmb=>?_,fun k k' e e' b hk hk' hm hg hmb hmb'=>?_,hR.gr,fun k e0 hk=>?_⟩
 ·obtain ⟨e,h1,h2⟩:=he k e' hk
  have h:=hR.ent (ρ k) e h1
  cases e' <;> cases e <;> first | (exact h2.elim;done) | skip
  ·obtain ⟨b,cur,T,g1,g2,g3⟩:=h
   exact ⟨b,cur,T,g1,g2,(TrL.rl h2).back g3 fun x y z h1 h2=>hrc h1 h2⟩
  ·obtain ⟨rfl,rfl,hlen,_,hd⟩:=h2
   rcases hd with ⟨rfl,hd⟩ | hd
   rotate_left
   ·obtain ⟨h0,h1,h⟩:=h
    refine ⟨h0,fun r hr=>?_,?_⟩
    ·obtain ⟨i,hi,rfl⟩:=List.mem_iff_getElem.1 hr
     obtain ⟨y,hy,hty⟩:=hd.getT i _ (List.getElem?_eq_getElem hi)
     rw [hty.len];exact h1 y (List.mem_of_getElem? hy)
    ·rcases h with ⟨g1,g2⟩ | ⟨b,cur,cap,g1,g2,g3,g4,g5,g6⟩
     ·exact .inl ⟨g1,List.eq_nil_of_length_eq_zero (by rw [hlen,g2];rfl)⟩
     ·refine .inr ⟨b,cur,cap,g1,g2,g3,by rw [hlen];exact g4,g5,fun i r j c k1 k2=>?_⟩
      obtain ⟨r',hr',htr⟩:=hd.getT i r k1
      obtain ⟨c',hc',htc⟩:=htr.getT j c k2
      obtain ⟨x,hx,hr⟩:=g6 i r' j c' hr' hc'
      exact ⟨x,hx,hrc htc hr⟩
   obtain ⟨h0,h1,h⟩:=h
   refine ⟨h0,h1,h.imp id ?_⟩
   rintro ⟨b,cur,cap,g1,g2,g3,g4,g5,g6⟩
   exact ⟨b,cur,cap,g1,g2,g3,g4,g5,fun i r j c k1 k2=>by
    obtain ⟨x,hx,hr⟩:=g6 i r j c k1 k2
    exact ⟨x,hx,(hrd (isDRows_rd hd k1 k2 hr)).rc⟩⟩
  ·obtain ⟨rfl,rfl⟩:=h2
   obtain ⟨b,es,clock,g1,g2,g3⟩:=h
   exact ⟨b,es,clock,g1,g2,g3.imp fun _ _ _ hh'=>⟨hh'.1,hh'.2.1,hh'.2.2.imp fun _ _ _ h=>hrd h⟩⟩
  ·obtain ⟨rfl,rfl⟩:=h2
   obtain ⟨b,g1,g2⟩:=h
   exact ⟨b,g1,g2⟩
  ·trivial
 ·obtain ⟨e,h1,h2⟩:=he k e' hk
  exact hR.place (ρ k) e b h1 ((mutle h2).2.1 hg) hmb
 ·obtain ⟨x,h1,h2⟩:=he k e hk
  obtain ⟨x',h1',h2'⟩:=he k' e' hk'
  exact hi k k' e e' hk hk' (hR.inj (ρ k) (ρ k') x x' b h1 h1' ((mutle h2).1 hm) ((mutle h2').2.1 hg) hmb hmb')
 ·obtain ⟨e1,h1,h2,h3⟩:=hR.org k e0 hk
  have hkn : k < n:=by
   rcases Nat.lt_or_ge k n with h | h
   ·exact h
   ·rw [hg k h] at hk;cases hk
  obtain ⟨h4,h5⟩:=hn k hkn (by rw [h1];simp)
  obtain ⟨e',hk'⟩:=hdom k h5
  obtain ⟨e,h6,h7⟩:=he k e' hk'
  rw [h4,h1] at h6;cases h6
  refine ⟨e',hk',h2.trans (mutle h7).2.2,fun hg'=>?_⟩
  have:=h3 ((mutle h7).2.1 hg')
  exact ⟨by show m (ρ k) = _;rw [h4];exact this.1,this.2⟩

theorem Le.weaken {n : Nat} {st st' : St} (ρ : Nat→Nat) (hs : ∀ t,WkSV st.σ ρ (fun k=>st'.σ k≠none) (st'.sl t) (st.sl t))
  (he : ∀ k e',st'.σ k = some e'→∃ e,st.σ (ρ k) = some e∧WkEnt st.σ ρ (fun k=>st'.σ k≠none) e' e)
  (hi : ∀ k k' e e',st'.σ k = some e→st'.σ k' = some e'→ρ k = ρ k'→k = k') (hn : ∀ k,k < n→st.σ k≠none→ρ k = k∧st'.σ k≠none) : Le n st st' :=
 Le.weaken2 ρ hs (fun k e' hk=>by obtain ⟨e,h1,h2⟩:=he k e' hk;exact ⟨e,h1,h2.two⟩) hi hn

theorem Le.frz {n : Nat} {st : St} {id : Nat} {E : TypeId} {s : Nat} {rows : List (List C)} {fz : Bool} (h : st.σ id = some (.arr E s rows fz)) : Le n st { st with σ:=upd st.σ id (some (.arr E s rows true)) } :=
 fun _ m _ _ _ hR=>⟨m,hR.freeze h⟩

def lk {α : Type} (d : α) : List (Nat × α)→Nat→α
 | [],_=>d
 | p :: l,t=>if t = p.1 then p.2 else lk d l t

def lkE : List (Nat × Ent)→Nat→Option Ent
 | [],_=>none
 | p :: l,t=>if t = p.1 then some p.2 else lkE l t

def mkSt (l : List (Nat × SV)) (es : List (Nat × Ent)) : St:={ sl:=lk .dead l,σ:=lkE es }

def allL {α : Type} (p : α→Prop) : List α→Prop
 | []=>True
 | x :: l=>p x∧allL p l

theorem allL_mem {α : Type} {p : α→Prop} : ∀ {l : List α},allL p l→∀ x ∈ l,p x
 | [],_,x,hx=>by cases hx
 | y :: l,h,x,hx=>by
  rcases List.mem_cons.1 hx with rfl | hx
  ·exact h.1
  ·exact allL_mem h.2 x hx

theorem lk_cases {l : List (Nat × SV)} (t : Nat) : lk .dead l t = .dead∨(t,lk .dead l t) ∈ l:=by
 induction l with
 | nil=>exact .inl rfl
 | cons p l ih =>
  simp only [lk]
  split
  ·rename_i h;subst h;exact .inr (by simp)
  ·exact ih.imp id fun h=>List.mem_cons_of_mem _ h

theorem lkE_mem {l : List (Nat × Ent)} {t : Nat} {e : Ent} (h : lkE l t = some e) : (t,e) ∈ l:=by
 induction l with
 | nil=>cases h
 | cons p l ih =>
  simp only [lkE] at h
  split at h
  ·rename_i ht;cases h;subst ht;simp
  ·exact List.mem_cons_of_mem _ (ih h)

theorem lkE_dom {l : List (Nat × Ent)} {t : Nat} (h : t ∈ l.map (·.1)) : lkE l t≠none:=by
 induction l with
 | nil=>simp at h
 | cons p l ih =>
  simp only [lkE]
  split
  ·simp
  ·rename_i ht
   rcases List.mem_cons.1 h with h | h
   ·exact absurd h ht
   ·exact ih h

def rlook (ren : List (Nat × Nat)) (k : Nat) : Nat:=match ren with
 | []=>k
 | p :: l=>if k = p.1 then p.2 else rlook l k

theorem Le.mk {n : Nat} {st : St} (ren : List (Nat × Nat)) (l : List (Nat × SV)) (es : List (Nat × Ent))
  (hs : allL (fun p : Nat × SV=>WkSV st.σ (rlook ren) (fun k=>lkE es k≠none) p.2 (st.sl p.1)) l)
  (he : allL (fun p : Nat × Ent=>∃ e,st.σ (rlook ren p.1) = some e∧WkEnt st.σ (rlook ren) (fun k=>lkE es k≠none) p.2 e) es)
  (hi : (es.map fun p=>rlook ren p.1).Nodup) (hn : ∀ k,k < n→rlook ren k = k∧k ∈ es.map (·.1)) : Le n st (mkSt l es):=by
 refine Le.weaken (rlook ren) (fun t=>?_) (fun k e' hk=>?_) (fun k k' e e' hk hk' hr=>?_) (fun k hk _=>⟨(hn k hk).1,lkE_dom (hn k hk).2⟩)
 ·rcases lk_cases (l:=l) t with h | h
  ·show WkSV _ _ _ (lk .dead l t) _
   rw [h];cases st.sl t <;> trivial
  ·exact allL_mem hs (t,lk .dead l t) h
 ·exact allL_mem he (k,e') (lkE_mem hk)
 ·obtain ⟨i,h1⟩:=List.mem_iff_getElem?.1 (lkE_mem hk)
  obtain ⟨j,h2⟩:=List.mem_iff_getElem?.1 (lkE_mem hk')
  have e1 : (es.map fun p=>rlook ren p.1)[i]? = some (rlook ren k):=by rw [List.getElem?_map,h1];rfl
  have e2 : (es.map fun p=>rlook ren p.1)[j]? = some (rlook ren k):=by rw [List.getElem?_map,h2,hr];rfl
  have hil : i < (es.map fun p=>rlook ren p.1).length:=by
   rcases Nat.lt_or_ge i (es.map fun p=>rlook ren p.1).length with h | h
   ·exact h
   ·rw [List.getElem?_eq_none h] at e1;cases e1
  have hjl : j < (es.map fun p=>rlook ren p.1).length:=by
   rcases Nat.lt_or_ge j (es.map fun p=>rlook ren p.1).length with h | h
   ·exact h
   ·rw [List.getElem?_eq_none h] at e2;cases e2
  rw [List.getElem?_eq_getElem hil] at e1
  rw [List.getElem?_eq_getElem hjl] at e2
  have : i = j:=(List.getElem_inj hi).1 ((Option.some.inj e1).trans (Option.some.inj e2).symm)
  subst this
  rw [h1] at h2
  cases h2;rfl

section
variable {P : Program} {g : Gr} {m : Nat→Option Nat} {st : St} {tmps : Array Value} {w : World}

def ARpre (st : St) : AR→Prop
 | .t _=>True
 | .l1 n=>(st.sl n).pre
 | .ln n _=>(st.sl n).pre

def res1 (tmps : Array Value) : ResultVar→Sem Value
 | .tmp t=>pure (tmps.getD t undef)
 | .cell a t=>do loadVar t (← asAddr (tmps.getD a undef))

theorem results_eq {fn : Func} : results fn tmps = ((fn.results.mapM (res1 tmps)) >>= fun vs=>pure (if h : vs.size = 1 then vs[0] else .tuple vs)):=by
 unfold results
 congr 1

theorem res1_run (hR : R g m st tmps w) {rv : ResultVar} {ar : AR} (hc : compR1 P rv = some ar) {sv : SV} (hv : resV1 st ar = some sv) (hp : ARpre st ar) :
  ∃ v,(res1 tmps rv).run P w = .ok v w∧RSV (g.env m st w) sv v:=by
 cases rv with
 | tmp t =>
  cases hc
  cases hv
  exact ⟨_,rfl,hR.slot t⟩
 | cell p T =>
  simp only [compR1] at hc
  split at hc
  ·rename_i d i hu hi
   have hasAddr : ∀ b off,(asAddr (.pointer (some ⟨b,off,none⟩))).run P w = .ok ⟨b,off,none⟩ w:=fun _ _=>rfl
   have hsh : (res1 tmps (.cell p T)).run P w = (do loadVar T (← asAddr (tmps.getD p undef)) : Sem Value).run P w:=rfl
   rw [hsh]
   split at hc <;> cases hc
   ·rename_i hd
    simp only [resV1] at hv
    split at hv
    ·rename_i id off h1
     split at hv
     ·rename_i cs hid
      split at hv
      ·rename_i hl
       cases hv
       have hpt:=(ptr_of hR ((hR.slot p).one hp h1)).1 _ _ _ rfl hid
       obtain ⟨vs,hr,hv⟩:=run_ldn (P:=P) (e:=g.env m st w) rfl hu hd hi (hpt.take i.size) (by simp;omega)
       obtain ⟨b,off',hv',_⟩:=hpt
       refine ⟨.agg vs,?_,vs,rfl,hv⟩
       rw [hv'] at hr ⊢
       simp only [Sem.run_bind,hasAddr,Result.andThen_ok]
       simpa [Instr.loadAt,Instr.sureAddr] using hr
      ·cases hv
     ·cases hv
    ·cases hv
   ·rename_i hd
    simp only [resV1] at hv
    split at hv
    ·rename_i id off h1
     split at hv
     ·rename_i cs hid
      simp only [Option.map_eq_some_iff] at hv
      obtain ⟨c,hcc,rfl⟩:=hv
      obtain ⟨r,hr⟩:=drop_cons hcc
      have hpt:=(ptr_of hR ((hR.slot p).one hp h1)).1 _ _ _ rfl hid
      rw [hr] at hpt
      obtain ⟨v,hr,hv⟩:=run_ld1 (P:=P) (e:=g.env m st w) rfl hu (by simpa using hd) hpt
      obtain ⟨b,off',hv',_⟩:=hpt
      refine ⟨v,?_,hv⟩
      rw [hv'] at hr ⊢
      simp only [Sem.run_bind,hasAddr,Result.andThen_ok]
      simpa [Instr.loadAt,Instr.sureAddr] using hr
     ·cases hv
    ·cases hv
  ·cases hc

theorem resPre_cons {a : AR} {b : List AR} (hp : resPre st (a :: b)) : ARpre st a∧resPre st b:=by
 cases a with
 | t n=>exact ⟨trivial,hp⟩
 | l1 n=>exact hp
 | ln n k=>exact hp

theorem ress_run (hR : R g m st tmps w) : ∀ {rvs : List ResultVar} {ars : List AR},compR P rvs = some ars→∀ {svs : List SV},resVs st ars = some svs→resPre st ars →
  ∃ vs,(rvs.mapM (res1 tmps)).run P w = .ok vs w∧RL (RSV (g.env m st w)) svs vs∧∀ s ∈ svs,s.flat = true
 | [],ars,hc,svs,hv,_=>by
  cases hc;cases hv
  exact ⟨[],rfl,RL.nil,by simp⟩
 | rv :: rvs,ars,hc,svs,hv,hp=>by
  simp only [compR] at hc
  split at hc
  ·rename_i a b h1 h2
   cases hc
   simp only [resVs] at hv
   split at hv
   ·rename_i x xs h3 h4
    split at hv
    ·rename_i hfl
     cases hv
     have hpa:=resPre_cons hp
     obtain ⟨v,g1,g2⟩:=res1_run hR h1 h3 hpa.1
     obtain ⟨vs,g3,g4,g5⟩:=ress_run hR h2 h4 hpa.2
     refine ⟨v :: vs,?_,RL.cons g2 g4,fun s hs=>?_⟩
     ·rw [List.mapM_cons,Sem.run_bind,g1,Result.andThen_ok,Sem.run_bind,g3,Result.andThen_ok];rfl
     ·rcases List.mem_cons.1 hs with rfl | hs
      ·exact hfl
      ·exact g5 s hs
    ·cases hv
   ·cases hv
  ·cases hc

theorem res_run (hR : R g m st tmps w) {fn : Func} {ars : List AR} (hc : compR P fn.results.toList = some ars) {sv : SV} (hv : resV st ars = some sv) (hp : resPre st ars) : ∃ v,(results fn tmps).run P w = .ok v w∧RSV (g.env m st w) sv v:=by
 have key : ∃ svs,resVs st ars = some svs∧((∃ x,svs = [x]∧sv = x)∨(svs.length≠1∧sv = .tup svs)):=by
  cases h : resVs st ars with
  | none=>rw [resV,h] at hv;cases hv
  | some l =>
   match l with
   | []=>rw [resV,h] at hv;cases hv;exact ⟨_,rfl,.inr ⟨by simp,rfl⟩⟩
   | [y]=>rw [resV,h] at hv;cases hv;exact ⟨_,rfl,.inl ⟨_,rfl,rfl⟩⟩
   | x :: y :: r=>rw [resV,h] at hv;cases hv;exact ⟨_,rfl,.inr ⟨by simp,rfl⟩⟩
 obtain ⟨svs,h1,h2⟩:=key
 obtain ⟨vs,h3,h4,h5⟩:=ress_run hR hc h1 hp
 have hrun : (fn.results.mapM (res1 tmps)).run P w = .ok vs.toArray w:=by
  rw [Array.mapM_eq_mapM_toList,Sem.run_map,h3];rfl
 rw [results_eq]
 rcases h2 with ⟨x,rfl,rfl⟩ | ⟨hl,rfl⟩
 ·obtain ⟨y,ys,rfl,g1,g2⟩:=h4.uncons
  rw [g2.nil_inv] at hrun
  exact ⟨y,by rw [Sem.run_bind,hrun];rfl,g1⟩
 ·refine ⟨.tuple vs.toArray,?_,vs.toArray,rfl,h4.1,fun j s v hs hv=>?_⟩
  ·rw [Sem.run_bind,hrun,Result.andThen_ok]
   have : vs.toArray.size≠1:=by have:=h4.1;simp;omega
   rw [dif_neg this];rfl
  ·have:=h4.2 j s v hs hv
   have hf:=h5 s (List.mem_of_getElem? hs)
   cases s <;> first | exact this | cases hf

end

theorem Con.of_awp {P : Program} (hm : P.follows .mixedOrders = true) {f : FuncId} {fn : Func} {c : Code} {ac : AC} {rs : List AR} (hf : P.funcs[f]? = some fn) (hok : okFunc P f = true) (hb : fn.body = some c) (hc : compC P fn.ntmps c = some ac) (hr : compR P fn.results.toList = some rs)
  {args : List SV} {objs : List Ent} {res : SV} {out : List Ent} (hN : args.length≤fn.ntmps) (hl : objs.length≤out.length)
  (h : awp P objs.length ac (fun e st=>∃ st0,Le objs.length st st0∧(e = .normal∨e = .ret)∧∃ sv,resV st0 rs = some sv∧resPre st0 rs∧Le objs.length { sl:=upd (fun _=>.dead) 0 sv,σ:=st0.σ } { sl:=upd (fun _=>.dead) 0 res,σ:=fun i=>out[i]? }) (stOf args objs)) : Con P f args objs res out:=by
 refine ⟨hok,hl,fun ok0 m w vs hsz hR=>calls_of_wp hf hb ?_⟩
 have hg : ∀ k,objs.length≤k→(groundOf ok0 m objs w).σ0 k = none:=fun k hk=>List.getElem?_eq_none hk
 have hR0 : R (groundOf ok0 m objs w) m (stOf args objs) (vs ++ Array.replicate (fn.ntmps - vs.size) undef) w:=by
  refine ⟨hR.frame,fun t=>?_,hR.ent,hR.place,hR.inj,hR.gr,hR.org⟩
  have : (vs ++ Array.replicate (fn.ntmps - vs.size) undef).getD t undef = vs.getD t undef:=by
   simp only [Array.getD_eq_getD_getElem?,Array.getElem?_append]
   split
   ·rfl
   ·rename_i ht
    rw [Array.getElem?_eq_none (xs:=vs) (by omega),Array.getElem?_replicate]
    split <;> rfl
  rw [this]
  exact hR.slot t
 refine awp_sound hm hg c (Q:=bodyPost P fn _) hc h hR0 (by simp;omega) fun e st' m' a' w' hq hR' hN' hd'=>?_
 obtain ⟨st0,hle0,he,sv,h1,h2,h3⟩:=hq
 obtain ⟨m',hR'⟩:=hle0 _ m' a'.tmps w' hg hR'
 obtain ⟨v,hv,hsv⟩:=res_run hR' hr h1 h2
 have hR2 : R (groundOf ok0 m objs w) m' { sl:=upd (fun _=>.dead) 0 sv,σ:=st0.σ } #[v] w':=by
  refine ⟨hR'.frame,fun t=>?_,hR'.ent,hR'.place,hR'.inj,hR'.gr,hR'.org⟩
  show RSV ((groundOf ok0 m objs w).env m' st0 w') (upd (fun _=>.dead) 0 sv t) _
  rw [upd_apply]
  split
  ·rename_i ht;subst ht;exact hsv
  ·trivial
 obtain ⟨m2,hR3⟩:=h3 _ m' #[v] w' hg hR2
 have fin : ∃ v' m',Ending.returned v = .returned v'∧R (groundOf ok0 m objs w) m' { sl:=fun _=>.dead,σ:=fun i=>out[i]? } #[] w'∧RSV ((groundOf ok0 m objs w).env m' { sl:=fun _=>.dead,σ:=fun i=>out[i]? } w') res v' :=
  ⟨v,m2,rfl,⟨hR3.frame,fun _=>trivial,hR3.ent,hR3.place,hR3.inj,hR3.gr,hR3.org⟩,by have:=hR3.slot 0;simp only [upd_apply,if_true] at this;exact this⟩
 rcases he with rfl | rfl
 ·exact ⟨hd',v,hv,fin⟩
 ·exact ⟨hd',v,hv,fin⟩

end Go.Abs

namespace Go.Abs
open Go

abbrev SL:=List (Nat × SV)
abbrev EL:=List (Nat × Ent)
abbrev KL:=List (List Nat × List Nat)

def setS (d : Nat) (v : SV) : SL→SL
 | []=>[(d,v)]
 | p :: r=>if d = p.1 then (d,v) :: r else p :: setS d v r

def setE (d : Nat) (v : Ent) : EL→EL
 | []=>[(d,v)]
 | p :: r=>if d = p.1 then (d,v) :: r else p :: setE d v r

def setEs : List (Nat × Ent)→EL→EL
 | [],es=>es
 | p :: r,es=>setEs r (setE p.1 p.2 es)

def setD (d : Option Nat) (v : SV) (l : SL) : SL:=match d with
 | some d=>setS d v l
 | none=>l

theorem lk_setS (d : Nat) (v : SV) : ∀ (l : SL),lk .dead (setS d v l) = upd (lk .dead l) d v
 | []=>rfl
 | p :: r=>by
  funext t
  simp only [setS,upd_apply]
  split
  ·rename_i h
   simp only [lk,h]
   split <;> rfl
  ·rename_i h
   simp only [lk,lk_setS d v r,upd_apply]
   split
   ·rename_i h1
    rw [if_neg (by rintro rfl;exact h h1)]
   ·rfl

theorem lkE_setE (d : Nat) (v : Ent) : ∀ (l : EL),lkE (setE d v l) = upd (lkE l) d (some v)
 | []=>rfl
 | p :: r=>by
  funext t
  simp only [setE,upd_apply]
  split
  ·rename_i h
   simp only [lkE,h]
   split <;> rfl
  ·rename_i h
   simp only [lkE,lkE_setE d v r,upd_apply]
   split
   ·rename_i h1
    rw [if_neg (by rintro rfl;exact h h1)]
   ·rfl

theorem lkE_setEs : ∀ (ups : List (Nat × Ent)) (es : EL),lkE (setEs ups es) = updσ (lkE es) ups
 | [],es=>rfl
 | p :: r,es=>by
  show lkE (setEs r (setE p.1 p.2 es)) = updσ (upd (lkE es) p.1 (some p.2)) r
  rw [lkE_setEs r,lkE_setE]

theorem mk_put (l : SL) (es : EL) (d : Option Nat) (r : Rec) : (mkSt l es).put d r = mkSt (setD d r.sv l) (setEs r.ups es):=by
 unfold St.put mkSt
 rw [lkE_setEs]
 cases d with
 | none=>rfl
 | some d=>simp only [setD,lk_setS]

def RG (P : Program) (fr : Nat) (ops : List AO) (l : SL) (es : EL) (ks : KL) (K : SL→EL→KL→Prop) : Prop :=
 ∀ rs : List Rec,rs.map Rec.key = ks→RunL P fr ops (mkSt l es) rs fun st' rs'=>∃ l' es',st' = mkSt l' es'∧K l' es' (rs'.map Rec.key)

theorem RG.nil {P : Program} {fr : Nat} {l : SL} {es : EL} {ks : KL} {K : SL→EL→KL→Prop} (h : K l es ks.reverse) : RG P fr [] l es ks K:=by
 intro rs hr
 refine ⟨l,es,rfl,?_⟩
 rw [List.map_reverse,hr];exact h

theorem RG.step {P : Program} {fr : Nat} {o : AO} {ops : List AO} {l : SL} {es : EL} {ks : KL} {K : SL→EL→KL→Prop} (r : Rec) (h : En P fr o (lk .dead l) (lkE es) r)
  (hn : RG P (fr + 16) ops (setD o.dst r.sv l) (setEs r.ups es) (r.key :: ks) K) : RG P fr (o :: ops) l es ks K:=by
 intro rs hr
 refine ⟨r,h,?_⟩
 rw [mk_put]
 exact hn (r :: rs) (by simp [hr])

def RX : Nat→List AO→SL→EL→KL→(Nat→List AO→SL→EL→KL→Prop)→Prop
 | fr,[],l,es,ks,Q=>Q fr [] l es ks
 | fr,o :: ops,l,es,ks,Q=>if o.op.isCall then Q fr (o :: ops) l es ks else
  match o.gd with
  | none=>match eff (ev (lk .dead l)) (lkE es) fr o.op with
   | some (sv,ups,cond)=>cond∧presOf (ev (lk .dead l)) o.op.needs∧RX (fr + 16) ops (setD o.dst sv l) (setEs ups es) ((idsOf (ev (lk .dead l)) o.op.rds ++ [fr],ups.map (·.1)) :: ks) Q
   | none=>False
  | some (gs,want)=>match gval (lk .dead l gs) with
   | some (g,t)=>match eff (ev (lk .dead l)) (lkE es) fr o.op with
    | some (sv,[],cond)=>((g && (t == want)) = true→cond∧presOf (ev (lk .dead l)) o.op.needs)∧RX (fr + 16) ops (setD o.dst (.opt (g && (t == want)) sv) l) es ((idsOf (ev (lk .dead l)) o.op.rds ++ [fr],[]) :: ks) Q
    | _=>(g && (t == want)) = false∧RX (fr + 16) ops (setD o.dst (.opt false (.c (.v (.bool false)))) l) es (([],[]) :: ks) Q
   | none=>False

theorem En0.of_eff {P : Program} {fr : Nat} {op : AOp} {sl : Nat→SV} {σ : Nat→Option Ent} {sv : SV} {ups : List (Nat × Ent)} {cond : Prop} (h : ¬ op.isCall = true) (h1 : eff (ev sl) σ fr op = some (sv,ups,cond)) (h2 : cond) (h3 : presOf (ev sl) op.needs) :
  En0 P fr op sl σ ⟨sv,ups,idsOf (ev sl) op.rds ++ [fr]⟩:=by
 cases op <;> first | (exact absurd rfl h;done) | exact ⟨_,_,_,h1,h2,h3,rfl⟩

theorem RX.run {P : Program} {K : SL→EL→KL→Prop} : ∀ (ops : List AO) {fr : Nat} {l : SL} {es : EL} {ks : KL},RX fr ops l es ks (fun fr ops l es ks=>RG P fr ops l es ks K)→RG P fr ops l es ks K
 | [],fr,l,es,ks,h=>h
 | o :: ops,fr,l,es,ks,h=>by
  unfold RX at h
  split at h
  ·exact h
  ·rename_i hc
   split at h
   ·rename_i hg
    split at h
    ·rename_i sv ups cond he
     obtain ⟨h1,h2,h3⟩:=h
     refine RG.step ⟨sv,ups,idsOf (ev (lk .dead l)) o.op.rds ++ [fr]⟩ ?_ (RX.run ops h3)
     unfold En
     rw [hg]
     exact En0.of_eff hc he h1 h2
    ·exact h.elim
   ·rename_i gs want hg
    split at h
    ·rename_i g t hv
     split at h
     ·rename_i sv cond he
      obtain ⟨h1,h3⟩:=h
      refine RG.step ⟨.opt (g && (t == want)) sv,[],idsOf (ev (lk .dead l)) o.op.rds ++ [fr]⟩ ?_ (RX.run ops h3)
      unfold En
      rw [hg]
      exact .inl ⟨g,t,sv,hv,rfl,fun hh=>En0.of_eff hc he (h1 hh).1 (h1 hh).2⟩
     ·obtain ⟨h1,h3⟩:=h
      refine RG.step ⟨.opt false (.c (.v (.bool false))),[],[]⟩ ?_ (RX.run ops h3)
      unfold En
      rw [hg]
      exact .inl ⟨g,t,.c (.v (.bool false)),hv,by rw [h1],fun hh=>by rw [h1] at hh;cases hh⟩
    ·exact h.elim

theorem RG.go {P : Program} {fr : Nat} {ops : List AO} {l : SL} {es : EL} {ks : KL} {K : SL→EL→KL→Prop}
  (h : ∀ Q : Nat→List AO→SL→EL→KL→Prop,(∀ {fr ops l es ks},RG P fr ops l es ks K→Q fr ops l es ks)→RX fr ops l es ks Q) : RG P fr ops l es ks K :=
 RX.run ops (h _ fun hh=>hh)

def thenQ (X : St→Prop) (Q : Exit→St→Prop) : Exit→St→Prop :=
 Exit.rec (motive:=fun _=>St→Prop) X (fun id=>Q (.exit id)) (fun l=>Q (.goto l)) (Q .ret) (fun c=>Q (.panic c)) (Q .outgrown)

def blockQ (id : Nat) (Q : Exit→St→Prop) : Exit→St→Prop:=fun e st'=>match e with
 | .exit id'=>if id' = id then Q .normal st' else Q (.exit id') st'
 | e=>Q e st'

def loopQ (n : Nat) {X : Type} (S : X→St) (μ : X→Nat) (x : X) (Q : Exit→St→Prop) : Exit→St→Prop:=fun e st'=>match e with
 | .normal=>∃ x',Le n st' (S x')∧μ x' < μ x
 | e=>Q e st'

section
variable {P : Program} {n : Nat} {Q : Exit→St→Prop} {a b : AC} {st : St} {l : SL} {es : EL}

theorem aw_seq (h : awp P n a (thenQ (awp P n b Q) Q) st) : awp P n (.seq a b) Q st:=h
theorem aw_loop {X : Type} (S : X→St) (μ : X→Nat) (x0 : X) (h0 : Le n st (S x0)) (h : ∀ x,awp P n a (loopQ n S μ x Q) (S x)) : awp P n (.loop a) Q st :=
 ⟨X,S,μ,x0,h0,fun x=>awp_mono a (fun e s hh=>by cases e <;> exact hh) (h x)⟩
theorem aw_cond {c : AX} (t : Bool) (h1 : (ev (lk .dead l) c).one? = some (.v (.bool t))) (h2 : (ev (lk .dead l) c).pre) (h3 : t = true→awp P n a Q (mkSt l es)) (h4 : t = false→awp P n b Q (mkSt l es)) : awp P n (.cond c a b) Q (mkSt l es) :=
 ⟨_,Le.refl _ _,t,h1,h2,h3,h4⟩
theorem aw_reg {ops : List AO} (fr : Nat) (h : RG P fr ops l es [] fun l' es' _=>Q .normal (mkSt l' es')) : awp P n (.region ops false) Q (mkSt l es):=by
 refine ⟨_,Le.refl _ _,fr,?_⟩
 have:=h [] rfl
 have mono : ∀ (ops : List AO) (fr : Nat) (s : St) (rs : List Rec) (K K' : St→List Rec→Prop),(∀ s r,K s r→K' s r)→RunL P fr ops s rs K→RunL P fr ops s rs K':=by
  intro ops
  induction ops with
  | nil=>intro fr s rs K K' hk hr;exact hk _ _ hr
  | cons o l ih=>intro fr s rs K K' hk hr;obtain ⟨r,h1,h2⟩:=hr;exact ⟨r,h1,ih _ _ _ _ _ hk h2⟩
 refine mono _ _ _ _ _ _ ?_ this
 rintro s r ⟨l',es',rfl,hq⟩
 exact ⟨fun hh=>absurd hh (by simp),hq⟩
theorem aw_draw {ops : List AO} (fr : Nat) (h : RG P fr ops l es [] fun l' es' ks=>drawOk ops ks = true∧Q .normal (mkSt l' es')) : awp P n (.region ops true) Q (mkSt l es):=by
 refine ⟨_,Le.refl _ _,fr,?_⟩
 have:=h [] rfl
 have mono : ∀ (ops : List AO) (fr : Nat) (s : St) (rs : List Rec) (K K' : St→List Rec→Prop),(∀ s r,K s r→K' s r)→RunL P fr ops s rs K→RunL P fr ops s rs K':=by
  intro ops
  induction ops with
  | nil=>intro fr s rs K K' hk hr;exact hk _ _ hr
  | cons o l ih=>intro fr s rs K K' hk hr;obtain ⟨r,h1,h2⟩:=hr;exact ⟨r,h1,ih _ _ _ _ _ hk h2⟩
 refine mono _ _ _ _ _ _ ?_ this
 rintro s r ⟨l',es',rfl,hq⟩
 exact ⟨fun _=>hq.1,hq.2⟩

end

def FinQ (n : Nat) (rs : List AR) (res : SV) (out : List Ent) : Exit→St→Prop:=fun e st0=>∃ st,Le n st0 st ∧
 (e = .normal∨e = .ret)∧∃ sv,resV st rs = some sv∧resPre st rs∧Le n { sl:=upd (fun _=>.dead) 0 sv,σ:=st.σ } { sl:=upd (fun _=>.dead) 0 res,σ:=fun i=>out[i]? }

theorem cl_fin {n : Nat} {rs : List AR} {res : SV} {out : List Ent} : Cl n (FinQ n rs res out):=fun _ _ _ hl ⟨st,h1,h2⟩=>⟨st,hl.trans h1,h2⟩
theorem cl_then {P : Program} {n : Nat} {b : AC} {Q Q' : Exit→St→Prop} (h : Cl n Q) (h' : Cl n Q') : Cl n (thenQ (awp P n b Q') Q):=fun e s s' hl hh=>by
 cases e with
 | normal=>exact awp_cl b h' hl hh
 | _=>exact h _ _ _ hl hh
theorem cl_block {n id : Nat} {Q : Exit→St→Prop} (h : Cl n Q) : Cl n (blockQ id Q):=fun e s s' hl hh=>by
 cases e with
 | exit id' =>
  simp only [blockQ] at hh ⊢
  split at hh
  ·rename_i hid;rw [if_pos hid];exact h _ _ _ hl hh
  ·rename_i hid;rw [if_neg hid];exact h _ _ _ hl hh
 | _=>exact h _ _ _ hl hh
theorem aw_join {P : Program} {n : Nat} {a b : AC} {Q : Exit→St→Prop} {st : St} {Y : Type} (T : Y→St) (hQ : Cl n Q) (h : awp P n a (thenQ (fun s=>∃ y,Le n s (T y)) Q) st) (hp : ∀ y,awp P n b Q (T y)) : awp P n a (thenQ (awp P n b Q) Q) st :=
 awp_mono a (fun e s hh=>by
  cases e with
  | normal=>obtain ⟨y,hy⟩:=hh;exact awp_cl b hQ hy (hp y)
  | _=>exact hh) h

def argL : Nat→List SV→SL
 | _,[]=>[]
 | n,a :: r=>(n,a) :: argL (n + 1) r

def objL : Nat→List Ent→EL
 | _,[]=>[]
 | n,a :: r=>(n,a) :: objL (n + 1) r

theorem lk_argL : ∀ (l : List SV) (n t : Nat),lk .dead (argL n l) t = if n≤t then l.getD (t - n) .dead else .dead
 | [],n,t=>by simp [argL,lk]
 | a :: r,n,t=>by
  simp only [argL,lk,lk_argL r (n + 1) t]
  split
  ·rename_i h;subst h;simp
  ·split
   ·rename_i h1 h2
    rw [if_pos (by omega),show t - n = (t - (n + 1)) + 1 by omega];rfl
   ·split
    ·omega
    ·rfl

theorem lkE_objL : ∀ (l : List Ent) (n t : Nat),lkE (objL n l) t = if n≤t then l[t - n]? else none
 | [],n,t=>by simp [objL,lkE]
 | a :: r,n,t=>by
  simp only [objL,lkE,lkE_objL r (n + 1) t]
  split
  ·rename_i h;subst h;simp
  ·split
   ·rename_i h1 h2
    rw [if_pos (by omega),show t - n = (t - (n + 1)) + 1 by omega];rfl
   ·split
    ·omega
    ·rfl

theorem mk_stOf (args : List SV) (objs : List Ent) : stOf args objs = mkSt (argL 0 args) (objL 0 objs):=by
 unfold stOf mkSt
 congr 1
 ·funext t;rw [lk_argL];simp
 ·funext t;rw [lkE_objL];simp

theorem Con.of_aw {P : Program} (hm : P.follows .mixedOrders = true) {f : FuncId} {fn : Func} {c : Code} {ac : AC} {rs : List AR} (hf : P.funcs[f]? = some fn) (hok : okFunc P f = true) (hb : fn.body = some c) (hc : compC P fn.ntmps c = some ac) (hr : compR P fn.results.toList = some rs)
  {args : List SV} {objs : List Ent} {res : SV} {out : List Ent} (hN : args.length≤fn.ntmps) (hl : objs.length≤out.length)
  (h : awp P objs.length ac (FinQ objs.length rs res out) (mkSt (argL 0 args) (objL 0 objs))) : Con P f args objs res out :=
 Con.of_awp hm hf hok hb hc hr hN hl (by rw [mk_stOf];exact h)

theorem Fin.scalar {rs : List AR} {res sv : SV} {e : Exit} {st : St} (he : e = .normal∨e = .ret) (h : resV st rs = some sv) (hp : resPre st rs) (hs : sv = res) (hsc : res.scalar) : FinQ 0 rs res [] e st:=by
 subst hs
 refine ⟨_,Le.refl _ _,he,sv,h,hp,Le.weaken id (fun t=>?_) (fun k e hk=>by simp at hk) (fun k _ _ _ hk=>by simp at hk) fun k hk=>absurd hk (Nat.not_lt_zero k)⟩
 show WkSV _ _ _ (upd (fun _=>.dead) 0 sv t) (upd (fun _=>.dead) 0 sv t)
 rw [upd_apply]
 split
 ·cases sv with
  | dead=>trivial
  | c x =>
   cases x <;> first | (exact hsc.elim;done) | skip
   exact (rfl : _ = _)
  | tup vs =>
   have : ∀ vs : List SV,(∀ s ∈ vs,∃ x,s = .c (.v x))→TrL (WkSV1 st.σ id fun k=>([] : List Ent)[k]?≠none) vs vs:=by
    intro vs
    induction vs with
    | nil=>intro _;trivial
    | cons a r ih =>
     intro hh
     obtain ⟨x,rfl⟩:=hh a (by simp)
     exact ⟨rfl,ih fun s hs=>hh s (by simp [hs])⟩
   exact this vs hsc
  | agg=>exact hsc.elim
  | opt=>exact hsc.elim
 ·trivial

theorem lk_nil (t : Nat) : lk SV.dead [] t = .dead:=rfl
theorem lk_cons (k : Nat) (v : SV) (l : SL) (t : Nat) : lk SV.dead ((k,v) :: l) t = if t = k then v else lk SV.dead l t:=rfl
theorem lkE_nil (t : Nat) : lkE [] t = none:=rfl
theorem lkE_cons (k : Nat) (v : Ent) (l : EL) (t : Nat) : lkE ((k,v) :: l) t = if t = k then some v else lkE l t:=rfl
theorem setS_nil (d : Nat) (v : SV) : setS d v [] = [(d,v)]:=rfl
theorem setS_cons (d : Nat) (v : SV) (k : Nat) (x : SV) (l : SL) : setS d v ((k,x) :: l) = if d = k then (d,v) :: l else (k,x) :: setS d v l:=rfl
theorem setE_nil (d : Nat) (v : Ent) : setE d v [] = [(d,v)]:=rfl
theorem setE_cons (d : Nat) (v : Ent) (k : Nat) (x : Ent) (l : EL) : setE d v ((k,x) :: l) = if d = k then (d,v) :: l else (k,x) :: setE d v l:=rfl
theorem ev_t (sl : Nat→SV) (t : Nat) : ev sl (.t t) = sl t:=rfl
theorem ev_k (sl : Nat→SV) (x : SV) : ev sl (.k x) = x:=rfl

theorem C_default : (default : C) = .v (.bool false):=rfl

end Go.Abs

namespace Go.Abs
open Go

section
variable {P : Program} {fr : Nat} {f : FuncId} {axs : List AX} {d : Option Nat} {af : List Nat} {ops : List AO} {l : SL} {es : EL} {ks : KL} {K : SL→EL→KL→Prop} {x : AX}

def Views (es : EL) : List Nat→Prop
 | []=>True
 | id :: r=>(∃ E s rows fz,lkE es id = some (.arr E s rows fz))∧Views es r

theorem Views.all {es : EL} : ∀ {views : List Nat},Views es views→∀ id ∈ views,∃ E s rows fz,lkE es id = some (.arr E s rows fz)
 | [],_,id,h=>by simp at h
 | v :: r,hv,id,h=>by
  rcases List.mem_cons.1 h with rfl | h
  ·exact hv.1
  ·exact hv.2.all id h

def Frozen (es : EL) : List Nat→Prop
 | []=>True
 | id :: r=>(∃ E s rows,lkE es id = some (.arr E s rows true))∧Frozen es r

theorem Frozen.all {es : EL} : ∀ {views : List Nat},Frozen es views→∀ id ∈ views,∃ E s rows,lkE es id = some (.arr E s rows true)
 | [],_,id,h=>by simp at h
 | v :: r,hv,id,h=>by
  rcases List.mem_cons.1 h with rfl | h
  ·exact hv.1
  ·exact hv.2.all id h

theorem Frozen.views {es : EL} : ∀ {views : List Nat},Frozen es views→Views es views
 | [],_=>trivial
 | v :: r,hv=>⟨by obtain ⟨E,s,rows,h⟩:=hv.1;exact ⟨E,s,rows,true,h⟩,hv.2.views⟩

def OkRes (es : EL) (views : List Nat) (res : SV) : Prop:=res.scalar∨(res.pureD∧Frozen es views)

theorem RG.call {args : List SV} {res : SV} (views : List Nat) (hcon : Con P f args [] res []) (ht : TrL (TrSV (lkE es) [] views) (axs.map (ev (lk .dead l))) args) (hv : Views es views) (hs : OkRes es views res)
  (h : RG P (fr + 16) ops (setD d res l) es ((views,[]) :: ks) K) : RG P fr (⟨.call f axs,d,none,af⟩ :: ops) l es ks K :=
 RG.step ⟨res,[],views⟩ (show CallOk P f _ _ _ _ from .inl ⟨args,res,views,hcon,ht,hv.all,hs.imp (fun h=>h) fun h=>⟨h.1,h.2.all⟩,rfl⟩) h

theorem RG.callg {gs : Nat} {want : Bool} {res : SV} (g t : Bool) (views : List Nat) (hg : gval (lk .dead l gs) = some (g,t))
  (h0 : (g && (t == want)) = true→∃ args,Con P f args [] res []∧TrL (TrSV (lkE es) [] views) (axs.map (ev (lk .dead l))) args∧Views es views∧OkRes es views res)
  (h : RG P (fr + 16) ops (setD d (.opt (g && (t == want)) res) l) es ((views,[]) :: ks) K) : RG P fr (⟨.call f axs,d,some (gs,want),af⟩ :: ops) l es ks K :=
 RG.step ⟨.opt (g && (t == want)) res,[],views⟩ (show En P fr _ _ _ _ from .inl ⟨g,t,res,hg,rfl,fun hh=>by
  obtain ⟨args,hcon,ht,hv,hs⟩:=h0 hh
  exact (show CallOk P f _ _ _ _ from .inl ⟨args,res,views,hcon,ht,hv.all,hs.imp (fun h=>h) fun h=>⟨h.1,h.2.all⟩,rfl⟩)⟩) h

theorem RG.callv {args : List SV} {res : SV} {caps : List C} (views : List Nat) (hx : (ev (lk .dead l) x).one? = some (.fn f caps)) (hxp : (ev (lk .dead l) x).pre) (hcon : Con P f args [] res []) (ht : TrL (TrSV (lkE es) [] views) (axs.map (ev (lk .dead l)) ++ caps.map .c) args) (hv : Views es views) (hs : OkRes es views res)
  (h : RG P (fr + 16) ops (setD d res l) es ((views,[]) :: ks) K) : RG P fr (⟨.callv x axs,d,none,af⟩ :: ops) l es ks K :=
 RG.step ⟨res,[],views⟩ ⟨f,caps,hx,hxp,.inl ⟨args,res,views,hcon,ht,hv.all,hs.imp (fun h=>h) fun h=>⟨h.1,h.2.all⟩,rfl⟩⟩ h

theorem TrL.get {α β : Type} {T : α→β→Prop} : ∀ {xs : List α} {ys : List β},TrL T xs ys→∀ (k : Nat) (x : α),xs[k]? = some x→∃ y,ys[k]? = some y∧T x y
 | [],[],_,k,x,h=>by simp at h
 | a :: r,b :: s,h,0,x,hx=>by
  simp only [List.getElem?_cons_zero,Option.some.injEq] at hx
  subst hx
  exact ⟨b,rfl,h.1⟩
 | a :: r,b :: s,h,k + 1,x,hx=>by
  simp only [List.getElem?_cons_succ] at hx
  obtain ⟨y,h1,h2⟩:=TrL.get h.2 k x hx
  exact ⟨y,by simpa using h1,h2⟩
 | [],_ :: _,h,_,_,_=>h.elim
 | _ :: _,[],h,_,_,_=>h.elim

structure CallO (es : EL) (fr : Nat) (sargs : List SV) (ids views : List Nat) (args : List SV) (objs : List Ent) (res : SV) (out : List Ent) : Prop where
 ht : TrL (TrSV (lkE es) ids views) sargs args
 hi : TrL (fun id e'=>∃ e,lkE es id = some e∧TrEnt (lkE es) ids views e e') ids objs
 hnd : ids.Nodup
 hdis : ∀ id ∈ views,id ∉ ids
 hv : Views es views
 hf : ∀ j,j < out.length - ids.length→lkE es (fr + j) = none
 hp : ∀ e ∈ out,e.pure
 hr : ∀ b x,res≠.opt b x
 h16 : out.length - ids.length≤16

theorem RG.callo {args : List SV} {objs : List Ent} {res : SV} {out : List Ent} (ids views : List Nat) (hcon : Con P f args objs res out) (hc : CallO es fr (axs.map (ev (lk .dead l))) ids views args objs res out)
  (h : RG P (fr + 16) ops (setD d (renSV ids fr res) l) (setEs (backUps (lkE es) ids views fr out) es) ((ids ++ views ++ (List.range (out.length - ids.length)).map (fr + ·),(backUps (lkE es) ids views fr out).map (·.1)) :: ks) K) : RG P fr (⟨.call f axs,d,none,af⟩ :: ops) l es ks K :=
 RG.step ⟨renSV ids fr res,backUps (lkE es) ids views fr out,ids ++ views ++ (List.range (out.length - ids.length)).map (fr + ·)⟩
  (show CallOk P f _ _ _ _ from .inr ⟨args,objs,res,out,ids,views,_,hcon,hc.ht,fun k id hk=>by
   obtain ⟨e',h1,e,h2,h3⟩:=hc.hi.get k id hk
   exact ⟨e,e',h2,h1,h3⟩,hc.hi.len,hc.hnd,hc.hdis,hc.hv.all,hc.hf,hc.hp,hc.hr,hc.h16,SubU.rfl,rfl⟩) h

end

def frzE (id : Nat) (es : EL) : EL:=match lkE es id with
 | some (.arr E s rows _)=>setE id (.arr E s rows true) es
 | _=>es

def frzEs : List Nat→EL→EL
 | [],es=>es
 | id :: r,es=>frzEs r (frzE id es)

theorem Le.frzE {n : Nat} {l : Nat→SV} (id : Nat) (es : EL) : Le n { sl:=l,σ:=lkE es } { sl:=l,σ:=lkE (frzE id es) }:=by
 unfold Abs.frzE
 split
 ·rename_i h
  rw [lkE_setE]
  exact Le.frz (st:={ sl:=l,σ:=lkE es }) h
 ·exact Le.refl _ _

theorem Le.frzEs {n : Nat} {l : Nat→SV} : ∀ (ids : List Nat) (es : EL),Le n { sl:=l,σ:=lkE es } { sl:=l,σ:=lkE (frzEs ids es) }
 | [],es=>Le.refl _ _
 | id :: r,es=>(Le.frzE id es).trans (Le.frzEs r _)

theorem Le.lit {n : Nat} {l : SL} {es : EL} (fz : List Nat) (ren : List (Nat × Nat)) (l' : SL) (es' : EL)
  (hs : allL (fun p : Nat × SV=>WkSV (lkE (Abs.frzEs fz es)) (rlook ren) (fun k=>lkE es' k≠none) p.2 (lk .dead l p.1)) l')
  (he : allL (fun p : Nat × Ent=>∃ e,lkE (Abs.frzEs fz es) (rlook ren p.1) = some e∧WkEnt (lkE (Abs.frzEs fz es)) (rlook ren) (fun k=>lkE es' k≠none) p.2 e) es')
  (hi : (es'.map fun p=>rlook ren p.1).Nodup) (hn : ∀ k,k < n→rlook ren k = k∧k ∈ es'.map (·.1)) : Le n (mkSt l es) (mkSt l' es') :=
 (Le.frzEs fz es).trans (Le.mk (st:={ sl:=lk .dead l,σ:=lkE (Abs.frzEs fz es) }) ren l' es' hs he hi hn)

theorem Fin.data {rs : List AR} {res sv : SV} {e : Exit} {l : SL} {es : EL} (fz : List Nat) (he : e = .normal∨e = .ret) (h : resV (mkSt l es) rs = some sv) (hp : resPre (mkSt l es) rs)
  (hw : WkSV (lkE (frzEs fz es)) (fun k=>k) (fun _=>False) res sv) : FinQ 0 rs res [] e (mkSt l es):=by
 refine ⟨_,Le.refl _ _,he,sv,h,hp,(Le.frzEs fz es).trans (Le.weaken (st':={ sl:=upd (fun _=>.dead) 0 res,σ:=fun i=>([] : List Ent)[i]? }) (fun k=>k) (fun t=>?_) (fun k e hk=>by simp at hk) (fun k _ _ _ hk=>by simp at hk) fun k hk=>absurd hk (Nat.not_lt_zero k))⟩
 show WkSV _ _ (fun k : Nat=>([] : List Ent)[k]?≠none) (upd (fun _=>.dead) 0 res t) (upd (fun _=>.dead) 0 sv t)
 rw [upd_apply,upd_apply]
 split
 ·have : (fun k : Nat=>([] : List Ent)[k]?≠none) = fun _=>False:=by funext k;simp
  rw [this];exact hw
 ·trivial

theorem Fin.objs {n : Nat} {rs : List AR} {res sv : SV} {out : List Ent} {e : Exit} {l : SL} {es : EL} (fz : List Nat) (ren : List (Nat × Nat)) (he : e = .normal∨e = .ret) (h : resV (mkSt l es) rs = some sv) (hp : resPre (mkSt l es) rs)
  (hw : WkSV (lkE (frzEs fz es)) (rlook ren) (fun k=>lkE (objL 0 out) k≠none) res sv)
  (ho : allL (fun p : Nat × Ent=>∃ e,lkE (frzEs fz es) (rlook ren p.1) = some e∧WkEnt (lkE (frzEs fz es)) (rlook ren) (fun k=>lkE (objL 0 out) k≠none) p.2 e) (objL 0 out))
  (hi : ((objL 0 out).map fun p=>rlook ren p.1).Nodup) (hn : ∀ k,k < n→rlook ren k = k∧k ∈ (objL 0 out).map (·.1)) : FinQ n rs res out e (mkSt l es):=by
 have ho' : (fun i=>out[i]?) = lkE (objL 0 out):=by funext i;rw [lkE_objL];simp
 refine ⟨_,Le.refl _ _,he,sv,h,hp,(Le.frzEs fz es).trans ?_⟩
 have:=Le.mk (n:=n) (st:={ sl:=upd (fun _=>.dead) 0 sv,σ:=lkE (frzEs fz es) }) ren [(0,res)] (objL 0 out) ⟨hw,trivial⟩ ho hi hn
 rw [ho']
 have h2 : lk .dead [(0,res)] = upd (fun _=>SV.dead) 0 res:=by funext t;simp only [lk,upd_apply]
 unfold mkSt at this
 rw [h2] at this
 exact this

theorem Le.own {n : Nat} {l : SL} {es : EL} (t id : Nat) (E : TypeId) (s : Nat) (ht : lk .dead l t = .c (.v (.slice none 0 0))) (hid : lkE es id = none) (hs : 0 < s) : Le n (mkSt l es) (mkSt (setS t (.c (.osl id)) l) (setE id (.arr E s [] false) es)):=by
 intro g m tmps w _ hR
 obtain ⟨hle,hv⟩:=R.virt hR (fr:=id) hid (E:=E) hs
 refine ⟨upd m id none,?_⟩
 have he : mkSt (setS t (.c (.osl id)) l) (setE id (.arr E s [] false) es) = { sl:=upd (lk .dead l) t (.c (.osl id)),σ:=upd (lkE es) id (some (.arr E s [] false)) }:=by
  unfold mkSt;rw [lk_setS,lkE_setE]
 rw [he]
 refine ⟨hv.frame,fun t'=>?_,hv.ent,hv.place,hv.inj,hv.gr,hv.org⟩
 show RSV _ (upd (lk .dead l) t (.c (.osl id)) t') _
 rw [upd_apply]
 split
 ·rename_i h
  subst h
  have h0:=hR.slot t'
  have h1 : RSV (g.env m (mkSt l es) w) (.c (.v (.slice none 0 0))) (tmps.getD t' undef):=by
   have : (mkSt l es).sl t' = .c (.v (.slice none 0 0)):=ht
   rw [this] at h0;exact h0
  have h2:=rc_v (show RC _ (.v _) _ from h1)
  rw [h2]
  refine ⟨.arr E s [] false,?_,?_⟩
  ·show upd _ _ _ _ = _;rw [upd_apply,if_pos rfl]
  ·show (match upd m id none id with | none=>_ | some b=>_)
   rw [upd_apply,if_pos rfl]
 ·exact hv.slot t'

theorem Con.le {P : Program} {f : FuncId} {args : List SV} {objs : List Ent} {res res' : SV} {out out' : List Ent} (h : Con P f args objs res out) (hl : objs.length≤out'.length)
  (hle : Le objs.length { sl:=upd (fun _=>.dead) 0 res,σ:=fun i=>out[i]? } { sl:=upd (fun _=>.dead) 0 res',σ:=fun i=>out'[i]? }) : Con P f args objs res' out':=by
 refine ⟨h.1,hl,fun ok0 m w vs hsz hR=>(h.2.2 ok0 m w vs hsz hR).mono ?_⟩
 rintro e w' ⟨v,m',rfl,hb,hres⟩
 have hg : ∀ k,objs.length≤k→(groundOf ok0 m objs w).σ0 k = none:=fun k hk=>List.getElem?_eq_none hk
 have hR2 : R (groundOf ok0 m objs w) m' { sl:=upd (fun _=>.dead) 0 res,σ:=fun i=>out[i]? } #[v] w':=by
  refine ⟨hb.frame,fun t=>?_,hb.ent,hb.place,hb.inj,hb.gr,hb.org⟩
  show RSV ((groundOf ok0 m objs w).env m' { sl:=fun _=>.dead,σ:=fun i=>out[i]? } w') (upd (fun _=>.dead) 0 res t) _
  rw [upd_apply]
  split
  ·rename_i ht;subst ht;exact hres
  ·trivial
 obtain ⟨m2,hR3⟩:=hle _ m' #[v] w' hg hR2
 exact ⟨v,m2,rfl,⟨hR3.frame,fun _=>trivial,hR3.ent,hR3.place,hR3.inj,hR3.gr,hR3.org⟩,by have:=hR3.slot 0;simp only [upd_apply,if_true] at this;exact this⟩

theorem Con.rows {P : Program} {f : FuncId} {args : List SV} {E : TypeId} {s : Nat} {rows : List (List C)} {fz : Bool} (h : Con P f args [] (.c (.osl 0)) [.arr E s rows fz]) (hd : isDRows rows) : Con P f args [] (.c (.sl rows)) []:=by
 refine h.le (Nat.le_refl _) ?_
 have e1 : (fun i=>([.arr E s rows fz] : List Ent)[i]?) = lkE [(0,.arr E s rows fz)]:=by
  funext i;cases i <;> simp [lkE]
 rw [e1]
 refine (Le.frzEs [0] _).trans (Le.weaken (fun k=>k) (fun t=>?_) (fun k e hk=>by simp at hk) (fun k _ _ _ hk=>by simp at hk) fun k hk=>absurd hk (Nat.not_lt_zero k))
 show WkSV _ _ _ (upd (fun _=>.dead) 0 _ t) (upd (fun _=>.dead) 0 _ t)
 rw [upd_apply,upd_apply]
 split
 ·exact ⟨⟨E,s,rfl⟩,hd⟩
 ·trivial

theorem mkSt_sl (l : SL) (es : EL) (t : Nat) : (mkSt l es).sl t = lk .dead l t:=rfl
theorem mkSt_σ (l : SL) (es : EL) : (mkSt l es).σ = lkE es:=rfl

section
variable {P : Program} {n : Nat} {a b : AC} {Q : Exit→St→Prop} {X : St→Prop} {st : St} {id : Nat} {Y : Type} {S : Y→St} {μ : Y→Nat} {y : Y}
theorem x_seq : awp P n (.seq a b) Q st = awp P n a (thenQ (awp P n b Q) Q) st:=rfl
theorem x_block : awp P n (.block id a) Q st = awp P n a (blockQ id Q) st:=by
 show awp P n a _ st = _
 congr 1
theorem x_skip : awp P n .skip Q st = Q .normal st:=rfl
theorem x_ret : awp P n .ret Q st = Q .ret st:=rfl
theorem x_exit : awp P n (.exit id) Q st = Q (.exit id) st:=rfl
theorem x_tn : thenQ X Q .normal st = X st:=rfl
theorem x_tr : thenQ X Q .ret st = Q .ret st:=rfl
theorem x_tx : thenQ X Q (.exit id) st = Q (.exit id) st:=rfl
theorem x_bn : blockQ id Q .normal st = Q .normal st:=rfl
theorem x_br : blockQ id Q .ret st = Q .ret st:=rfl
theorem x_bx {id' : Nat} : blockQ id Q (.exit id') st = if id' = id then Q .normal st else Q (.exit id') st:=rfl
theorem x_ln : loopQ n S μ y Q .normal st = ∃ x',Le n st (S x')∧μ x' < μ y:=rfl
theorem x_lr : loopQ n S μ y Q .ret st = Q .ret st:=rfl
theorem x_lx : loopQ n S μ y Q (.exit id) st = Q (.exit id) st:=rfl
end

end Go.Abs

namespace Go.Abs
open Go

abbrev I (a : Int) : SV:=.c (.v (.int .i64 a))
abbrev B (b : Bool) : SV:=.c (.v (.bool b))

def num7 (n : Nat) : List Nat:=if n < 128 then [n] else (n % 128 + 128) :: num7 (n / 128)
termination_by n
decreasing_by omega

def putS (l : List Nat) : List Nat:=l.flatMap num7
def brow (n : Nat) : List C:=[.v (.int .u8 n)]
def urow (n : Nat) : List C:=[.v (.int .u64 n)]

theorem or128 (n : Nat) : bitsI .or .u8 (IntKind.u8.wrap n) 128 = ((n % 128 + 128 : Nat) : Int):=by
 have h : ∀ a : BitVec 8,(a ||| 128#8).toNat = a.toNat % 128 + 128:=by decide
 have e : IntKind.u8.wrap n = ((n % 256 : Nat) : Int):=by rw [IntKind.wrap_u8];omega
 have h2:=h (BitVec.ofInt 8 ((n % 256 : Nat) : Int))
 show IntKind.u8.wrap ((BitVec.ofInt 8 (IntKind.u8.wrap n) ||| BitVec.ofInt 8 128).toNat) = _
 rw [e]
 have e2 : BitVec.ofInt 8 128 = 128#8:=by decide
 have e3 : (BitVec.ofInt 8 ((n % 256 : Nat) : Int)).toNat = n % 256:=by simp;omega
 rw [e2,h2,e3,IntKind.wrap_u8]
 omega

theorem w64 (n : Int) (h : -9223372036854775808≤n) (h' : n≤9223372036854775807) : IntKind.i64.wrap n = n:=by rw [IntKind.wrap_i64];omega

theorem u8wrap (n : Nat) (h : n < 128) : IntKind.u8.wrap n = (n : Int):=by rw [IntKind.wrap_u8];omega

theorem num7_len (n : Nat) (h : n < 18446744073709551616) : (num7 n).length≤10:=by
 have key : ∀ (k n : Nat),n < 128 ^ k→0 < k→(num7 n).length≤k:=by
  intro k
  induction k with
  | zero=>intro n _ h;omega
  | succ k ih =>
   intro n hn _
   unfold num7
   split
   ·simp
   ·simp only [List.length_cons]
    have : n / 128 < 128 ^ k:=by rw [Nat.div_lt_iff_lt_mul (by omega)];rw [Nat.pow_succ] at hn;exact hn
    have hk : 0 < k:=by
     rcases Nat.eq_zero_or_pos k with h0 | h0
     ·subst h0;simp at hn;omega
     ·exact h0
    have:=ih _ this hk
    omega
 exact key 10 n (Nat.lt_of_lt_of_le h (by decide)) (by omega)

theorem putS_len (l : List Nat) (hl : ∀ n ∈ l,n < 18446744073709551616) : (putS l).length≤l.length * 10:=by
 induction l with
 | nil=>simp [putS]
 | cons n l ih =>
  have h1:=num7_len n (hl n (by simp))
  have h2:=ih fun m hm=>hl m (by simp [hm])
  have : putS (n :: l) = num7 n ++ putS l:=rfl
  rw [this,List.length_append,List.length_cons];omega

theorem take_one {α : Type} (l : List α) (i : Nat) (hi : i < l.length) : l.take (i + 1) = l.take i ++ [l[i]]:=by
 rw [List.take_add_one,List.getElem?_eq_getElem hi];rfl

theorem putS_take (l : List Nat) (i : Nat) (hi : i < l.length) : putS (l.take (i + 1)) = putS (l.take i) ++ num7 l[i]:=by
 unfold putS
 rw [take_one l i hi,List.flatMap_append]
 simp

theorem drows_brow (l : List Nat) : isDRows (l.map brow):=by
 intro r hr c hc
 obtain ⟨n,_,rfl⟩:=List.mem_map.1 hr
 simp only [brow,List.mem_singleton] at hc
 subst hc;rfl

theorem brow_len (l : List Nat) : ∀ r ∈ l.map brow,r.length = 1:=by
 intro r hr
 obtain ⟨n,_,rfl⟩:=List.mem_map.1 hr
 rfl

theorem shr7 (n : Nat) : (n : Int).fdiv (2 ^ min 7 IntKind.u64.bits) = ((n / 128 : Nat) : Int):=by
 have : (2 : Int) ^ min 7 IntKind.u64.bits = 128:=by decide
 rw [this,Int.fdiv_eq_ediv_of_nonneg _ (by omega)]
 omega

theorem num7_pos (n : Nat) : 0 < (num7 n).length:=by unfold num7;split <;> simp


theorem Con.split1 {P : Program} {f : FuncId} {objs : List Ent} {res : SV} {out : List Ent} {rest : List SV} (h1 : Con P f (.c (.v (.slice none 0 0)) :: rest) objs res out)
  (h2 : ∀ (ad : Addr) (cap : Nat),Con P f (.c (.v (.slice (some ad) 0 cap)) :: rest) objs res out) : Con P f (.c (.sl []) :: rest) objs res out:=by
 refine ⟨h1.1,h1.2.1,fun ok0 m w vs hsz hR=>?_⟩
 have h0:=hR.slot 0
 have h0' : RD ((groundOf ok0 m objs w).env m (stOf (.c (.sl []) :: rest) objs) w).h ((groundOf ok0 m objs w).env m (stOf (.c (.sl []) :: rest) objs) w).ok (.sl []) (vs.getD 0 undef):=h0
 have key : ∀ x,one x = true→vs.getD 0 undef = x→R (groundOf ok0 m objs w) m (stOf (.c (.v x) :: rest) objs) vs w:=by
  intro x hx he
  refine ⟨hR.frame,fun t=>?_,hR.ent,hR.place,hR.inj,hR.gr,hR.org⟩
  cases t with
  | zero=>show RD _ _ (.v x) (vs.getD 0 undef);rw [he];exact .v _ hx
  | succ t=>exact hR.slot (t + 1)
 generalize hv : vs.getD 0 undef = v at h0'
 cases h0' with
 | nil=>exact h1.2.2 ok0 m w vs hsz (key _ rfl hv)
 | emp ad cap=>exact (h2 ad cap).2.2 ok0 m w vs hsz (key _ rfl hv)
 | sl _ s b off cap f hok hs hc hr hcap=>exact (h2 ⟨b,off,none⟩ cap).2.2 ok0 m w vs hsz (key _ rfl hv)

theorem Fin.ownNil {rs : List AR} {E : TypeId} {s : Nat} {e : Exit} {l : SL} {es : EL} (he : e = .normal∨e = .ret) (h : resV (mkSt l es) rs = some (.c (.v (.slice none 0 0)))) (hp : resPre (mkSt l es) rs) (hs : 0 < s) : FinQ 0 rs (.c (.osl 0)) [.arr E s [] false] e (mkSt l es):=by
 refine ⟨_,Le.refl _ _,he,_,h,hp,?_⟩
 have h1 : Le 0 { sl:=upd (fun _=>.dead) 0 (.c (.v (.slice none 0 0))),σ:=lkE es } (mkSt [(0,.c (.v (.slice none 0 0)))] []):=by
  refine Le.weaken (st':=mkSt [(0,.c (.v (.slice none 0 0)))] []) (fun k=>k) (fun t=>?_) (fun k e hk=>by cases hk) (fun k _ _ _ hk=>by cases hk) fun k hk=>absurd hk (Nat.not_lt_zero k)
  cases t with
  | zero=>exact (rfl : Value.slice none 0 0 = Value.slice none 0 0)
  | succ t=>trivial
 have h2:=h1.trans (Le.own 0 0 E s rfl rfl hs)
 have e1 : mkSt (setS 0 (.c (.osl 0)) [(0,.c (.v (.slice none 0 0)))]) (setE 0 (.arr E s [] false) []) = { sl:=upd (fun _=>.dead) 0 (.c (.osl 0)),σ:=fun i=>([.arr E s [] false] : List Ent)[i]? }:=by
  unfold mkSt
  congr 1
  funext t;cases t <;> simp [setE,lkE]
 rw [e1] at h2
 exact h2

theorem w_u64 (n : Int) : IntKind.u64.wrap n = n % 18446744073709551616:=by simp [IntKind.wrap,IntKind.bits,IntKind.signed]
theorem w_u8 (n : Int) : IntKind.u8.wrap n = n % 256:=by simp [IntKind.wrap,IntKind.bits,IntKind.signed]

section
variable {σ : Nat→Option Ent} {ids views : List Nat}
theorem tr_cons {T : SV→SV→Prop} {x y : SV} {xs ys : List SV} (h : T x y) (hs : TrL T xs ys) : TrL T (x :: xs) (y :: ys):=⟨h,hs⟩
theorem tr_nil {T : SV→SV→Prop} : TrL T [] []:=trivial
theorem tr_v {x : Value} : TrSV σ ids views (.c (.v x)) (.c (.v x)):=rfl
theorem tr_sl {rows : List (List C)} : TrSV σ ids views (.c (.sl rows)) (.c (.sl rows)):=rfl
theorem tr_nils : TrSV σ ids views (.c (.v (.slice none 0 0))) (.c (.sl [])):=⟨rfl,rfl⟩
theorem tr_view {id : Nat} {E : TypeId} {s : Nat} {rows : List (List C)} {fz : Bool} (hv : id ∈ views) (he : σ id = some (.arr E s rows fz)) (hd : isDRows rows) : TrSV σ ids views (.c (.osl id)) (.c (.sl rows)):=⟨hv,E,s,fz,he,hd⟩
theorem tr_agg {cs cs' : List C} (h : TrL (TrC σ ids views) cs cs') : TrSV σ ids views (.agg cs) (.agg cs'):=h
theorem tr_osl {id k : Nat} (h : ids[k]? = some id) : TrSV σ ids views (.c (.osl id)) (.c (.osl k)):=h
theorem tr_bp {id k o : Nat} (h : ids[k]? = some id) : TrSV σ ids views (.c (.bp id o)) (.c (.bp k o)):=⟨h,rfl⟩
theorem tr_opt {g : Bool} {x y : SV} (hg : g = true) (h : TrSV σ ids views x y) : TrSV σ ids views (.opt g x) y:=⟨hg,h⟩
end

theorem views1 {es : EL} {id : Nat} {E : TypeId} {s : Nat} {rows : List (List C)} {fz : Bool} {r : List Nat} (h : lkE es id = some (.arr E s rows fz)) (hr : Views es r) : Views es (id :: r):=⟨⟨E,s,rows,fz,h⟩,hr⟩

theorem Fin.b {rs : List AR} {b b' : Bool} {e : Exit} {st : St} (he : e = .normal∨e = .ret) (h : resV st rs = some (B b)) (hp : resPre st rs) (hb : b = b') : FinQ 0 rs (B b') [] e st :=
 Fin.scalar he h hp (by rw [hb]) trivial

theorem Le.move {n : Nat} {l : SL} {es : EL} (t id fr : Nat) (E : TypeId) (s : Nat) (rows : List (List C)) (ht : lk .dead l t = .c (.osl id)) (hid : lkE es id = some (.arr E s rows false)) (hfr : lkE es fr = none) :
  Le n (mkSt l es) (mkSt (setS t (.c (.osl fr)) l) (setE fr (.arr E s rows false) (setE id .gone es))):=by
 intro g m tmps w _ hR
 have hne : fr≠id:=by rintro rfl;rw [hfr] at hid;cases hid
 have hs:=(hR.ent id _ hid).1
 have he : mkSt (setS t (.c (.osl fr)) l) (setE fr (.arr E s rows false) (setE id .gone es)) = { sl:=upd (lk .dead l) t (.c (.osl fr)),σ:=upd (upd (lkE es) id (some .gone)) fr (some (.arr E s rows false)) }:=by
  unfold mkSt;rw [lk_setS,lkE_setE,lkE_setE]
 have h0 : RSV (g.env m (mkSt l es) w) (.c (.osl id)) (tmps.getD t undef):=by
  have h0:=hR.slot t
  have : (mkSt l es).sl t = .c (.osl id):=ht
  rw [this] at h0;exact h0
 have fin : ∀ m',R g m' { (mkSt l es) with σ:=upd (upd (lkE es) id (some .gone)) fr (some (.arr E s rows false)) } tmps w →
   RSV (g.env m' { (mkSt l es) with σ:=upd (upd (lkE es) id (some .gone)) fr (some (.arr E s rows false)) } w) (.c (.osl fr)) (tmps.getD t undef) →
   ∃ m',R g m' (mkSt (setS t (.c (.osl fr)) l) (setE fr (.arr E s rows false) (setE id .gone es))) tmps w:=by
  intro m' h1 h2
  refine ⟨m',?_⟩
  rw [he]
  refine ⟨h1.frame,fun t'=>?_,h1.ent,h1.place,h1.inj,h1.gr,h1.org⟩
  show RSV _ (upd (lk .dead l) t (.c (.osl fr)) t') _
  rw [upd_apply]
  split
  ·rename_i h;subst h;exact h2
  ·exact h1.slot t'
 rcases osl_shape hR hid h0 with ⟨hm,rfl,hv⟩ | ⟨b,cur,cap,hm,g1,g2,g3,g4,hv,g5⟩
 ·obtain ⟨_,hRg⟩:=hR.gone hid
  have hfrg : upd (lkE es) id (some .gone) fr = none:=by rw [upd_apply,if_neg hne];exact hfr
  obtain ⟨_,hRv⟩:=hRg.virt hfrg (E:=E) hs
  refine fin _ hRv ?_
  rw [hv]
  refine ⟨.arr E s [] false,?_,?_⟩
  ·show upd _ _ _ _ = _;rw [upd_apply,if_pos rfl]
  ·show (match upd m fr none fr with | none=>_ | some b=>_)
   rw [upd_apply,if_pos rfl]
 ·have hR':=hR.moved (rows':=rows) hfr hid hm (w':=w) rfl (fun _ _=>rfl) rfl rfl rfl (fun hle=>⟨hs,(hR.ent id _ hid).2.1,.inr ⟨b,cur,cap,rfl,g1,g2,g3,g4,fun i r j c k1 k2=>by
   obtain ⟨x,hx,hxr⟩:=g5 i r j c k1 k2
   exact ⟨x,hx,RC.le hle hxr⟩⟩⟩)
  refine fin _ hR' ?_
  rw [hv]
  refine ⟨.arr E s rows false,?_,?_⟩
  ·show upd _ _ _ _ = _;rw [upd_apply,if_pos rfl]
  ·show (match upd m fr (some b) fr with | none=>_ | some b=>_)
   rw [upd_apply,if_pos rfl]
   exact ⟨cur,cap,g1,g2,rfl⟩

theorem Fin.moved {rs : List AR} {E : TypeId} {s : Nat} {rows : List (List C)} {e : Exit} {l : SL} {es : EL} (he : e = .normal∨e = .ret) (h : resV (mkSt l es) rs = some (.c (.osl 0))) (hp : resPre (mkSt l es) rs)
  (h0 : lkE es 0 = some (.arr E s rows false)) (hd : isDRows rows) : FinQ 1 rs (.c (.osl 1)) [.gone,.arr E s rows false] e (mkSt l es):=by
 refine ⟨_,Le.refl _ _,he,_,h,hp,?_⟩
 have h1 : Le 1 { sl:=upd (fun _=>.dead) 0 (.c (.osl 0)),σ:=lkE es } (mkSt [(0,.c (.osl 0))] [(0,.arr E s rows false)]) :=
  Le.mk (n:=1) (st:={ sl:=upd (fun _=>.dead) 0 (.c (.osl 0)),σ:=lkE es }) [] [(0,.c (.osl 0))] [(0,.arr E s rows false)] ⟨⟨rfl,by simp [lkE]⟩,trivial⟩ ⟨⟨_,h0,rfl,rfl,rfl,.inl rfl,hd⟩,trivial⟩ (by simp) (by intro k hk;obtain rfl : k = 0:=(by omega);simp [rlook])
 have h2:=h1.trans (Le.move 0 0 1 E s rows rfl rfl rfl)
 have e1 : mkSt (setS 0 (.c (.osl 1)) [(0,.c (.osl 0))]) (setE 1 (.arr E s rows false) (setE 0 .gone [(0,.arr E s rows false)])) = { sl:=upd (fun _=>.dead) 0 (.c (.osl 1)),σ:=fun i=>([.gone,.arr E s rows false] : List Ent)[i]? }:=by
  unfold mkSt
  congr 1
  funext t
  rcases t with _ | _ | t <;> simp [setE,lkE]
 rw [e1] at h2
 exact h2

theorem Le.ownB {n : Nat} {l : SL} {es : EL} (b off id : Nat) (cs : List C) (E : TypeId) (s : Nat) (hb : lkE es b = some (.box cs)) (hc : cs[off]? = some (.v (.slice none 0 0))) (hid : lkE es id = none) (hs : 0 < s) :
  Le n (mkSt l es) (mkSt l (setE b (.box (cs.set off (.osl id))) (setE id (.arr E s [] false) es))):=by
 intro g m tmps w _ hR
 have hne : b≠id:=by rintro rfl;rw [hid] at hb;cases hb
 obtain ⟨_,hv⟩:=R.virt hR (fr:=id) hid (E:=E) hs
 have hb1 : upd (lkE es) id (some (.arr E s [] false)) b = some (.box cs):=by rw [upd_apply,if_neg hne];exact hb
 refine ⟨upd m id none,?_⟩
 have hmk : mkSt l (setE b (.box (cs.set off (.osl id))) (setE id (.arr E s [] false) es)) = { ({ (mkSt l es) with σ:=upd (lkE es) id (some (.arr E s [] false)) } : St) with σ:=upd (upd (lkE es) id (some (.arr E s [] false))) b (some (.box (cs.set off (.osl id)))) }:=by
  unfold mkSt;rw [lkE_setE,lkE_setE]
 rw [hmk]
 have hle : Env.Le (g.env (upd m id none) { (mkSt l es) with σ:=upd (lkE es) id (some (.arr E s [] false)) } w)
   (g.env (upd m id none) { (mkSt l es) with σ:=upd (upd (lkE es) id (some (.arr E s [] false))) b (some (.box (cs.set off (.osl id)))) } w):=by
  refine ⟨fun k hk=>⟨?_,rfl⟩,fun i x hx=>?_,fun i E s rows fz k cur hi hk hcur=>.inr ⟨cur,hcur,rfl⟩⟩
  ·refine okOf_mono hk (Nat.le_refl _) fun i e he hmut hmi=>?_
   simp only [upd_apply] at he
   split at he
   ·rename_i h;subst h;exact ⟨_,hb1,rfl,hmi⟩
   ·exact ⟨e,he,hmut,hmi⟩
  ·by_cases h : i = b
   ·subst h
    have : upd (lkE es) id (some (.arr E s [] false)) i = some x:=hx
    rw [hb1] at this;cases this
    exact ⟨.box (cs.set off (.osl id)),by show upd _ _ _ _ = _;rw [upd_apply,if_pos rfl],trivial,fun _=>rfl⟩
   ·exact ⟨x,by show upd _ _ _ _ = _;rw [upd_apply,if_neg h];exact hx,EntLe.refl _,fun _=>rfl⟩
 refine R.next hv hv.frame hle ?_ ?_ ?_
 ·intro i e he
  simp only [upd_apply] at he
  split at he
  ·rename_i h
   subst h
   cases he
   obtain ⟨k,cur,T,h1,h2,h3⟩:=hv.ent i _ hb1
   refine ⟨k,cur,T,h1,h2,by simpa using h3.1,fun j x y hx hy=>?_⟩
   rw [List.getElem?_set] at hx
   split at hx
   ·rename_i hj
    subst hj
    split at hx
    ·cases hx
     have h4:=rc_v (h3.2 off _ y hc hy)
     rw [h4]
     refine ⟨.arr E s [] false,?_,?_⟩
     ·show upd _ _ _ _ = _;rw [upd_apply,if_neg (Ne.symm hne),upd_apply,if_pos rfl]
     ·show (match upd m id none id with | none=>_ | some b=>_)
      rw [upd_apply,if_pos rfl]
    ·cases hx
   ·exact RC.le hle (h3.2 j x y hx hy)
  ·have he' : upd (lkE es) id (some (.arr E s [] false)) i = some e:=he
   exact REnt.le hle (hv.ent i e he') fun _ _ _=>rfl
 ·intro i e k he hg hk
  simp only [upd_apply] at he
  split at he
  ·rename_i h;subst h;exact hv.place i _ k hb1 (by simp) hk
  ·exact hv.place i e k he hg hk
 ·intro i i' e e' k he he' hme hg hk hk'
  simp only [upd_apply] at he he'
  have h1 : ∃ e0,upd (lkE es) id (some (.arr E s [] false)) i = some e0∧e0.mut = true:=by
   split at he
   ·rename_i h;subst h;exact ⟨_,hb1,rfl⟩
   ·exact ⟨e,he,hme⟩
  have h2 : ∃ e0,upd (lkE es) id (some (.arr E s [] false)) i' = some e0∧e0≠.gone:=by
   split at he'
   ·rename_i h;subst h;exact ⟨_,hb1,by simp⟩
   ·exact ⟨e',he',hg⟩
  obtain ⟨x,hx,hxm⟩:=h1
  obtain ⟨y,hy,hyg⟩:=h2
  exact hv.inj i i' x y k hx hy hxm hyg hk hk'

def TellC (σ : Nat→Option Ent) (c' c : C) : Prop:=c' = c∨(c = .v (.slice none 0 0)∧c' = .sl [])∨∃ k r E s,c = .osl k∧c' = .sl r∧σ k = some (.arr E s r true)∧isDRows r

theorem Le.rows {n : Nat} {l : SL} {es : EL} (id : Nat) (E : TypeId) (s : Nat) (rows rows' : List (List C)) (fz : Bool) (hid : lkE es id = some (.arr E s rows fz)) (h : TrL (TrL (TellC (lkE es))) rows' rows) :
  Le n (mkSt l es) (mkSt l (setE id (.arr E s rows' fz) es)):=by
 intro g m tmps w _ hR
 refine ⟨m,?_⟩
 have hmk : mkSt l (setE id (.arr E s rows' fz) es) = { (mkSt l es) with σ:=upd (lkE es) id (some (.arr E s rows' fz)) }:=by
  unfold mkSt;rw [lkE_setE]
 rw [hmk]
 have hrl:=TrL.rl h
 have hle : Env.Le (g.env m (mkSt l es) w) (g.env m { (mkSt l es) with σ:=upd (lkE es) id (some (.arr E s rows' fz)) } w):=by
  refine ⟨fun k hk=>⟨?_,rfl⟩,fun i x hx=>?_,fun i E s rows fz k cur hi hk hcur=>.inr ⟨cur,hcur,rfl⟩⟩
  ·refine okOf_mono hk (Nat.le_refl _) fun i e he hmut hmi=>?_
   simp only [upd_apply] at he
   split at he
   ·rename_i h0;subst h0;cases he;exact ⟨_,hid,hmut,hmi⟩
   ·exact ⟨e,he,hmut,hmi⟩
  ·by_cases h0 : i = id
   ·subst h0
    have : lkE es i = some x:=hx
    rw [hid] at this;cases this
    exact ⟨.arr E s rows' fz,by show upd _ _ _ _ = _;rw [upd_apply,if_pos rfl],⟨rfl,rfl,hrl.1⟩,fun _=>rfl⟩
   ·exact ⟨x,by show upd _ _ _ _ = _;rw [upd_apply,if_neg h0];exact hx,EntLe.refl _,fun _=>rfl⟩
 refine hR.next hR.frame hle ?_ ?_ ?_
 ·intro i e he
  simp only [upd_apply] at he
  split at he
  ·rename_i h0
   subst h0
   cases he
   obtain ⟨h1,h2,h3⟩:=hR.ent i _ hid
   refine ⟨h1,fun r hr=>?_,?_⟩
   ·obtain ⟨j,hj,rfl⟩:=List.mem_iff_getElem.1 hr
    have hj' : j < rows.length:=by rw [← hrl.1];exact hj
    have:=hrl.2 j _ _ (List.getElem?_eq_getElem hj) (List.getElem?_eq_getElem hj')
    rw [(TrL.rl this).1]
    exact h2 _ (List.getElem_mem hj')
   ·rcases h3 with ⟨h3,h4⟩ | ⟨b,cur,cap,g1,g2,g3,g4,g5,g6⟩
    ·refine .inl ⟨h3,?_⟩
     have:=hrl.1
     rw [h4] at this
     exact List.eq_nil_of_length_eq_zero this
    ·refine .inr ⟨b,cur,cap,g1,g2,g3,by rw [hrl.1];exact g4,g5,fun p r j c k1 k2=>?_⟩
     have hp : p < rows.length:=by
      rcases Nat.lt_or_ge p rows.length with h | h
      ·exact h
      ·rw [List.getElem?_eq_none (by rw [hrl.1];exact h)] at k1;cases k1
     have hrow:=TrL.rl (hrl.2 p r rows[p] k1 (List.getElem?_eq_getElem hp))
     obtain ⟨c0,k3,htell⟩:=hrow.get k2
     obtain ⟨x,hx,hxr⟩:=g6 p rows[p] j c0 (List.getElem?_eq_getElem hp) k3
     refine ⟨x,hx,?_⟩
     rcases htell with rfl | ⟨rfl,rfl⟩ | ⟨k,r',E',s',rfl,rfl,hk,hd⟩
     ·exact RC.le hle hxr
     ·rw [rc_v hxr];exact RD.nil
     ·refine RC.le hle (osl_rd hR hk hd hxr fun b hb=>?_).rc
      have hpl:=hR.place k _ b hk (by simp) hb
      refine ⟨?_,hpl.1,fun id' e he hmu hmb=>?_⟩
      ·rcases hpl.2 with h | h
       ·exact .inr h
       ·exact .inl (.inr h)
      ·have:=hR.inj id' k e _ b he hk hmu (by simp) hmb hb
       subst this
       have he2 : lkE es id' = some e:=he
       rw [hk] at he2;cases he2;cases hmu
  ·have he' : lkE es i = some e:=he
   exact REnt.le hle (hR.ent i e he') fun _ _ _=>rfl
 ·intro i e k he hg hk
  simp only [upd_apply] at he
  split at he
  ·rename_i h0;subst h0;exact hR.place i _ k hid (by simp) hk
  ·exact hR.place i e k he hg hk
 ·intro i i' e e' k he he' hme hg hk hk'
  simp only [upd_apply] at he he'
  have h1 : ∃ e0,lkE es i = some e0∧e0.mut = true:=by
   split at he
   ·rename_i h;subst h;cases he;exact ⟨_,hid,hme⟩
   ·exact ⟨e,he,hme⟩
  have h2 : ∃ e0,lkE es i' = some e0∧e0≠.gone:=by
   split at he'
   ·rename_i h;subst h;exact ⟨_,hid,by simp⟩
   ·exact ⟨e',he',hg⟩
  obtain ⟨x,hx,hxm⟩:=h1
  obtain ⟨y,hy,hyg⟩:=h2
  exact hR.inj i i' x y k hx hy hxm hyg hk hk'

theorem Le.tell {n : Nat} {l : SL} {es : EL} (fz : List Nat) (id : Nat) (E : TypeId) (s : Nat) (rows rows' : List (List C)) (f : Bool) (hid : lkE (Abs.frzEs fz es) id = some (.arr E s rows f)) (h : TrL (TrL (TellC (lkE (Abs.frzEs fz es)))) rows' rows) :
  Le n (mkSt l es) (mkSt l (setE id (.arr E s rows' f) (Abs.frzEs fz es))):=(Le.frzEs fz es).trans (Le.rows id E s rows rows' f hid h)

theorem tell_refl {σ : Nat→Option Ent} : ∀ r : List C,TrL (TellC σ) r r
 | []=>trivial
 | _ :: r=>⟨.inl rfl,tell_refl r⟩

theorem tell_app {σ : Nat→Option Ent} {r' r : List (List C)} (h : TrL (TrL (TellC σ)) r' r) : ∀ rows : List (List C),TrL (TrL (TellC σ)) (rows ++ r') (rows ++ r)
 | []=>h
 | x :: rows=>⟨tell_refl x,tell_app h rows⟩

def keepS : List Nat→SL→SL
 | [],_=>[]
 | k :: ks,l=>(k,lk .dead l k) :: keepS ks l
def keepE : List Nat→EL→EL
 | [],_=>[]
 | k :: ks,es=>(k,(lkE es k).getD .gone) :: keepE ks es

theorem aw_loopK {P : Program} {n : Nat} {Q : Exit→St→Prop} {a : AC} {l : SL} {es : EL} {X : Type} (keep : List Nat) (S : X→SL) (ko : List Nat) (O : X→EL) (μ : X→Nat) (x0 : X)
  (h0 : Le n (mkSt l es) (mkSt (S x0 ++ keepS keep l) (O x0 ++ keepE ko es)))
  (h : ∀ x,awp P n a (loopQ n (fun x=>mkSt (S x ++ keepS keep l) (O x ++ keepE ko es)) μ x Q) (mkSt (S x ++ keepS keep l) (O x ++ keepE ko es))) : awp P n (.loop a) Q (mkSt l es) :=
 aw_loop (fun x=>mkSt (S x ++ keepS keep l) (O x ++ keepE ko es)) μ x0 h0 h

theorem aw_joinK {P : Program} {n : Nat} {a b : AC} {Q : Exit→St→Prop} {l : SL} {es : EL} {Y : Type} (keep : List Nat) (S : Y→SL) (ko : List Nat) (O : Y→EL) (hQ : Cl n Q)
  (h : awp P n a (thenQ (fun s=>∃ y,Le n s (mkSt (S y ++ keepS keep l) (O y ++ keepE ko es))) Q) (mkSt l es))
  (hp : ∀ y,awp P n b Q (mkSt (S y ++ keepS keep l) (O y ++ keepE ko es))) : awp P n a (thenQ (awp P n b Q) Q) (mkSt l es) :=
 aw_join (fun y=>mkSt (S y ++ keepS keep l) (O y ++ keepE ko es)) hQ h hp

theorem aw_joinS {P : Program} {n : Nat} {a b : AC} {Q : Exit→St→Prop} {l : SL} {es : EL} {Y : Type} (keep : List Nat) (S : Y→SL) (ko : List Nat) (O : Y→EL) (hQ : Cl n Q)
  (h : awp P n a (thenQ (fun s=>∃ y,Le n s (mkSt (S y ++ keepS keep l) (O y ++ keepE ko es))) Q) (mkSt l es))
  (hp : ∀ y,awp P n b Q (mkSt (S y ++ keepS keep l) (O y ++ keepE ko es))) : awp P n (.seq a b) Q (mkSt l es) :=
 aw_seq (aw_joinK keep S ko O hQ h hp)

theorem Fin.i {rs : List AR} {k : IntKind} {n n' : Int} {e : Exit} {st : St} (he : e = .normal∨e = .ret) (h : resV st rs = some (.c (.v (.int k n)))) (hp : resPre st rs) (hb : n = n') : FinQ 0 rs (.c (.v (.int k n'))) [] e st :=
 Fin.scalar he h hp (by rw [hb]) trivial

theorem RG.callvo {P : Program} {fr : Nat} {f : FuncId} {x : AX} {axs : List AX} {d : Option Nat} {af : List Nat} {ops : List AO} {l : SL} {es : EL} {ks : KL} {K : SL→EL→KL→Prop} {args : List SV} {objs : List Ent} {res : SV} {out : List Ent} {caps : List C} (ids views : List Nat) (hx : (ev (lk .dead l) x).one? = some (.fn f caps)) (hxp : (ev (lk .dead l) x).pre) (hcon : Con P f args objs res out) (hc : CallO es fr (axs.map (ev (lk .dead l)) ++ caps.map .c) ids views args objs res out)
  (h : RG P (fr + 16) ops (setD d (renSV ids fr res) l) (setEs (backUps (lkE es) ids views fr out) es) ((ids ++ views ++ (List.range (out.length - ids.length)).map (fr + ·),(backUps (lkE es) ids views fr out).map (·.1)) :: ks) K) : RG P fr (⟨.callv x axs,d,none,af⟩ :: ops) l es ks K :=
 RG.step ⟨renSV ids fr res,backUps (lkE es) ids views fr out,ids ++ views ++ (List.range (out.length - ids.length)).map (fr + ·)⟩
  ⟨f,caps,hx,hxp,.inr ⟨args,objs,res,out,ids,views,_,hcon,hc.ht,fun k id hk=>by
   obtain ⟨e',h1,e,h2,h3⟩:=hc.hi.get k id hk
   exact ⟨e,e',h2,h1,h3⟩,hc.hi.len,hc.hnd,hc.hdis,hc.hv.all,hc.hf,hc.hp,hc.hr,hc.h16,SubU.rfl,rfl⟩⟩ h

end Go.Abs

namespace Go.Abs
open Go

theorem rowAt {α : Type} {f : α→List C} {l : List α} {k : Nat} (h : k < l.length) (d : List C) : ((l.map f)[k]?).getD d = f l[k]:=by simp [h]
theorem wc_i64 {n : Int} (h : -9223372036854775808≤n) (h' : n≤9223372036854775807) : IntKind.i64.wrap n = n:=w64 n h h'
theorem wc_u64 {n : Int} (h : 0≤n) (h' : n < 18446744073709551616) : IntKind.u64.wrap n = n:=by rw [w_u64];omega
theorem wc_u8 {n : Int} (h : 0≤n) (h' : n < 256) : IntKind.u8.wrap n = n:=by rw [w_u8];omega
theorem wc_u32 {n : Int} (h : 0≤n) (h' : n < 4294967296) : IntKind.u32.wrap n = n:=by
 rw [show IntKind.u32.wrap n = n % 4294967296 from by simp [IntKind.wrap,IntKind.bits,IntKind.signed]];omega
theorem wc_u16 {n : Int} (h : 0≤n) (h' : n < 65536) : IntKind.u16.wrap n = n:=by
 rw [show IntKind.u16.wrap n = n % 65536 from by simp [IntKind.wrap,IntKind.bits,IntKind.signed]];omega
theorem wc_i8 {n : Int} (h : -128≤n) (h' : n≤127) : IntKind.i8.wrap n = n:=by
 rw [show IntKind.i8.wrap n = (n + 128) % 256 - 128 from by simp [IntKind.wrap,IntKind.bits,IntKind.signed];omega];omega
theorem len_map {α β : Type} {f : α→β} {l : List α} : (l.map f).length = l.length:=List.length_map f
theorem mod_nn {a b : Int} (h : 0≤a) : a.tmod b = a % b:=Int.tmod_eq_emod_of_nonneg h
theorem div_nn {a b : Int} (h : 0≤a) : a.tdiv b = a / b:=Int.tdiv_eq_ediv_of_nonneg h
theorem toNat_cast {n : Nat} : ((n : Int)).toNat = n:=Int.toNat_natCast n
theorem take_map {α : Type} {f : α→List C} {l : List α} {i : Nat} : (l.map f).take i = (l.take i).map f:=by simp
theorem drop_map {α : Type} {f : α→List C} {l : List α} {i : Nat} : (l.map f).drop i = (l.drop i).map f:=by simp
theorem rowNo {α : Type} {f : α→List C} {l : List α} {k : Nat} (h : l.length≤k) : ((l.map f)[k]?).getD [] = []:=by simp [h]
theorem toNat_add1 {n : Nat} : ((n : Int) + 1).toNat = n + 1:=by omega
theorem toNat_sub1 {n : Nat} (h : 0 < n) : ((n : Int) - 1).toNat = n - 1:=by omega
theorem len_take {α : Type} {l : List α} {i : Nat} : (l.take i).length = min i l.length:=List.length_take
theorem len_drop {α : Type} {l : List α} {i : Nat} : (l.drop i).length = l.length - i:=List.length_drop
theorem len_app {α : Type} {l m : List α} : (l ++ m).length = l.length + m.length:=List.length_append
theorem len_set {α : Type} {l : List α} {i : Nat} {x : α} : (l.set i x).length = l.length:=List.length_set
theorem take_all {α : Type} {l : List α} : l.take l.length = l:=List.take_length
theorem len_rep {α : Type} {n : Nat} {x : α} : (List.replicate n x).length = n:=List.length_replicate

end Go.Abs

namespace Go.Abs
open Go
set_option linter.defProp false
def zS:=And.intro (And.intro (And.intro (And.intro (And.intro (And.intro (And.intro (And.intro @RX.eq_1 @RX.eq_2) (And.intro @eff.eq_1 @eff.eq_2)) (And.intro (And.intro @eff.eq_3 @eff.eq_4) (And.intro @eff.eq_5 @eff.eq_6))) (And.intro (And.intro (And.intro @eff.eq_7 @eff.eq_8) (And.intro @eff.eq_9 @eff.eq_10)) (And.intro (And.intro @eff.eq_11 @eff.eq_12) (And.intro @eff.eq_13 (And.intro @eff.eq_14 @eff.eq_15))))) (And.intro (And.intro (And.intro (And.intro @eff.eq_16 @eff.eq_17) (And.intro @eff.eq_18 @eff.eq_19)) (And.intro (And.intro @eff.eq_20 @eff.eq_21) (And.intro @eff.eq_22 (And.intro @eff.eq_23 @eff.eq_24)))) (And.intro (And.intro (And.intro @eff.eq_25 @eff.eq_26) (And.intro @eff.eq_27 @eff.eq_28)) (And.intro (And.intro @eff.eq_29 @eff.eq_30) (And.intro @eff.eq_31 (And.intro @eff.eq_32 @eff.eq_33)))))) (And.intro (And.intro (And.intro (And.intro (And.intro @eff.eq_34 @eff.eq_35) (And.intro @eff.eq_36 @eff.eq_37)) (And.intro (And.intro @eff.eq_38 @eff.eq_39) (And.intro @eff.eq_40 (And.intro @eff.eq_41 @eff.eq_42)))) (And.intro (And.intro (And.intro @eff.eq_43 @eff.eq_44) (And.intro @eff.eq_45 @foldMx.eq_1)) (And.intro (And.intro @foldMx.eq_2 @keepTo.eq_1) (And.intro @keepTo.eq_2 (And.intro @keepTo.eq_3 @keepTo.eq_4))))) (And.intro (And.intro (And.intro (And.intro @winTo.eq_1 @winTo.eq_2) (And.intro @winTo.eq_3 @Nat.zero_ne_one)) (And.intro (And.intro @ev_t @ev_k) (And.intro @lk_cons (And.intro @lk_nil @lkE_cons)))) (And.intro (And.intro (And.intro @lkE_nil @setS_cons) (And.intro @setS_nil @setE_cons)) (And.intro (And.intro @setE_nil @AOp.isCall.eq_1) (And.intro @AOp.isCall.eq_2 (And.intro @AOp.isCall.eq_3 @setD.eq_1))))))) (And.intro (And.intro (And.intro (And.intro (And.intro (And.intro @setD.eq_2 @setEs.eq_1) (And.intro @setEs.eq_2 @presOf.eq_1)) (And.intro (And.intro @presOf.eq_2 @AOp.needs.eq_1) (And.intro @AOp.needs.eq_2 @AOp.needs.eq_3))) (And.intro (And.intro (And.intro @AOp.needs.eq_4 @AOp.needs.eq_5) (And.intro @AOp.needs.eq_6 @AOp.needs.eq_7)) (And.intro (And.intro @AOp.needs.eq_8 @AOp.needs.eq_9) (And.intro @AOp.needs.eq_10 (And.intro @AOp.needs.eq_11 @AOp.needs.eq_12))))) (And.intro (And.intro (And.intro (And.intro @AOp.needs.eq_13 @AOp.needs.eq_14) (And.intro @AOp.needs.eq_15 @AOp.needs.eq_16)) (And.intro (And.intro @AOp.needs.eq_17 @AOp.needs.eq_18) (And.intro @AOp.needs.eq_19 (And.intro @AOp.needs.eq_20 @AOp.needs.eq_21)))) (And.intro (And.intro (And.intro @AOp.needs.eq_22 @AOp.needs.eq_23) (And.intro @AOp.needs.eq_24 @AOp.needs.eq_25)) (And.intro (And.intro @AOp.needs.eq_26 @AOp.needs.eq_27) (And.intro @AOp.needs.eq_28 (And.intro @AOp.needs.eq_29 @AOp.needs.eq_30)))))) (And.intro (And.intro (And.intro (And.intro (And.intro @AOp.needs.eq_31 @AOp.needs.eq_32) (And.intro @AOp.needs.eq_33 @AOp.needs.eq_34)) (And.intro (And.intro @AOp.needs.eq_35 @AOp.needs.eq_36) (And.intro @AOp.needs.eq_37 (And.intro @AOp.needs.eq_38 @AOp.needs.eq_39)))) (And.intro (And.intro (And.intro @AOp.needs.eq_40 @AOp.needs.eq_41) (And.intro @AOp.needs.eq_42 @AOp.needs.eq_43)) (And.intro (And.intro @AOp.needs.eq_44 @AOp.needs.eq_45) (And.intro @SV.one?.eq_1 (And.intro @SV.one?.eq_2 @SV.one?.eq_3))))) (And.intro (And.intro (And.intro (And.intro @SV.pre.eq_1 @SV.pre.eq_2) (And.intro @SV.core.eq_1 @SV.core.eq_2)) (And.intro (And.intro @SV.cells.eq_1 @SV.cells.eq_2) (And.intro @SV.cells.eq_3 (And.intro @SV.cells.eq_4 @gval.eq_1)))) (And.intro (And.intro (And.intro @gval.eq_2 @gval.eq_3) (And.intro @binV.eq_1 @binV.eq_2)) (And.intro (And.intro @binV.eq_3 @binV.eq_4) (And.intro @binV.eq_5 (And.intro @binV.eq_6 @binV.eq_7)))))))) (And.intro (And.intro (And.intro (And.intro (And.intro (And.intro (And.intro @binV.eq_8 @binV.eq_9) (And.intro @binV.eq_10 @binV.eq_11)) (And.intro (And.intro @binV.eq_12 @binV.eq_13) (And.intro @binV.eq_14 @binV.eq_15))) (And.intro (And.intro (And.intro @binV.eq_16 @binV.eq_17) (And.intro @binV.eq_18 @binV.eq_19)) (And.intro (And.intro @binV.eq_20 @binV.eq_21) (And.intro @binV.eq_22 (And.intro @binV.eq_23 @binV.eq_24))))) (And.intro (And.intro (And.intro (And.intro @binV.eq_25 @binV.eq_26) (And.intro @unV.eq_1 @unV.eq_2)) (And.intro (And.intro @unV.eq_3 @unV.eq_4) (And.intro @idsOf.eq_1 (And.intro @idsOf.eq_2 @AOp.rds.eq_1)))) (And.intro (And.intro (And.intro @AOp.rds.eq_2 @AOp.ops.eq_1) (And.intro @AOp.ops.eq_2 @AOp.ops.eq_3)) (And.intro (And.intro @SV.ids.eq_1 @SV.ids.eq_2) (And.intro @SV.ids.eq_3 (And.intro @C.ids0.eq_1 @C.ids0.eq_2)))))) (And.intro (And.intro (And.intro (And.intro (And.intro @C.ids0.eq_3 @C.ids0.eq_4) (And.intro @C.ids0.eq_5 @C.ids0.eq_6)) (And.intro (And.intro @C.ids0.eq_7 @sliceTo.eq_1) (And.intro @rowsOf.eq_1 (And.intro @rowsOf.eq_2 @rowsOf.eq_3)))) (And.intro (And.intro (And.intro @rowsOf.eq_4 @rowsOf.eq_5) (And.intro @rowsOf.eq_6 @srcOf.eq_1)) (And.intro (And.intro @srcOf.eq_2 @bnd.eq_1) (And.intro @bnd.eq_2 (And.intro @bnd'.eq_1 @bnd'.eq_2))))) (And.intro (And.intro (And.intro (And.intro @Option.getD_none.{0} @Option.getD_some.{0}) (And.intro @bldFold.eq_1 @bldFold.eq_2)) (And.intro (And.intro @bSRows.eq_1 @bSRows.eq_2) (And.intro @splice.eq_1 (And.intro @List.take_succ_cons.{0} @List.take_zero.{0})))) (And.intro (And.intro (And.intro @List.drop_succ_cons.{0} @List.drop_zero.{0}) (And.intro @List.length_cons.{0} @List.length_nil.{0})) (And.intro (And.intro @List.getElem?_cons_zero.{0} @List.getElem?_cons_succ.{0}) (And.intro @Option.map_some.{0,0} (And.intro @Option.map_none.{0,0} @List.map_cons.{0,0}))))))) (And.intro (And.intro (And.intro (And.intro (And.intro (And.intro @List.map_nil.{0,0} @List.nil_append.{0}) (And.intro @List.cons_append.{0} @and_true)) (And.intro (And.intro @true_and @and_self) (And.intro @Bool.true_and @Bool.and_true))) (And.intro (And.intro (And.intro @Bool.false_and @Bool.and_false) (And.intro @Bool.false_eq_true @beq_true)) (And.intro (And.intro @beq_false @Bool.not_true) (And.intro @Bool.not_false (And.intro @implies_true.{0} @implies_true.{1}))))) (And.intro (And.intro (And.intro (And.intro @imp_self @false_implies) (And.intro @true_implies @Bool.if_false_right)) (And.intro (And.intro @Bool.if_false_left @Bool.if_true_left) (And.intro @Bool.if_true_right (And.intro @Bool.decide_eq_true @ge_iff_le.{0})))) (And.intro (And.intro (And.intro @gt_iff_lt.{0} @if_true.{0}) (And.intro @if_true.{1} @if_false.{0})) (And.intro (And.intro @if_false.{1} @Option.bind_some.{0,0}) (And.intro @Option.bind_none.{0,0} (And.intro @Nat.zero_add @Nat.le_refl)))))) (And.intro (And.intro (And.intro (And.intro (And.intro @BEq.rfl.{0} @renSV.eq_1) (And.intro @renSV.eq_2 @renSV1.eq_1)) (And.intro (And.intro @renSV1.eq_2 @renSV1.eq_3) (And.intro @renC.eq_1 (And.intro @renC.eq_2 @renC0.eq_1)))) (And.intro (And.intro (And.intro @renC0.eq_2 @renC0.eq_3) (And.intro @renC0.eq_4 @renC0.eq_5)) (And.intro (And.intro @renC0.eq_6 @renC0.eq_7) (And.intro @rn.eq_1 (And.intro @renEnt.eq_1 @renEnt.eq_2))))) (And.intro (And.intro (And.intro (And.intro @backUps.eq_1 @List.zip_nil_left.{0,0}) (And.intro @List.zip_nil_right.{0,0} @List.zip_cons_cons.{0,0})) (And.intro (And.intro @List.zipIdx_cons.{0} @List.zipIdx_nil.{0}) (And.intro @List.filterMap_cons.{0,0} (And.intro @List.filterMap_nil.{0,0} @List.append_nil.{0})))) (And.intro (And.intro (And.intro @List.getElem?_nil.{0} @List.range_zero) (And.intro @Nat.sub_self @Nat.sub_zero)) (And.intro (And.intro @Nat.add_zero @Option.toList_some.{0}) (And.intro @Option.toList_none.{0} (And.intro @Int.cast_ofNat_Int @C_default))))))))
def zX:=And.intro (And.intro (And.intro (And.intro @x_seq @x_block) (And.intro @x_skip @x_ret)) (And.intro (And.intro @x_exit @x_tn) (And.intro @x_tr (And.intro @x_tx @x_bn)))) (And.intro (And.intro (And.intro @x_br @x_bx) (And.intro @x_ln @x_lr)) (And.intro (And.intro @x_lx @if_true.{0}) (And.intro @if_true.{1} (And.intro @if_false.{0} @if_false.{1}))))
def zL:=And.intro (And.intro (And.intro (And.intro (And.intro (And.intro @Int.cast_ofNat_Int @allL.eq_1) (And.intro @allL.eq_2 @mkSt_sl)) (And.intro (And.intro @mkSt_σ @lk_cons) (And.intro @lk_nil (And.intro @lkE_cons @lkE_nil)))) (And.intro (And.intro (And.intro @WkSV.eq_1 @WkSV.eq_2) (And.intro @WkSV.eq_3 (And.intro @WkSV.eq_4 @WkSV.eq_5))) (And.intro (And.intro @WkSV1.eq_1 @WkSV1.eq_2) (And.intro @WkSV1.eq_3 (And.intro @WkSV1.eq_4 @WkC.eq_1))))) (And.intro (And.intro (And.intro (And.intro @WkC.eq_2 @WkC0.eq_1) (And.intro @WkC0.eq_2 (And.intro @WkC0.eq_3 @WkC0.eq_4))) (And.intro (And.intro @WkC0.eq_5 @WkC0.eq_6) (And.intro @WkC0.eq_7 (And.intro @WkC0.eq_8 @WkC0.eq_9)))) (And.intro (And.intro (And.intro @WkC0.eq_10 @WkC0.eq_11) (And.intro @WkC0.eq_12 (And.intro @WkEnt.eq_1 @WkEnt.eq_2))) (And.intro (And.intro @WkEnt.eq_3 @WkEnt.eq_4) (And.intro @WkEnt.eq_5 (And.intro @WkEnt.eq_6 @WkEnt2.eq_1)))))) (And.intro (And.intro (And.intro (And.intro (And.intro @WkEnt2.eq_2 @WkEnt2.eq_3) (And.intro @WkEnt2.eq_4 @WkEnt2.eq_5)) (And.intro (And.intro @WkEnt2.eq_6 @TrL.eq_1) (And.intro @TrL.eq_2 (And.intro @TrL.eq_3 @rlook.eq_1)))) (And.intro (And.intro (And.intro @rlook.eq_2 @frzEs.eq_1) (And.intro @frzEs.eq_2 (And.intro @frzE.eq_1 @setE_cons))) (And.intro (And.intro @setE_nil @setS_cons) (And.intro @setS_nil (And.intro @objL.eq_1 @objL.eq_2))))) (And.intro (And.intro (And.intro (And.intro @isDRows.eq_1 @Option.some.injEq.{0}) (And.intro @List.map_cons.{0,0} (And.intro @List.map_nil.{0,0} @Nat.zero_add))) (And.intro (And.intro @if_true.{0} @if_true.{1}) (And.intro @if_false.{0} (And.intro @if_false.{1} @true_and)))) (And.intro (And.intro (And.intro @and_true @exists_eq_left.{1}) (And.intro @exists_eq_left'.{1} (And.intro @ne_eq.{1} @not_false_eq_true))) (And.intro (And.intro @not_true_eq_false @or_true) (And.intro @true_or (And.intro @implies_true.{0} @implies_true.{1}))))))
def zT:=And.intro (And.intro (And.intro (And.intro (And.intro (And.intro @Int.cast_ofNat_Int @setEs.eq_1) (And.intro @setEs.eq_2 @setE_cons)) (And.intro (And.intro @setE_nil @TrL.eq_1) (And.intro @TrL.eq_2 @TrL.eq_3))) (And.intro (And.intro (And.intro @TrSV.eq_1 @TrSV.eq_2) (And.intro @TrSV.eq_3 @TrSV.eq_4)) (And.intro (And.intro @TrC.eq_1 @TrC.eq_2) (And.intro @TrC0.eq_1 (And.intro @TrC0.eq_2 @TrC0.eq_3))))) (And.intro (And.intro (And.intro (And.intro @TrC0.eq_4 @TrC0.eq_5) (And.intro @TrC0.eq_6 @TrC0.eq_7)) (And.intro (And.intro @TrC0.eq_8 @TrC0.eq_9) (And.intro @TrC0.eq_10 @TrEnt.eq_1))) (And.intro (And.intro (And.intro @TrEnt.eq_2 @TrEnt.eq_3) (And.intro @TrEnt.eq_4 @Views.eq_1)) (And.intro (And.intro @Views.eq_2 @Frozen.eq_1) (And.intro @Frozen.eq_2 (And.intro @lk_cons @lk_nil)))))) (And.intro (And.intro (And.intro (And.intro (And.intro @lkE_cons @lkE_nil) (And.intro @ev_t @ev_k)) (And.intro (And.intro @List.map_cons.{0,0} @List.map_nil.{0,0}) (And.intro @List.getElem?_cons_zero.{0} @List.getElem?_cons_succ.{0}))) (And.intro (And.intro (And.intro @List.getElem?_nil.{0} @List.mem_cons.{0}) (And.intro @List.not_mem_nil.{0} @or_false)) (And.intro (And.intro @false_or @or_true) (And.intro @true_or (And.intro @if_true.{0} @if_true.{1}))))) (And.intro (And.intro (And.intro (And.intro @if_false.{0} @if_false.{1}) (And.intro @true_and @and_true)) (And.intro (And.intro @and_self @exists_eq_left.{1}) (And.intro @exists_eq_left'.{1} @ne_eq.{1}))) (And.intro (And.intro (And.intro @not_false_eq_true @Option.some.injEq.{0}) (And.intro @Ent.arr.injEq @Ent.box.injEq)) (And.intro (And.intro @List.length_cons.{0} @List.length_nil.{0}) (And.intro @isDRows.eq_1 (And.intro @List.append_nil.{0} @List.nil_append.{0}))))))
def zW:=And.intro (And.intro (And.intro (And.intro @rowAt @wc_i64) (And.intro @wc_u64 (And.intro @wc_u8 @wc_u32))) (And.intro (And.intro @wc_u16 (And.intro @wc_i8 @len_map)) (And.intro @mod_nn (And.intro @div_nn @toNat_cast)))) (And.intro (And.intro (And.intro @take_map @drop_map) (And.intro @rowNo (And.intro @toNat_add1 @toNat_sub1))) (And.intro (And.intro @len_take (And.intro @len_drop @len_app)) (And.intro @len_set (And.intro @take_all @len_rep))))
def zY:=And.intro (And.intro (And.intro (And.intro @x_skip @x_ret) (And.intro @x_exit @x_tn)) (And.intro (And.intro @x_tr @x_tx) (And.intro @x_bn @x_br))) (And.intro (And.intro (And.intro @x_bx @x_ln) (And.intro @x_lr @x_lx)) (And.intro (And.intro @if_true.{0} @if_true.{1}) (And.intro @if_false.{0} @if_false.{1})))
def zN:=And.intro (And.intro @len_map (And.intro @len_take @len_drop)) (And.intro @len_app (And.intro @len_set @len_rep))
end Go.Abs

