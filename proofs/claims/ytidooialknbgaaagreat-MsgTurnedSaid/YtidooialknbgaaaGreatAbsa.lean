/- An abstract machine for the model, its soundness, part 1. No condition. -/
import Derived.Laws.AppendOwn
import Derived.Laws.MakeOwn
import Derived.Orders
import Derived.Below
import Derived.Laws.Rows
import Derived.Laws.CopyRow
import Derived.Laws.BytesArg
import Derived.Laws.IdiomStrings
import Derived.Laws.Build
set_option linter.unusedVariables false
set_option linter.unusedSimpArgs false
set_option linter.unnecessarySimpa false
namespace Go.Abs

inductive C where
 | v (x : Value)
 | sl (rows : List (List C))
 | osl (id : Nat)
 | bp (id off : Nat)
 | ep (id i off : Nat)
 | ow (id lo n : Nat)
 | rp (cs : List C)
 | fn (f : FuncId) (caps : List C)
 | mp (id : Nat)
 | it (id : Nat)
 deriving Inhabited

inductive SV where
 | dead
 | c (x : C)
 | agg (cs : List C)
 | tup (vs : List SV)
 | opt (g : Bool) (x : SV)
 deriving Inhabited

inductive Ent where
 | box (cs : List C)
 | arr (E : TypeId) (s : Nat) (rows : List (List C)) (fz : Bool)
 | mp (agg : Bool) (kvs : List (Value × List C))
 | it (s : ByteArray) (pos : Nat)
 | gone
 deriving Inhabited

def Ent.mut : Ent→Bool
 | .box _=>true
 | .arr _ _ _ fz=>!fz
 | .mp _ _=>true
 | .it _ _=>true
 | .gone=>false

def cellAt (h : Array Obj) (b o : Nat) : Option Value :=
 match h[b]? with
 | some (.cells c _ _)=>c[o]?
 | _=>none

theorem cell?_eq (w : World) (b o : Nat) : w.cell? ⟨b,o,none⟩ = cellAt w.heap b o:=by
 simp only [World.cell?,cellAt]
 split <;> simp_all

def one : Value→Bool
 | .agg _ | .tuple _=>false
 | _=>true

inductive RD (h : Array Obj) (ok : Nat→Prop) : C→Value→Prop
 | v (x : Value) (hx : one x = true) : RD h ok (.v x) x
 | nil : RD h ok (.sl []) (.slice none 0 0)
 | emp (a : Addr) (cap : Nat) : RD h ok (.sl []) (.slice (some a) 0 cap)
 | sl (rows : List (List C)) (s b off cap : Nat) (f : Nat→Nat→Value) (hok : ok b) (hs : ∀ r ∈ rows,r.length = s)
   (hc : ∀ (i : Nat) (r : List C) (j : Nat) (c : C),rows[i]? = some r→r[j]? = some c→cellAt h b (off + i * s + j) = some (f i j))
   (hr : ∀ (i : Nat) (r : List C) (j : Nat) (c : C),rows[i]? = some r→r[j]? = some c→RD h ok c (f i j))
   (hcap : rows.length≤cap) : RD h ok (.sl rows) (.slice (some ⟨b,off,none⟩) rows.length cap)

theorem cellAt_congr {h h' : Array Obj} {b : Nat} (e : h'[b]? = h[b]?) (o : Nat) : cellAt h' b o = cellAt h b o:=by
 simp [cellAt,e]

theorem RD.mono {h h' : Array Obj} {ok ok' : Nat→Prop} (hok : ∀ b,ok b→ok' b) (hh : ∀ b,ok b→h'[b]? = h[b]?) {c : C} {v : Value}
  (r : RD h ok c v) : RD h' ok' c v:=by
 induction r with
 | v x hx=>exact .v x hx
 | nil=>exact .nil
 | emp a cap=>exact .emp a cap
 | sl rows s b off cap f hb hs hc hr hcap ih =>
  exact .sl rows s b off cap f (hok b hb) hs (fun i r j c h1 h2=>(cellAt_congr (hh b hb) _).trans (hc i r j c h1 h2)) ih hcap

theorem RD.one {h : Array Obj} {ok : Nat→Prop} {c : C} {v : Value} (r : RD h ok c v) : one v = true:=by
 cases r with
 | v x hx=>exact hx
 | nil=>rfl
 | emp=>rfl
 | sl=>rfl

def C.isD : C→Bool
 | .v _ | .sl _=>true
 | _=>false

structure Env where
 h : Array Obj
 ok : Nat→Prop
 m : Nat→Option Nat
 σ : Nat→Option Ent

def RC0 (e : Env) : C→Value→Prop
 | .v x,v=>RD e.h e.ok (.v x) v
 | .sl rows,v=>RD e.h e.ok (.sl rows) v
 | .osl id,v=>∃ a,e.σ id = some a∧match a with
   | .gone=>one v = true
   | .arr E s rows _=>match e.m id with
    | none=>v = .slice none 0 0
    | some b=>∃ cur cap,e.h[b]? = some (.cells cur E (0,0))∧cur.size = cap * s∧v = .slice (some ⟨b,0,none⟩) rows.length cap
   | _=>False
 | .bp id off,v=>∃ cs b,e.σ id = some (.box cs)∧e.m id = some b∧v = .pointer (some ⟨b,off,none⟩)
 | .ep id i off,v=>∃ a,e.σ id = some a∧match a with
   | .gone=>one v = true
   | .arr _ s _ _=>∃ b,e.m id = some b∧v = .pointer (some ⟨b,i * s + off,none⟩)
   | _=>False
 | .ow id lo n,v=>∃ a,e.σ id = some a∧match a with
   | .gone=>one v = true
   | .arr E s rows _=>∃ b o cap cur,e.m id = some b∧e.h[b]? = some (.cells cur E (0,0))∧cur.size = cap * s∧v = .slice (some ⟨b,o,none⟩) n (cap - lo)∧lo + n≤rows.length∧rows.length≤cap∧(lo < rows.length→o = lo * s)∧(lo = 0→o = 0)
   | _=>False
 | .rp cs,v=>∃ b off,e.ok b∧v = .pointer (some ⟨b,off,none⟩)∧∀ (j : Nat) (c : C),cs[j]? = some c→∃ x,cellAt e.h b (off + j) = some x∧RD e.h e.ok c x
 | .mp id,v=>∃ agg kvs b,e.σ id = some (.mp agg kvs)∧e.m id = some b∧v = .map (some b)
 | .it id,v=>∃ s pos b,e.σ id = some (.it s pos)∧e.m id = some b∧v = .pointer (some ⟨b,0,none⟩)
 | .fn _ _,_=>False

def RL {α β : Type} (R : α→β→Prop) (xs : List α) (ys : List β) : Prop :=
 xs.length = ys.length∧∀ (j : Nat) (x : α) (y : β),xs[j]? = some x→ys[j]? = some y→R x y

def RC (e : Env) : C→Value→Prop
 | .fn f caps,v=>∃ vs : Array Value,v = .func (.func f) #[] vs∧RL (RC0 e) caps vs.toList
 | c,v=>RC0 e c v

def RSV1 (e : Env) : SV→Value→Prop
 | .dead,_=>True
 | .c x,v=>RC e x v
 | .agg cs,v=>∃ vs : Array Value,v = .agg vs∧RL (RC e) cs vs.toList
 | _,_=>False

def RSV (e : Env) : SV→Value→Prop
 | .tup vs,v=>∃ ws : Array Value,v = .tuple ws∧RL (RSV1 e) vs ws.toList
 | .opt g x,v=>(g = true→RSV e x v)∧(g = false→v = undef)
 | x,v=>RSV1 e x v

def REnt (e : Env) (mb : Option Nat) : Ent→Prop
 | .box cs=>∃ b cur T,mb = some b∧e.h[b]? = some (.cells cur T (0,0))∧RL (RC e) cs cur.toList
 | .arr E s rows _=>0 < s∧(∀ r ∈ rows,r.length = s)∧((mb = none∧rows = []) ∨
   ∃ b cur cap,mb = some b∧e.h[b]? = some (.cells cur E (0,0))∧cur.size = cap * s∧rows.length≤cap∧cap≤maxLen ∧
    ∀ (i : Nat) (r : List C) (j : Nat) (c : C),rows[i]? = some r→r[j]? = some c→∃ x,cur[i * s + j]? = some x∧RC e c x)
 | .mp agg kvs=>∃ b es clock,mb = some b∧e.h[b]? = some (.map es clock) ∧
   RL (fun (kv : Value × List C) (m : MapEntry)=>m.key = kv.1∧(if agg then ∃ cs,m.val = .agg cs else one m.val = true)∧RL (RD e.h e.ok) kv.2 m.val.cells.toList) kvs es.toList
 | .it s pos=>∃ b,mb = some b∧e.h[b]? = some (.stringIter s pos)
 | .gone=>True

structure St where
 sl : Nat→SV
 σ : Nat→Option Ent

def okOf (ok0 : Nat→Prop) (B size : Nat) (m : Nat→Option Nat) (σ : Nat→Option Ent) (b : Nat) : Prop :=
 (ok0 b∨B≤b)∧b < size∧∀ id e,σ id = some e→e.mut = true→m id≠some b

structure Frame0 (wr : Nat→Prop) (w0 w : World) : Prop where
 os : w.os = w0.os
 tape : w.tape = w0.tape
 output : w.output = w0.output
 size : w0.heap.size≤w.heap.size
 block : ∀ k,k < w0.heap.size→¬ wr k→w.heap[k]? = w0.heap[k]?

theorem Frame0.refl (wr : Nat→Prop) (w : World) : Frame0 wr w w:=⟨rfl,rfl,rfl,Nat.le_refl _,fun _ _ _=>rfl⟩

structure Gr where
 ok0 : Nat→Prop
 wr : Nat→Prop
 w0 : World
 m0 : Nat→Option Nat
 σ0 : Nat→Option Ent

def EntLe : Ent→Ent→Prop
 | .box _,.box _=>True
 | .arr E s rows _,.arr E' s' rows' _=>E' = E∧s' = s∧rows'.length = rows.length
 | .arr _ _ _ _,.gone=>True
 | .gone,.gone=>True
 | .mp a _,.mp a' _=>a' = a
 | .it s _,.it s' _=>s' = s
 | _,_=>False

def Gr.B (g : Gr) : Nat:=g.w0.heap.size

def Gr.okb (g : Gr) (b : Nat) : Prop:=g.ok0 b∨g.wr b

def Gr.env (g : Gr) (m : Nat→Option Nat) (st : St) (w : World) : Env :=
 { h:=w.heap,ok:=okOf g.okb g.B w.heap.size m st.σ,m,σ:=st.σ }

structure R (g : Gr) (m : Nat→Option Nat) (st : St) (tmps : Array Value) (w : World) : Prop where
 frame : Frame0 g.wr g.w0 w
 slot : ∀ t,RSV (g.env m st w) (st.sl t) (tmps.getD t undef)
 ent : ∀ id e,st.σ id = some e→REnt (g.env m st w) (m id) e
 place : ∀ id e b,st.σ id = some e→e≠.gone→m id = some b→b < w.heap.size∧(g.B≤b∨g.wr b)
 inj : ∀ id id' e e' b,st.σ id = some e→st.σ id' = some e'→e.mut = true→e'≠.gone→m id = some b→m id' = some b→id = id'
 gr : ∀ b,g.ok0 b→b < g.B∧¬ g.wr b
 org : ∀ k e0,g.σ0 k = some e0→∃ e',st.σ k = some e'∧EntLe e0 e'∧(e'≠.gone→m k = g.m0 k ∧
  ∀ E s rows fz b cur,e0 = .arr E s rows fz→g.m0 k = some b→g.w0.heap[b]? = some (.cells cur E (0,0))→∃ cur',w.heap[b]? = some (.cells cur' E (0,0))∧cur'.size = cur.size)

end Go.Abs

namespace Go.Abs

theorem EntLe.refl (a : Ent) : EntLe a a:=by cases a <;> simp [EntLe]

theorem EntLe.trans {a b c : Ent} (h : EntLe a b) (h' : EntLe b c) : EntLe a c:=by
 cases a <;> cases b <;> first | (exact h.elim;done) | skip
 all_goals cases c <;> first | (exact h'.elim;done) | skip
 all_goals first | trivial | skip
 ·obtain ⟨rfl,rfl,h1⟩:=h
  obtain ⟨rfl,rfl,h2⟩:=h'
  exact ⟨rfl,rfl,h2.trans h1⟩
 ·exact (show _ = _ from h').trans h
 ·exact (show _ = _ from h').trans h

theorem EntLe.gone {a b : Ent} (h : EntLe a b) (hb : b≠.gone) : a≠.gone:=by
 rintro rfl
 cases b <;> first | exact h.elim | exact hb rfl

structure Env.Le (e e' : Env) : Prop where
 ok : ∀ b,e.ok b→e'.ok b∧e'.h[b]? = e.h[b]?
 σ : ∀ id a,e.σ id = some a→∃ a',e'.σ id = some a'∧EntLe a a'∧(a'≠.gone→e'.m id = e.m id)
 blk : ∀ id E s rows fz b cur,e.σ id = some (.arr E s rows fz)→e.m id = some b→e.h[b]? = some (.cells cur E (0,0)) →
  e'.σ id = some .gone∨∃ cur',e'.h[b]? = some (.cells cur' E (0,0))∧cur'.size = cur.size

theorem Env.Le.refl (e : Env) : Env.Le e e :=
 ⟨fun _ h=>⟨h,rfl⟩,fun _ a h=>⟨a,h,EntLe.refl a,fun _=>rfl⟩,fun _ _ _ _ _ _ cur _ _ h=>.inr ⟨cur,h,rfl⟩⟩

section
variable {e e' : Env} (hle0 : Env.Le e e')
include hle0

theorem RD.le {c : C} {v : Value} (h : RD e.h e.ok c v) : RD e'.h e'.ok c v:=h.mono (fun b hb=>(hle0.ok b hb).1) (fun b hb=>(hle0.ok b hb).2)

theorem RC0.le {c : C} {v : Value} (h : RC0 e c v) : RC0 e' c v:=by
 cases c with
 | v x=>exact RD.le hle0 h
 | sl rows=>exact RD.le hle0 h
 | osl id =>
  obtain ⟨a,ha,h⟩:=h
  obtain ⟨a',ha',hle,hm⟩:=hle0.σ id a ha
  refine ⟨a',ha',?_⟩
  cases a with
  | gone=>cases a' <;> simp_all [EntLe]
  | box=>exact h.elim
  | mp=>exact h.elim
  | it=>exact h.elim
  | arr E s rows fz =>
   cases a' with
   | gone =>
    simp only at h
    split at h
    ·subst h;rfl
    ·obtain ⟨_,_,_,_,rfl⟩:=h;rfl
   | arr E' s' rows' fz' =>
    obtain ⟨rfl,rfl,hl⟩:=hle
    have hm:=hm (by simp)
    simp only [hm]
    simp only at h
    split at h
    ·exact h
    ·rename_i b hb
     obtain ⟨cur,cap,h1,h2,rfl⟩:=h
     rcases hle0.blk id _ _ _ _ b cur ha hb h1 with hg | ⟨cur',h1',h2'⟩
     ·rw [hg] at ha';cases ha'
     ·exact ⟨cur',cap,h1',by omega,by rw [hl]⟩
   | box=>exact hle.elim
   | mp=>exact hle.elim
   | it=>exact hle.elim
 | bp id off =>
  obtain ⟨cs,b,h1,h2,rfl⟩:=h
  obtain ⟨a',ha',hle,hm⟩:=hle0.σ id _ h1
  cases a' with
  | box cs'=>exact ⟨cs',b,ha',(hm (by simp)).trans h2,rfl⟩
  | arr=>exact hle.elim
  | mp=>exact hle.elim
  | it=>exact hle.elim
  | gone=>exact hle.elim
 | ep id i off =>
  obtain ⟨a,ha,h⟩:=h
  obtain ⟨a',ha',hle,hm⟩:=hle0.σ id a ha
  refine ⟨a',ha',?_⟩
  cases a with
  | gone=>cases a' <;> simp_all [EntLe]
  | box=>exact h.elim
  | mp=>exact h.elim
  | it=>exact h.elim
  | arr E s rows fz =>
   obtain ⟨b,hb,rfl⟩:=h
   cases a' with
   | gone=>rfl
   | arr E' s' rows' fz' =>
    obtain ⟨rfl,rfl,_⟩:=hle
    exact ⟨b,(hm (by simp)).trans hb,rfl⟩
   | box=>exact hle.elim
   | mp=>exact hle.elim
   | it=>exact hle.elim
 | ow id lo n =>
  obtain ⟨a,ha,h⟩:=h
  obtain ⟨a',ha',hle,hm⟩:=hle0.σ id a ha
  refine ⟨a',ha',?_⟩
  cases a with
  | gone=>cases a' <;> simp_all [EntLe]
  | box=>exact h.elim
  | mp=>exact h.elim
  | it=>exact h.elim
  | arr E s rows fz =>
   obtain ⟨b,o,cap,cur,hb,h1,h2,rfl,h3,h4,h5,h6⟩:=h
   cases a' with
   | gone=>rfl
   | arr E' s' rows' fz' =>
    obtain ⟨rfl,rfl,hl⟩:=hle
    rcases hle0.blk id _ _ _ _ b cur ha hb h1 with hg | ⟨cur',h1',h2'⟩
    ·rw [hg] at ha';cases ha'
    ·exact ⟨b,o,cap,cur',(hm (by simp)).trans hb,h1',by omega,rfl,by omega,by omega,fun h=>h5 (by omega),h6⟩
   | box=>exact hle.elim
   | mp=>exact hle.elim
   | it=>exact hle.elim
 | rp cs =>
  obtain ⟨b,off,h1,h2,h3⟩:=h
  refine ⟨b,off,(hle0.ok b h1).1,h2,fun j c hj=>?_⟩
  obtain ⟨x,hx,hr⟩:=h3 j c hj
  exact ⟨x,(cellAt_congr (hle0.ok b h1).2 _).trans hx,RD.le hle0 hr⟩
 | fn f caps=>exact h.elim
 | mp id =>
  obtain ⟨agg,kvs,b,h1,h2,rfl⟩:=h
  obtain ⟨a',ha',hle,hm⟩:=hle0.σ id _ h1
  cases a' with
  | mp agg' kvs'=>exact ⟨agg',kvs',b,ha',(hm (by simp)).trans h2,rfl⟩
  | arr=>exact hle.elim
  | box=>exact hle.elim
  | gone=>exact hle.elim
  | it=>exact hle.elim
 | it id =>
  obtain ⟨s,pos,b,h1,h2,rfl⟩:=h
  obtain ⟨a',ha',hle,hm⟩:=hle0.σ id _ h1
  cases a' with
  | it s' pos'=>exact ⟨s',pos',b,ha',(hm (by simp)).trans h2,rfl⟩
  | mp=>exact hle.elim
  | arr=>exact hle.elim
  | box=>exact hle.elim
  | gone=>exact hle.elim

omit hle0 in
theorem RL.imp {α β : Type} {S S' : α→β→Prop} {xs : List α} {ys : List β} (hi : ∀ x y,x ∈ xs→S x y→S' x y) (h : RL S xs ys) : RL S' xs ys :=
 ⟨h.1,fun j x y hx hy=>hi x y (List.mem_of_getElem? hx) (h.2 j x y hx hy)⟩

omit hle0 in
theorem RC_iff0 {c : C} {v : Value} (hc : ∀ f caps,c≠.fn f caps) : RC e c v ↔ RC0 e c v:=by
 cases c <;> first | exact Iff.rfl | exact absurd rfl (hc _ _)

theorem RC.le {c : C} {v : Value} (h : RC e c v) : RC e' c v:=by
 by_cases hc : ∀ f caps,c≠.fn f caps
 ·exact (RC_iff0 hc).2 (RC0.le hle0 ((RC_iff0 hc).1 h))
 ·cases c with
  | fn f caps =>
   obtain ⟨vs,rfl,h⟩:=h
   exact ⟨vs,rfl,h.imp fun _ _ _=>RC0.le hle0⟩
  | _=>exact absurd (by intro f caps;simp) hc

theorem RSV1.le {s : SV} {v : Value} (h : RSV1 e s v) : RSV1 e' s v:=by
 cases s with
 | dead=>trivial
 | c x=>exact RC.le hle0 h
 | agg cs =>
  obtain ⟨vs,rfl,h⟩:=h
  exact ⟨vs,rfl,h.imp fun _ _ _=>RC.le hle0⟩
 | tup=>exact h.elim
 | opt=>exact h.elim

theorem RSV.le {v : Value} : ∀ {s : SV},RSV e s v→RSV e' s v
 | .dead,_=>trivial
 | .c _,h=>RC.le hle0 h
 | .agg _,h=>RSV1.le hle0 h
 | .tup _,⟨ws,hw,h⟩=>⟨ws,hw,h.imp fun _ _ _=>RSV1.le hle0⟩
 | .opt _ _,h=>⟨fun hg=>RSV.le (h.1 hg),h.2⟩

theorem REnt.le {a : Ent} {mb : Option Nat} (h : REnt e mb a) (hb : a≠.gone→∀ b,mb = some b→e'.h[b]? = e.h[b]?) : REnt e' mb a:=by
 cases a with
 | box cs =>
  obtain ⟨b,cur,T,rfl,h1,h2⟩:=h
  exact ⟨b,cur,T,rfl,(hb (by simp) b rfl).trans h1,h2.imp fun _ _ _=>RC.le hle0⟩
 | arr E s rows fz =>
  obtain ⟨h0,h1,h⟩:=h
  refine ⟨h0,h1,?_⟩
  rcases h with h | ⟨b,cur,cap,rfl,g1,g2,g3,g4,g5⟩
  ·exact .inl h
  ·refine .inr ⟨b,cur,cap,rfl,(hb (by simp) b rfl).trans g1,g2,g3,g4,fun i r j c h1 h2=>?_⟩
   obtain ⟨x,hx,hr⟩:=g5 i r j c h1 h2
   exact ⟨x,hx,RC.le hle0 hr⟩
 | mp agg kvs =>
  obtain ⟨b,es,clock,rfl,h1,h2⟩:=h
  exact ⟨b,es,clock,rfl,(hb (by simp) b rfl).trans h1,h2.imp fun _ _ _ hh=>⟨hh.1,hh.2.1,hh.2.2.imp fun _ _ _=>RD.le hle0⟩⟩
 | it s pos =>
  obtain ⟨b,rfl,h1⟩:=h
  exact ⟨b,rfl,(hb (by simp) b rfl).trans h1⟩
 | gone=>trivial
end

theorem RL.map_right {α β : Type} {S : α→β→Prop} {xs : List α} {ys : List β} (hl : xs.length = ys.length) (h : ∀ (j : Nat) (x : α),xs[j]? = some x→∃ y,ys[j]? = some y∧S x y) : RL S xs ys :=
 ⟨hl,fun j x y hx hy=>by obtain ⟨y',hy',hs⟩:=h j x hx;rw [hy] at hy';cases hy';exact hs⟩

theorem RL.get {α β : Type} {S : α→β→Prop} {xs : List α} {ys : List β} (h : RL S xs ys) {j : Nat} {x : α} (hx : xs[j]? = some x) : ∃ y,ys[j]? = some y∧S x y:=by
 have hj : j < xs.length:=by
  rcases Nat.lt_or_ge j xs.length with h | h
  ·exact h
  ·simp [List.getElem?_eq_none h] at hx
 have hj' : j < ys.length:=h.1 ▸ hj
 exact ⟨ys[j],List.getElem?_eq_getElem hj',h.2 j x _ hx (List.getElem?_eq_getElem hj')⟩

theorem RL.nil {α β : Type} {S : α→β→Prop} : RL S ([] : List α) ([] : List β):=⟨rfl,fun j x y hx=>by simp at hx⟩

theorem RL.cons {α β : Type} {S : α→β→Prop} {x : α} {y : β} {xs : List α} {ys : List β} (h : S x y) (hs : RL S xs ys) : RL S (x :: xs) (y :: ys) :=
 ⟨by simp [hs.1],fun j a b ha hb=>by
  cases j with
  | zero=>simp at ha hb;subst ha;subst hb;exact h
  | succ j=>exact hs.2 j a b (by simpa using ha) (by simpa using hb)⟩

theorem RL.uncons {α β : Type} {S : α→β→Prop} {x : α} {xs : List α} {ys : List β} (h : RL S (x :: xs) ys) : ∃ y ys',ys = y :: ys'∧S x y∧RL S xs ys':=by
 cases ys with
 | nil=>have:=h.1;simp at this
 | cons y ys =>
  exact ⟨y,ys,rfl,h.2 0 x y (by simp) (by simp),by have:=h.1;simpa using this,fun j a b ha hb=>h.2 (j + 1) a b (by simpa using ha) (by simpa using hb)⟩

theorem RL.nil_inv {α β : Type} {S : α→β→Prop} {ys : List β} (h : RL S ([] : List α) ys) : ys = []:=by
 cases ys with
 | nil=>rfl
 | cons=>have:=h.1;simp at this

theorem RL.append {α β : Type} {S : α→β→Prop} {xs xs' : List α} {ys ys' : List β} (h : RL S xs ys) (h' : RL S xs' ys') : RL S (xs ++ xs') (ys ++ ys'):=by
 induction xs generalizing ys with
 | nil=>rw [h.nil_inv];exact h'
 | cons x xs ih=>obtain ⟨y,ys2,rfl,h1,h2⟩:=h.uncons;exact RL.cons h1 (ih h2)

theorem RL.take {α β : Type} {S : α→β→Prop} {xs : List α} {ys : List β} (h : RL S xs ys) (n : Nat) : RL S (xs.take n) (ys.take n) :=
 ⟨by simp [h.1],fun j a b ha hb=>by
  rw [List.getElem?_take] at ha hb
  split at ha
  ·simp [*] at hb;exact h.2 j a b ha hb
  ·cases ha⟩

theorem RL.drop {α β : Type} {S : α→β→Prop} {xs : List α} {ys : List β} (h : RL S xs ys) (n : Nat) : RL S (xs.drop n) (ys.drop n) :=
 ⟨by simp [h.1],fun j a b ha hb=>h.2 (n + j) a b (by simpa using ha) (by simpa using hb)⟩

end Go.Abs

namespace Go.Abs

inductive AX where
 | t (n : Nat)
 | k (x : SV)
 deriving Inhabited

inductive AOp where
 | mv (x : AX)
 | pick (c a b : AX)
 | alloc (z : List C)
 | box (x : AX)
 | ld1 (x : AX)
 | ldn (k : Nat) (x : AX)
 | st (k : Nat) (x y : AX)
 | bin (o : BinOp) (isBool : Bool) (x y : AX)
 | cmpP (neg : Bool) (x : AX)
 | cmpS (neg : Bool) (x : AX)
 | un (o : UnOp) (x : AX)
 | cvI (k : IntKind) (x : AX)
 | b2s (x : AX)
 | s2b (x : AX)
 | fa (off : Nat) (x : AX)
 | ia (s : Nat) (x i : AX)
 | idxS (x i : AX)
 | slc (s : Nat) (x : AX) (lo hi : Option AX)
 | slcS (x : AX) (lo hi : Option AX)
 | mkS (E s : Nat) (z : List C) (bytes : Nat) (n c : AX)
 | bS (E s : Nat) (parts : List AX)
 | bld (z : List C) (parts : List (Nat × Nat × AX))
 | fld1 (off : Nat) (x : AX)
 | fldn (off k : Nat) (x : AX)
 | ext (i : Nat) (x : AX)
 | mkF (f : FuncId) (caps : List AX)
 | len (x : AX)
 | lenS (x : AX)
 | lenM (x : AX)
 | app (E s bytes : Nat) (x y : AX)
 | mx (isMax : Bool) (x : AX) (xs : List AX)
 | mkM (agg : Bool)
 | lkp (z : List C) (agg ok : Bool) (x k : AX)
 | mup (agg : Bool) (x k v : AX)
 | call (f : FuncId) (args : List AX)
 | callv (x : AX) (args : List AX)
 | bad
 | nilC (x : AX)
 | clr (s : Nat) (z : List C) (x : AX)
 | capN (x : AX)
 | appZ (E s bytes : Nat) (z : List C) (x y : AX)
 | cvB (x : AX)
 | slc3 (s : Nat) (x : AX) (lo hi : Option AX) (mx : AX)
 | rgS (x : AX)
 | nxS (x : AX)
 deriving Inhabited

def upd {α : Type} (f : Nat→α) (d : Nat) (x : α) : Nat→α:=fun t=>if t = d then x else f t

theorem upd_apply {α : Type} (f : Nat→α) (d : Nat) (x : α) (t : Nat) : upd f d x t = if t = d then x else f t:=rfl

def ev (sl : Nat→SV) : AX→SV
 | .t n=>sl n
 | .k x=>x

def SV.core : SV→SV
 | .opt _ x=>x.core
 | x=>x

def SV.pre : SV→Prop
 | .opt g x=>g = true∧x.pre
 | _=>True

def SV.cells : SV→Option (List C)
 | .c x=>some [x]
 | .agg cs=>some cs
 | .opt _ x=>x.cells
 | _=>none

def SV.one? : SV→Option C
 | .c x=>some x
 | .opt _ x=>x.one?
 | _=>none

def bitsI (o : BinOp) (k : IntKind) (x y : Int) : Int :=
 let a:=BitVec.ofInt k.bits x
 let b:=BitVec.ofInt k.bits y
 match o with
 | .and=>k.wrap (a &&& b).toNat
 | .or=>k.wrap (a ||| b).toNat
 | .xor=>k.wrap (a ^^^ b).toNat
 | _=>k.wrap (a &&& ~~~b).toNat

def binV (o : BinOp) (isBool : Bool) (x y : Value) : Option (Value × Prop) :=
 match x,y with
 | .int k a,.int k' b =>
  match o with
  | .shl=>some (.int k (k.wrap (a * 2 ^ (min b.toNat k.bits))),0≤b)
  | .shr=>some (.int k (a.fdiv (2 ^ (min b.toNat k.bits))),0≤b)
  | o =>
   if k = k' then
    match o with
    | .add=>some (.int k (k.wrap (a + b)),True)
    | .sub=>some (.int k (k.wrap (a - b)),True)
    | .mul=>some (.int k (k.wrap (a * b)),True)
    | .quo=>some (.int k (k.wrap (a.tdiv b)),b≠0)
    | .rem=>some (.int k (a.tmod b),b≠0)
    | .and=>some (.int k (bitsI .and k a b),True)
    | .or=>some (.int k (bitsI .or k a b),True)
    | .xor=>some (.int k (bitsI .xor k a b),True)
    | .andNot=>some (.int k (bitsI .andNot k a b),True)
    | .eql=>some (.bool (a == b),True)
    | .neq=>some (.bool (a != b),True)
    | .lss=>some (.bool (a < b),True)
    | .leq=>some (.bool (a≤b),True)
    | .gtr=>some (.bool (a > b),True)
    | .geq=>some (.bool (a ≥ b),True)
    | _=>none
   else none
 | .string a,.string b =>
  match o with
  | .eql=>some (.bool (a.toList == b.toList),True)
  | .neq=>some (.bool (!(a.toList == b.toList)),True)
  | .add=>some (.string (a ++ b),((a.size + b.size : Nat) : Int)≤9223372036854775807)
  | _=>none
 | .bool a,.bool b =>
  if isBool then
   match o with
   | .eql=>some (.bool (a == b),True)
   | .neq=>some (.bool (!(a == b)),True)
   | _=>none
  else none
 | _,_=>none

def unV (o : UnOp) (x : Value) : Option Value :=
 match o,x with
 | .not,.bool b=>some (.bool !b)
 | .neg,.int k n=>some (.int k (k.wrap (0 - n)))
 | .xor,.int k n=>some (.int k (bitsI .xor k (if k.signed then -1 else k.max) n))
 | _,_=>none

def splice (cs : List C) (off : Nat) (ys : List C) : List C:=cs.take off ++ ys ++ cs.drop (off + ys.length)

def rowsOf (σ : Nat→Option Ent) : C→Option (List (List C))
 | .v (.slice none 0 0)=>some []
 | .v (.slice (some _) 0 _)=>some []
 | .sl rows=>some rows
 | .osl id=>match σ id with
  | some (.arr _ _ rows _)=>some rows
  | _=>none
 | .ow id lo n=>match σ id with
  | some (.arr _ _ rows _)=>some ((rows.drop lo).take n)
  | _=>none
 | _=>none

def isDRows (rows : List (List C)) : Prop:=∀ r ∈ rows,∀ c ∈ r,c.isD = true

def rowByte : List C→UInt8
 | [.v (.int _ n)]=>UInt8.ofNat n.toNat
 | _=>0

def isByteRow (r : List C) : Prop:=∃ n,r = [.v (.int .u8 n)]

def byteRow (b : UInt8) : List C:=[.v (.int .u8 b.toNat)]

def keyEq : Value→Value→Bool
 | .int _ a,.int _ b=>a == b
 | _,_=>false

def sameK : Value→Value→Prop
 | .int j _,.int k _=>j = k
 | _,_=>False

def mfind (kvs : List (Value × List C)) (k : Value) : Option (List C) :=
 match kvs with
 | []=>none
 | kv :: r=>if keyEq k kv.1 then some kv.2 else mfind r k

def mset (kvs : List (Value × List C)) (k : Value) (nv : List C) : List (Value × List C) :=
 match kvs with
 | []=>[(k,nv)]
 | kv :: r=>if keyEq k kv.1 then (k,nv) :: r else kv :: mset r k nv

abbrev Eff:=Option (SV × List (Nat × Ent) × Prop)

def sliceTo (σ : Nat→Option Ent) (s : Nat) (x : C) (lo : Int) (hi : Option Int) : Eff :=
 match rowsOf σ x with
 | none=>none
 | some rows =>
  let h : Int:=hi.getD rows.length
  let val : SV:=.c (.sl ((rows.take h.toNat).drop lo.toNat))
  match x with
  | .osl id=>match σ id with
   | some (.arr E s' rows _)=>if s' = s then some (val,[(id,.arr E s rows true)],0≤lo∧lo≤h∧h≤rows.length∧isDRows rows) else none
   | _=>none
  | .v (.slice (some _) _ _)=>none
  | .ow _ _ _=>none
  | _=>some (val,[],0≤lo∧lo≤h∧h≤rows.length∧∀ r ∈ rows,r.length = s)

def keepTo (σ : Nat→Option Ent) (fr s : Nat) (x : C) (lo hi : Option Int) : Eff :=
 match x,lo,hi with
 | .v (.slice none 0 0),l,h=>some (.c (.v (.slice none 0 0)),[],l.getD 0 = 0∧h.getD 0 = 0)
 | .osl id,some l,none=>match σ id with
  | some (.arr _ s' rows _)=>if s' = s then some (.c (.ow id l.toNat (rows.length - l.toNat)),[],0≤l∧l≤rows.length∧rows≠[]) else none
  | _=>none
 | .osl id,none,some h=>match σ fr,σ id with
  | none,some (.arr E s' rows false)=>if s' = s then some (.c (.osl fr),[(id,.gone),(fr,.arr E s (rows.take h.toNat) false)],0≤h∧h≤rows.length) else none
  | _,_=>none
 | _,_,_=>none

def winTo (σ : Nat→Option Ent) (s : Nat) (x : C) (l : Int) (h : Option Int) : Eff :=
 match x with
 | .osl id=>match σ id with
  | some (.arr _ s' rows _)=>if s' = s then some (.c (.ow id l.toNat ((h.getD rows.length).toNat - l.toNat)),[],0≤l∧l≤h.getD rows.length∧h.getD rows.length≤rows.length∧rows≠[]) else none
  | _=>none
 | .ow id lo n=>match σ id with
  | some (.arr _ s' rows _)=>if s' = s then some (.c (.ow id (lo + l.toNat) ((h.getD n).toNat - l.toNat)),[],0≤l∧l≤h.getD n∧lo + h.getD n≤rows.length) else none
  | _=>none
 | _=>none

def foldMx (isMax : Bool) (k : IntKind) (a : Int) : List SV→Option Int
 | []=>some a
 | x :: xs=>match x.one? with
  | some (.v (.int _ b))=>foldMx isMax k (if isMax then (if b > a then b else a) else (if b < a then b else a)) xs
  | _=>none

def bldFold (ρ : AX→SV) : List (Nat × Nat × AX)→List C→Option (List C)
 | [],cs=>some cs
 | (off,k,x) :: r,cs=>match (ρ x).cells with
  | some ys=>if ys.length = k∧off + k≤cs.length then bldFold ρ r (splice cs off ys) else none
  | none=>none

def bSRows (ρ : AX→SV) (s : Nat) : List AX→Option (List (List C))
 | []=>some []
 | x :: xs=>match (ρ x).cells,bSRows ρ s xs with
  | some ys,some r=>if ys.length = s then some (ys :: r) else none
  | _,_=>none

def caps1 (ρ : AX→SV) : List AX→Option (List C)
 | []=>some []
 | x :: xs=>match (ρ x).one?,caps1 ρ xs with
  | some c,some r=>(match c with | .fn _ _=>none | c=>some (c :: r))
  | _,_=>none

def srcOf (σ : Nat→Option Ent) (s : Nat) : C→Option (List (List C) × Prop)
 | .v (.string t)=>if s = 1 then some (t.data.toList.map byteRow,True) else none
 | c=>(rowsOf σ c).map fun r=>(r,∀ q ∈ r,q.length = s)

def bnd (ρ : AX→SV) (dflt : Int) : Option AX→Option Int
 | none=>some dflt
 | some y=>match (ρ y).one? with
  | some (.v (.int _ n))=>some n
  | _=>none

def bnd' (ρ : AX→SV) : Option AX→Option (Option Int)
 | none=>some none
 | some y=>match (ρ y).one? with
  | some (.v (.int _ n))=>some (some n)
  | _=>none

def eff (ρ : AX→SV) (σ : Nat→Option Ent) (fr : Nat) : AOp→Eff
 | .mv x=>some (ρ x,[],True)
 | .pick c a b =>
  match (ρ c).one?,(ρ a).one?,(ρ b).one? with
  | some (.v (.bool t)),some (.v (.bool x)),some (.v (.bool y))=>some (.c (.v (.bool (if t then x else y))),[],(t = true→(ρ a).pre)∧(t = false→(ρ b).pre))
  | _,_,_=>none
 | .alloc z=>match σ fr with
  | none=>some (.c (.bp fr 0),[(fr,.box z)],True)
  | some _=>none
 | .box x=>match σ fr,(ρ x).cells with
  | none,some cs=>some (.c (.bp fr 0),[(fr,.box cs)],True)
  | _,_=>none
 | .ld1 x=>match (ρ x).one? with
  | some (.bp id off)=>(match σ id with
   | some (.box cs)=>cs[off]?.map fun c=>(.c c,[],True)
   | _=>none)
  | some (.ep id i off)=>(match σ id with
   | some (.arr _ s rows _)=>some (.c (((rows[i]?.getD [])[off]?).getD default),[],i < rows.length∧off < s)
   | _=>none)
  | some (.rp cs)=>some (.c ((cs[0]?).getD default),[],0 < cs.length)
  | _=>none
 | .ldn k x=>match (ρ x).one? with
  | some (.bp id off)=>(match σ id with
   | some (.box cs)=>if off + k≤cs.length then some (.agg ((cs.drop off).take k),[],True) else none
   | _=>none)
  | some (.ep id i off)=>(match σ id with
   | some (.arr _ s rows _)=>some (.agg (((rows[i]?.getD []).drop off).take k),[],i < rows.length∧off + k≤s)
   | _=>none)
  | some (.rp cs)=>some (.agg (cs.take k),[],k≤cs.length)
  | _=>none
 | .st k x y=>match (ρ x).one?,(ρ y).cells with
  | some (.bp id off),some ys=>(match σ id with
   | some (.box cs)=>if ys.length = k∧off + k≤cs.length then some (.dead,[(id,.box (splice cs off ys))],True) else none
   | _=>none)
  | some (.ep id i off),some ys=>(match σ id with
   | some (.arr E s rows false)=>if ys.length = k then some (.dead,[(id,.arr E s (rows.set i (splice (rows[i]?.getD []) off ys)) false)],i < rows.length∧off + k≤s) else none
   | _=>none)
  | _,_=>none
 | .bin o isBool x y=>match (ρ x).one?,(ρ y).one? with
  | some (.v a),some (.v b)=>(binV o isBool a b).map fun r=>(.c (.v r.1),[],r.2)
  | _,_=>none
 | .cmpP neg x=>match (ρ x).one? with
  | some (.bp _ _)=>some (.c (.v (.bool neg)),[],True)
  | some (.rp _)=>some (.c (.v (.bool neg)),[],True)
  | some (.v (.pointer none))=>some (.c (.v (.bool !neg)),[],True)
  | _=>none
 | .cmpS neg x=>match (ρ x).one? with
  | some (.v (.slice none 0 0))=>some (.c (.v (.bool !neg)),[],True)
  | some (.v (.slice (some _) _ _))=>some (.c (.v (.bool neg)),[],True)
  | some (.sl rows)=>some (.c (.v (.bool neg)),[],rows≠[])
  | some (.osl id)=>(match σ id with
   | some (.arr _ _ rows _)=>some (.c (.v (.bool neg)),[],rows≠[])
   | _=>none)
  | _=>none
 | .un o x=>match (ρ x).one? with
  | some (.v a)=>(unV o a).map fun r=>(.c (.v r),[],True)
  | _=>none
 | .cvI k x=>match (ρ x).one? with
  | some (.v (.int _ n))=>some (.c (.v (.int k (k.wrap n))),[],True)
  | _=>none
 | .b2s x=>match (ρ x).one?.bind (rowsOf σ) with
  | some rows=>some (.c (.v (.string ⟨(rows.map rowByte).toArray⟩)),[],∀ r ∈ rows,isByteRow r)
  | _=>none
 | .s2b x=>match (ρ x).one? with
  | some (.v (.string s))=>some (.c (.sl (s.data.toList.map byteRow)),[],True)
  | _=>none
 | .fa off x=>match (ρ x).one? with
  | some (.bp id o)=>some (.c (.bp id (o + off)),[],True)
  | some (.ep id i o)=>(match σ id with
   | some (.arr _ _ _ _)=>some (.c (.ep id i (o + off)),[],True)
   | _=>none)
  | some (.rp cs)=>some (.c (.rp (cs.drop off)),[],True)
  | _=>none
 | .ia s x i=>match (ρ x).one?,(ρ i).one? with
  | some (.sl rows),some (.v (.int _ n))=>some (.c (.rp (rows[n.toNat]?.getD [])),[],0≤n∧n < rows.length∧(rows[n.toNat]?.getD []).length = s)
  | some (.osl id),some (.v (.int _ n))=>(match σ id with
   | some (.arr _ s' rows _)=>if s' = s then some (.c (.ep id n.toNat 0),[],0≤n∧n < rows.length) else none
   | _=>none)
  | some (.ow id lo k),some (.v (.int _ n))=>(match σ id with
   | some (.arr _ s' rows _)=>if s' = s then some (.c (.ep id (lo + n.toNat) 0),[],0≤n∧n < k∧lo + n.toNat < rows.length) else none
   | _=>none)
  | _,_=>none
 | .idxS x i=>match (ρ x).one?,(ρ i).one? with
  | some (.v (.string s)),some (.v (.int _ n))=>some (.c (.v (.int .u8 ((s.data[n.toNat]?).getD 0).toNat)),[],0≤n∧n < s.size)
  | _,_=>none
 | .slc s x lo hi=>if fr % 4 = 3 then (match (ρ x).one?,bnd ρ 0 lo,bnd' ρ hi with
  | some c,some l,some h=>winTo σ s c l h
  | _,_,_=>none) else if fr % 2 = 1 then (match (ρ x).one?,bnd' ρ lo,bnd' ρ hi with
  | some c,some l,some h=>keepTo σ fr s c l h
  | _,_,_=>none) else (match (ρ x).one?,bnd ρ 0 lo,bnd' ρ hi with
  | some c,some l,some h=>sliceTo σ s c l h
  | _,_,_=>none)
 | .slcS x lo hi=>match (ρ x).one? with
  | some (.v (.string s))=>(match bnd ρ 0 lo,bnd ρ s.size hi with
   | some l,some h=>some (.c (.v (.string (s.extract l.toNat h.toNat))),[],0≤l∧l≤h∧h≤s.size)
   | _,_=>none)
  | _=>none
 | .mkS E s z bytes n c=>match σ fr,(ρ n).one?,(ρ c).one? with
  | none,some (.v (.int _ a)),some (.v (.int _ b))=>some (.c (.osl fr),[(fr,.arr E s (List.replicate a.toNat z) false)],0≤a∧a≤b∧b * bytes≤140737488355328)
  | _,_,_=>none
 | .bS E s parts=>match σ fr,bSRows ρ s parts with
  | none,some rows=>some (.c (.osl fr),[(fr,.arr E s rows false)],True)
  | _,_=>none
 | .bld z parts=>(bldFold ρ parts z).map fun cs=>(.agg cs,[],True)
 | .fld1 off x=>match (ρ x).core with
  | .agg cs=>cs[off]?.map fun c=>(.c c,[],True)
  | _=>none
 | .fldn off k x=>match (ρ x).core with
  | .agg cs=>if off + k≤cs.length then some (.agg ((cs.drop off).take k),[],True) else none
  | _=>none
 | .ext i x=>match (ρ x).core with
  | .tup vs=>vs[i]?.map fun s=>(s,[],True)
  | _=>none
 | .mkF f caps=>(caps1 ρ caps).map fun cs=>(.c (.fn f cs),[],True)
 | .len x=>match (ρ x).one?.bind (rowsOf σ) with
  | some rows=>some (.c (.v (.int .i64 rows.length)),[],True)
  | none=>none
 | .lenS x=>match (ρ x).one? with
  | some (.v (.string s))=>some (.c (.v (.int .i64 s.size)),[],True)
  | _=>none
 | .lenM x=>match (ρ x).one? with
  | some (.mp id)=>(match σ id with
   | some (.mp _ kvs)=>some (.c (.v (.int .i64 kvs.length)),[],True)
   | _=>none)
  | _=>none
 | .app E s bytes x y=>match σ fr,(ρ x).one?,(ρ y).one? with
  | none,some cx,some cy =>
   (match cx,srcOf σ s cy with
   | .v (.slice none 0 0),some (new,q)=>some (.c (.osl fr),[(fr,.arr E s new false)],q∧new.length * bytes≤140737488355328)
   | .osl id,some (new,q)=>(match σ id with
    | some (.arr E' s' rows false)=>if E' = E∧s' = s then some (.c (.osl fr),[(id,.gone),(fr,.arr E s (rows ++ new) false)],q∧(rows.length + new.length) * bytes≤140737488355328) else none
    | _=>none)
   | .ow id lo n,some (new,q)=>(match σ id with
    | some (.arr E' s' rows false)=>if E' = E∧s' = s then some (.c (.ow id lo (n + new.length)),[(id,.arr E s (rows.take (lo + n) ++ new ++ rows.drop (lo + n + new.length)) false)],q∧lo + n + new.length≤rows.length∧lo < rows.length) else none
    | _=>none)
   | _,_=>none)
  | _,_,_=>none
 | .mx isMax x xs=>match (ρ x).one? with
  | some (.v (.int k a))=>(foldMx isMax k a (xs.map ρ)).map fun r=>(.c (.v (.int k r)),[],True)
  | _=>none
 | .mkM agg=>match σ fr with
  | none=>some (.c (.mp fr),[(fr,.mp agg [])],True)
  | some _=>none
 | .lkp z agg ok x k=>match (ρ x).one?,(ρ k).one? with
  | some (.mp id),some (.v (.int j n))=>(match σ id with
   | some (.mp agg' kvs)=>if agg' = agg then
     some (if ok then .tup [if agg then .agg ((mfind kvs (.int j n)).getD z) else .c ((((mfind kvs (.int j n)).getD z)[0]?).getD default),.c (.v (.bool (mfind kvs (.int j n)).isSome))]
      else if agg then .agg ((mfind kvs (.int j n)).getD z) else .c ((((mfind kvs (.int j n)).getD z)[0]?).getD default),[],(∀ p ∈ kvs,sameK (.int j n) p.1)∧(agg = false→((mfind kvs (.int j n)).getD z).length = 1))
    else none
   | _=>none)
  | _,_=>none
 | .mup agg x k v=>match (ρ x).one?,(ρ k).one?,(if agg then (match (ρ v).core with | .agg cs=>some cs | _=>none) else (ρ v).one?.map fun c=>[c]) with
  | some (.mp id),some (.v (.int j n)),some cs=>(match σ id with
   | some (.mp agg' kvs)=>if agg' = agg then some (.dead,[(id,.mp agg (mset kvs (.int j n) cs))],(∀ c ∈ cs,c.isD = true)∧∀ p ∈ kvs,sameK (.int j n) p.1) else none
   | _=>none)
  | _,_,_=>none
 | .call _ _=>none
 | .callv _ _=>none
 | .bad=>none
 | .nilC x=>match (ρ x).one? with
  | some (.bp id off)=>some (.c (.bp id off),[],True)
  | some (.rp cs)=>some (.c (.rp cs),[],True)
  | _=>none
 | .clr s z x=>match (ρ x).one? with
  | some (.ow id lo n)=>(match σ id with
   | some (.arr E s' rows false)=>if s' = s then some (.dead,[(id,.arr E s (rows.take lo ++ List.replicate n z ++ rows.drop (lo + n)) false)],0 < n∧lo + n≤rows.length) else none
   | _=>none)
  | _=>none
 | .capN x=>match (ρ x).one? with
  | some (.v (.slice none 0 0))=>some (.c (.v (.int .i64 0)),[],True)
  | _=>none
 | .appZ E s bytes z x y=>match σ fr,(ρ x).one?,(ρ y).one? with
  | none,some (.v (.slice none 0 0)),some (.v (.int .i64 a))=>some (.c (.osl fr),[(fr,.arr E s (List.replicate a.toNat z) false)],0 < a∧a * bytes≤140737488355328)
  | _,_,_=>none
 | .slc3 s x lo hi q=>match (ρ x).one?,bnd ρ 0 lo,bnd' ρ hi,(ρ q).one? with
  | some (.sl rows),some l,some (some h),some (.v (.int _ m))=>some (.c (.sl ((rows.take h.toNat).drop l.toNat)),[],0≤l∧l≤h∧h≤m∧m≤rows.length∧∀ r ∈ rows,r.length = s)
  | some (.osl id),some l,some (some h),some (.v (.int _ m))=>(match σ id with
   | some (.arr _ s' rows _)=>if s' = s then some (.dead,[],0≤l∧l≤h∧h≤m∧m≤rows.length) else none
   | _=>none)
  | _,_,_,_=>none
 | .cvB x=>match (ρ x).one? with
  | some (.osl id)=>(match σ id with
   | some (.arr _ _ rows false)=>some (.c (.sl rows),[(id,.gone)],rows≠[]∧isDRows rows)
   | _=>none)
  | _=>none
 | .rgS x=>match (ρ x).one?,σ fr with
  | some (.v (.string s)),none=>some (.c (.it fr),[(fr,.it s 0)],True)
  | _,_=>none
 | .nxS x=>match (ρ x).one? with
  | some (.it id)=>(match σ id with
   | some (.it s pos)=>match s.data[pos]? with
    | none=>some (.tup [.c (.v (.bool false))],[],True)
    | some c=>some (.tup [.c (.v (.bool true)),.c (.v (.int .i64 pos)),.c (.v (.int .i32 c.toNat))],[(id,.it s (pos + 1))],c.toNat < 128∧pos≤1000000000)
   | _=>none)
  | _=>none

def AOp.needs : AOp→List AX
 | .mv _=>[]
 | .pick c _ _=>[c]
 | .alloc _ | .mkM _ | .bad=>[]
 | .clr _ _ x | .capN x | .cvB x | .nilC x | .box x | .ld1 x | .ldn _ x | .cmpP _ x | .cmpS _ x | .un _ x | .cvI _ x | .b2s x | .s2b x | .fa _ x | .fld1 _ x | .fldn _ _ x | .ext _ x | .len x | .lenS x | .lenM x | .rgS x | .nxS x=>[x]
 | .st _ x y | .bin _ _ x y | .ia _ x y | .idxS x y | .mkS _ _ _ _ x y | .app _ _ _ x y | .appZ _ _ _ _ x y | .lkp _ _ _ x y=>[x,y]
 | .slc _ x lo hi | .slcS x lo hi=>x :: (lo.toList ++ hi.toList)
 | .slc3 _ x lo hi q=>x :: q :: (lo.toList ++ hi.toList)
 | .bS _ _ ps=>ps
 | .bld _ ps=>ps.map (·.2.2)
 | .mkF _ cs=>cs
 | .mx _ x xs=>x :: xs
 | .mup _ x k v=>[x,k,v]
 | .call _ args=>args
 | .callv x args=>x :: args

def presOf (ρ : AX→SV) : List AX→Prop
 | []=>True
 | x :: xs=>(ρ x).pre∧presOf ρ xs

end Go.Abs

namespace Go.Abs
open Go

section
variable {g : Gr} {m : Nat→Option Nat} {st : St} {tmps : Array Value} {w : World}

theorem okOf_mono {ok0 : Nat→Prop} {B size size' : Nat} {m m' : Nat→Option Nat} {σ σ' : Nat→Option Ent} {b : Nat} (h : okOf ok0 B size m σ b) (hs : size≤size')
  (hm : ∀ id e,σ' id = some e→e.mut = true→m' id = some b→∃ e0,σ id = some e0∧e0.mut = true∧m id = some b) : okOf ok0 B size' m' σ' b :=
 ⟨h.1,Nat.lt_of_lt_of_le h.2.1 hs,fun id e he hmut hb=>by obtain ⟨e0,h0,h1,h2⟩:=hm id e he hmut hb;exact h.2.2 id e0 h0 h1 h2⟩

theorem Frame0.step {wr : Nat→Prop} {w0 w w' : World} (h : Frame0 wr w0 w) (h1 : w'.os = w.os) (h2 : w'.tape = w.tape) (h3 : w'.output = w.output) (h4 : w.heap.size≤w'.heap.size)
  (h5 : ∀ k,k < w0.heap.size→¬ wr k→w'.heap[k]? = w.heap[k]?) : Frame0 wr w0 w' :=
 ⟨h1.trans h.os,h2.trans h.tape,h3.trans h.output,Nat.le_trans h.size h4,fun k hk hw=>(h5 k hk hw).trans (h.block k hk hw)⟩

theorem Frame0.trans {wr : Nat→Prop} {w0 w w' : World} (h : Frame0 wr w0 w) (h' : Frame0 wr w w') : Frame0 wr w0 w' :=
 h.step h'.os h'.tape h'.output h'.size fun k hk hw=>h'.block k (Nat.lt_of_lt_of_le hk h.size) hw

theorem R.next (hR : R g m st tmps w) {w' : World} {m' : Nat→Option Nat} {σ' : Nat→Option Ent} (hf : Frame0 g.wr g.w0 w')
  (hle : Env.Le (g.env m st w) (g.env m' { st with σ:=σ' } w'))
  (hent : ∀ id e,σ' id = some e→REnt (g.env m' { st with σ:=σ' } w') (m' id) e)
  (hplace : ∀ id e b,σ' id = some e→e≠.gone→m' id = some b→b < w'.heap.size∧(g.B≤b∨g.wr b))
  (hinj : ∀ id id' e e' b,σ' id = some e→σ' id' = some e'→e.mut = true→e'≠.gone→m' id = some b→m' id' = some b→id = id') :
  R g m' { st with σ:=σ' } tmps w' :=
 ⟨hf,fun t=>RSV.le hle (hR.slot t),hent,hplace,hinj,hR.gr,fun k e0 hk=>by
  obtain ⟨e1,h1,h2,h3⟩:=hR.org k e0 hk
  obtain ⟨e2,h4,h5,h6⟩:=hle.σ k e1 h1
  refine ⟨e2,h4,h2.trans h5,fun hg=>⟨(h6 hg).trans (h3 (h5.gone hg)).1,fun E s rows fz b cur he hb hc=>?_⟩⟩
  obtain ⟨hm,hbl⟩:=h3 (h5.gone hg)
  obtain ⟨cur1,hc1,hs1⟩:=hbl E s rows fz b cur he hb hc
  subst he
  cases e1 with
  | arr E1 s1 rows1 fz1 =>
   obtain ⟨rfl,_,_⟩:=h2
   rcases hle.blk k _ _ _ _ b cur1 h1 (hm.trans hb) hc1 with hgone | ⟨cur2,hc2,hs2⟩
   ·rw [h4] at hgone;cases hgone;exact absurd rfl hg
   ·exact ⟨cur2,hc2,hs2.trans hs1⟩
  | gone=>exact absurd rfl (h5.gone hg)
  | box=>exact h2.elim
  | mp=>exact h2.elim
  | it=>exact h2.elim⟩

theorem Ent.mut_ne_gone {e : Ent} (h : e.mut = true) : e≠.gone:=by rintro rfl;cases h

theorem R.same (hR : R g m st tmps w) {w' : World} (hh : w'.heap = w.heap) (h1 : w'.os = w.os) (h2 : w'.tape = w.tape) (h3 : w'.output = w.output) : R g m st tmps w':=by
 have he : g.env m st w' = g.env m st w:=by simp [Gr.env,hh]
 refine ⟨hR.frame.step h1 h2 h3 (by rw [hh];exact Nat.le_refl _) (fun k _ _=>by rw [hh]),fun t=>by rw [he];exact hR.slot t,fun id e h=>by rw [he];exact hR.ent id e h,fun id e b h1 h2 h3=>by rw [hh];exact hR.place id e b h1 h2 h3,hR.inj,hR.gr,fun k e0 hk=>by rw [hh];exact hR.org k e0 hk⟩

theorem R.put (hR : R g m st tmps w) {d : Nat} (hd : d < tmps.size) {s : SV} {v : Value} (h : RSV (g.env m st w) s v) :
  R g m { st with sl:=upd st.sl d s } (tmps.setIfInBounds d v) w:=by
 refine ⟨hR.frame,fun t=>?_,hR.ent,hR.place,hR.inj,hR.gr,hR.org⟩
 show RSV (g.env m st w) (upd st.sl d s t) _
 rw [upd_apply]
 split
 ·rename_i h';subst h'
  simpa [Array.getD_eq_getD_getElem?,hd] using h
 ·rename_i h'
  have : (tmps.setIfInBounds d v).getD t undef = tmps.getD t undef:=by
   simp only [Array.getD_eq_getD_getElem?]
   rw [Array.getElem?_setIfInBounds_ne (by omega)]
  rw [this]
  exact hR.slot t

theorem heap_lt {h : Array Obj} {b : Nat} {o : Obj} (hb : h[b]? = some o) : b < h.size:=by
 rcases Nat.lt_or_ge b h.size with h1 | h1
 ·exact h1
 ·simp [Array.getElem?_eq_none h1] at hb

theorem push_old (h : Array Obj) (o : Obj) {k : Nat} (hk : k < h.size) : (h.push o)[k]? = h[k]?:=by
 rw [Array.getElem?_push,if_neg (by omega)]

theorem push_new (h : Array Obj) (o : Obj) : (h.push o)[h.size]? = some o:=by
 rw [Array.getElem?_push,if_pos rfl]

theorem le_new (o : Obj) {fr : Nat} (hfr : st.σ fr = none) (a : Ent) {w' : World} (hh : w'.heap = w.heap.push o) :
  Env.Le (g.env m st w) (g.env (upd m fr (some w.heap.size)) { st with σ:=upd st.σ fr (some a) } w'):=by
 refine ⟨fun b hb=>⟨?_,?_⟩,fun id a' ha=>?_,fun id E s rows fz b cur ha hb hc=>.inr ⟨cur,?_,rfl⟩⟩
 ·refine okOf_mono hb (by rw [hh];simp) fun id e he hmut hm=>?_
  simp only [upd_apply] at he hm
  split at he
  ·rename_i h;subst h;simp at hm;have:=hb.2.1;omega
  ·rename_i h;simp only [h,if_false] at hm;exact ⟨e,he,hmut,hm⟩
 ·show w'.heap[b]? = _;rw [hh];exact push_old _ _ hb.2.1
 ·refine ⟨a',?_,EntLe.refl _,fun _=>?_⟩
  ·show upd st.σ fr (some a) id = _
   rw [upd_apply,if_neg (by rintro rfl;have : st.σ id = some a':=ha;rw [hfr] at this;cases this)];exact ha
  ·show upd m fr _ id = m id
   rw [upd_apply,if_neg (by rintro rfl;have : st.σ id = some a':=ha;rw [hfr] at this;cases this)]
 ·have hc' : w.heap[b]? = some (.cells cur E (0,0)):=hc
  show w'.heap[b]? = _;rw [hh,push_old _ _ (heap_lt hc')];exact hc'

theorem R.new (hR : R g m st tmps w) (o : Obj) {fr : Nat} (hfr : st.σ fr = none) {a : Ent} {w' : World} (hh : w'.heap = w.heap.push o) (h1 : w'.os = w.os) (h2 : w'.tape = w.tape) (h3 : w'.output = w.output)
  (hent : REnt (g.env (upd m fr (some w.heap.size)) { st with σ:=upd st.σ fr (some a) } w') (some w.heap.size) a) :
  R g (upd m fr (some w.heap.size)) { st with σ:=upd st.σ fr (some a) } tmps w':=by
 have hle:=le_new (g:=g) (m:=m) o hfr a hh
 have hB : g.B≤w.heap.size:=hR.frame.size
 refine hR.next (hR.frame.step h1 h2 h3 (by rw [hh];simp) fun k hk _=>by rw [hh];exact push_old _ _ (Nat.lt_of_lt_of_le hk hB)) hle ?_ ?_ ?_
 ·intro id e he
  simp only [upd_apply] at he ⊢
  split at he
  ·rename_i h;cases he;simpa [h] using hent
  ·rename_i h;simp only [h,if_false]
   exact REnt.le hle (hR.ent id e he) fun hg b hb=>by show w'.heap[b]? = _;rw [hh];exact push_old _ _ (hR.place id e b he hg hb).1
 ·intro id e b he hg hb
  simp only [upd_apply] at he hb
  rw [hh,Array.size_push]
  split at he
  ·rename_i h;simp only [h,if_true,Option.some.injEq] at hb;subst hb;exact ⟨by omega,.inl hB⟩
  ·rename_i h;simp only [h,if_false] at hb;have:=hR.place id e b he hg hb;exact ⟨by omega,this.2⟩
 ·intro id id' e e' b he he' hm hg hb hb'
  simp only [upd_apply] at he he' hb hb'
  split at he <;> split at he'
  ·simp_all
  ·rename_i h h';simp only [h,if_true,Option.some.injEq] at hb;simp only [h',if_false] at hb';have:=(hR.place id' e' b he' hg hb').1;omega
  ·rename_i h h';simp only [h',if_true,Option.some.injEq] at hb';simp only [h,if_false] at hb;have:=(hR.place id e b he (Ent.mut_ne_gone hm) hb).1;omega
  ·rename_i h h';simp only [h,h',if_false] at hb hb';exact hR.inj id id' e e' b he he' hm hg hb hb'

theorem le_garbage (o : Obj) {w' : World} (hh : w'.heap = w.heap.push o) : Env.Le (g.env m st w) (g.env m st w'):=by
 refine ⟨fun b hb=>⟨?_,?_⟩,fun id a' ha=>⟨a',ha,EntLe.refl _,fun _=>rfl⟩,fun id E s rows fz b cur ha hb hc=>.inr ⟨cur,?_,rfl⟩⟩
 ·exact okOf_mono hb (by rw [hh];simp) fun id e he hmut hm=>⟨e,he,hmut,hm⟩
 ·show w'.heap[b]? = _;rw [hh];exact push_old _ _ hb.2.1
 ·have hc' : w.heap[b]? = some (.cells cur E (0,0)):=hc
  show w'.heap[b]? = _;rw [hh,push_old _ _ (heap_lt hc')];exact hc'

theorem R.garbage (hR : R g m st tmps w) (o : Obj) {w' : World} (hh : w'.heap = w.heap.push o) (h1 : w'.os = w.os) (h2 : w'.tape = w.tape) (h3 : w'.output = w.output) :
  R g m st tmps w'∧(g.env m st w').ok w.heap.size:=by
 have hle:=le_garbage (g:=g) (m:=m) (st:=st) o hh
 have hB : g.B≤w.heap.size:=hR.frame.size
 refine ⟨hR.next (hR.frame.step h1 h2 h3 (by rw [hh];simp) fun k hk _=>by rw [hh];exact push_old _ _ (Nat.lt_of_lt_of_le hk hB)) hle (fun id e he=>?_) (fun id e b he hg hb=>?_) hR.inj,.inr hB,by rw [hh];simp,fun id e he hm hb=>?_⟩
 ·exact REnt.le hle (hR.ent id e he) fun hg b hb=>by show w'.heap[b]? = _;rw [hh];exact push_old _ _ (hR.place id e b he hg hb).1
 ·have:=hR.place id e b he hg hb;rw [hh,Array.size_push];exact ⟨by omega,this.2⟩
 ·have:=(hR.place id e _ he (Ent.mut_ne_gone hm) hb).1;omega

theorem le_write {id b : Nat} {a a' : Ent} (ha : st.σ id = some a) (hm : a.mut = true) (hb : m id = some b) (hle : EntLe a a') {w' : World}
  (hs : w'.heap.size = w.heap.size) (ho : ∀ k,k≠b→w'.heap[k]? = w.heap[k]?)
  (hc : ∀ cur E,w.heap[b]? = some (.cells cur E (0,0))→∃ cur',w'.heap[b]? = some (.cells cur' E (0,0))∧cur'.size = cur.size) :
  Env.Le (g.env m st w) (g.env m { st with σ:=upd st.σ id (some a') } w'):=by
 refine ⟨fun k hk=>⟨?_,?_⟩,fun i x hx=>?_,fun i E s rows fz k cur hi hk hcur=>.inr ?_⟩
 ·refine okOf_mono hk (by omega) fun i e he hmut hmi=>?_
  simp only [upd_apply] at he
  split at he
  ·rename_i h;subst h;exact ⟨a,ha,hm,hmi⟩
  ·exact ⟨e,he,hmut,hmi⟩
 ·exact ho k (by rintro rfl;exact hk.2.2 id a ha hm hb)
 ·by_cases h : i = id
  ·subst h
   have : st.σ i = some x:=hx
   rw [ha] at this;cases this
   exact ⟨a',by show upd _ _ _ _ = _;rw [upd_apply,if_pos rfl],hle,fun _=>rfl⟩
  ·exact ⟨x,by show upd _ _ _ _ = _;rw [upd_apply,if_neg h];exact hx,EntLe.refl _,fun _=>rfl⟩
 ·by_cases h : k = b
  ·subst h;exact hc cur E hcur
  ·exact ⟨cur,(ho k h).trans hcur,rfl⟩

theorem R.write (hR : R g m st tmps w) {id b : Nat} {a a' : Ent} (ha : st.σ id = some a) (hm : a.mut = true) (hb : m id = some b) (hle : EntLe a a') {w' : World}
  (hs : w'.heap.size = w.heap.size) (ho : ∀ k,k≠b→w'.heap[k]? = w.heap[k]?)
  (hc : ∀ cur E,w.heap[b]? = some (.cells cur E (0,0))→∃ cur',w'.heap[b]? = some (.cells cur' E (0,0))∧cur'.size = cur.size)
  (h1 : w'.os = w.os) (h2 : w'.tape = w.tape) (h3 : w'.output = w.output)
  (hent : REnt (g.env m { st with σ:=upd st.σ id (some a') } w') (some b) a') : R g m { st with σ:=upd st.σ id (some a') } tmps w':=by
 have hle':=le_write (g:=g) ha hm hb hle hs ho hc
 have hp:=hR.place id a b ha (Ent.mut_ne_gone hm) hb
 refine hR.next (hR.frame.step h1 h2 h3 (by omega) fun k hk hw=>ho k ?_) hle' ?_ ?_ ?_
 ·rintro rfl
  rcases hp.2 with h | h
  ·exact absurd hk (by unfold Gr.B at h;omega)
  ·exact hw h
 ·intro i e he
  simp only [upd_apply] at he
  split at he
  ·rename_i h;subst h;cases he;rw [hb];exact hent
  ·rename_i h
   exact REnt.le hle' (hR.ent i e he) fun hg k hk=>ho k (by rintro rfl;exact h (hR.inj id i a e k ha he hm hg hb hk).symm)
 ·intro i e k he hg hk
  simp only [upd_apply] at he
  split at he
  ·rename_i h;subst h;rw [hb] at hk;cases hk;rw [hs];exact hp
  ·rw [hs];exact hR.place i e k he hg hk
 ·intro i i' e e' k he he' hme hg hk hk'
  simp only [upd_apply] at he he'
  split at he <;> split at he'
  ·simp_all
  ·rename_i h h';subst h;exact hR.inj _ i' a e' k ha he' hm hg hk hk'
  ·rename_i h h';subst h';exact hR.inj i _ e a k he ha hme (Ent.mut_ne_gone hm) hk hk'
  ·exact hR.inj i i' e e' k he he' hme hg hk hk'

theorem le_freeze {id : Nat} {E : TypeId} {s : Nat} {rows : List (List C)} {fz : Bool} (ha : st.σ id = some (.arr E s rows fz)) :
  Env.Le (g.env m st w) (g.env m { st with σ:=upd st.σ id (some (.arr E s rows true)) } w):=by
 refine ⟨fun k hk=>⟨?_,rfl⟩,fun i x hx=>?_,fun i E s rows fz k cur hi hk hcur=>.inr ⟨cur,hcur,rfl⟩⟩
 ·refine okOf_mono hk (Nat.le_refl _) fun i e he hmut hmi=>?_
  simp only [upd_apply] at he
  split at he
  ·cases he;cases hmut
  ·exact ⟨e,he,hmut,hmi⟩
 ·by_cases h : i = id
  ·subst h
   have : st.σ i = some x:=hx
   rw [ha] at this;cases this
   exact ⟨_,by show upd _ _ _ _ = _;rw [upd_apply,if_pos rfl],(show EntLe (.arr E s rows fz) (.arr E s rows true) from ⟨rfl,rfl,rfl⟩),fun _=>rfl⟩
  ·exact ⟨x,by show upd _ _ _ _ = _;rw [upd_apply,if_neg h];exact hx,EntLe.refl _,fun _=>rfl⟩

theorem R.freeze (hR : R g m st tmps w) {id : Nat} {E : TypeId} {s : Nat} {rows : List (List C)} {fz : Bool} (ha : st.σ id = some (.arr E s rows fz)) :
  R g m { st with σ:=upd st.σ id (some (.arr E s rows true)) } tmps w:=by
 have hle:=le_freeze (g:=g) (m:=m) (w:=w) ha
 refine hR.next hR.frame hle ?_ ?_ ?_
 ·intro i e he
  simp only [upd_apply] at he
  split at he
  ·rename_i h;subst h;cases he;
   have h0 : REnt (g.env m st w) (m i) (.arr E s rows fz):=hR.ent i _ ha
   exact REnt.le hle (a:=.arr E s rows true) h0 fun _ _ _=>rfl
  ·exact REnt.le hle (hR.ent i e he) fun _ _ _=>rfl
 ·intro i e k he hg hk
  simp only [upd_apply] at he
  split at he
  ·rename_i h;subst h;exact hR.place i _ k ha (by simp) hk
  ·exact hR.place i e k he hg hk
 ·intro i i' e e' k he he' hme hg hk hk'
  simp only [upd_apply] at he he'
  split at he
  ·cases he;cases hme
  ·split at he'
   ·rename_i h h';subst h';exact hR.inj i _ e _ k he ha hme (by simp) hk hk'
   ·exact hR.inj i i' e e' k he he' hme hg hk hk'

end
end Go.Abs

namespace Go.Abs
open Go

def ofV : Value→Option SV
 | .agg cs=>if cs.all one then some (.agg (cs.toList.map .v)) else none
 | .tuple _=>none
 | x=>some (.c (.v x))

def cx : Operand→Option AX
 | .tmp t=>some (.t t)
 | .const v=>(ofV v).map .k
 | .func f=>some (.k (.c (.fn f [])))
 | .global _=>none

def cxs : List Operand→Option (List AX)
 | []=>some []
 | x :: xs=>match cx x,cxs xs with
  | some y,some ys=>some (y :: ys)
  | _,_=>none

def cxo : Option Operand→Option (Option AX)
 | none=>some none
 | some x=>(cx x).map some

def czero (P : Program) (E : TypeId) : Option (List C × Nat × Nat) :=
 match P.info? E with
 | some i=>match i.zero with
  | some z=>if z.cells.all one && z.cells.size == i.size then some (z.cells.toList.map .v,i.size,i.bytes) else none
  | none=>none
 | none=>none

def isAggD : TypeDesc→Bool
 | .struct _ | .array _ _=>true
 | _=>false

def isSrcD : TypeDesc→Bool
 | .slice _ | .string=>true
 | _=>false

def isIntD : TypeDesc→Bool
 | .int _=>true
 | _=>false

def isBoolD : TypeDesc→Bool
 | .bool=>true
 | _=>false

def okFunc (P : Program) (f : FuncId) : Bool :=
 match P.funcs[f]? with
 | some fn=>fn.body.isSome && fn.name != "runtime.NumGoroutine"
 | none=>false

def cparts (s : Nat) : Nat→List (Nat × Operand)→Option (List AX)
 | _,[]=>some []
 | n,(i,x) :: r=>if i = n then (match cx x,cparts s (n + 1) r with
  | some y,some ys=>some (y :: ys)
  | _,_=>none) else none

def cbld (place : Nat→Option (Nat × Nat)) : List (Nat × Operand)→Option (List (Nat × Nat × AX))
 | []=>some []
 | (i,x) :: r=>match place i,cx x,cbld place r with
  | some (off,k),some y,some ys=>some ((off,k,y) :: ys)
  | _,_,_=>none

def zshape (P : Program) (V : TypeId) (b : Bool) : Bool :=
 match P.info? V with
 | some i=>match i.zero with
  | some (.agg _)=>b
  | some z=>!b && one z
  | none=>false
 | none=>false

def ccall (P : Program) (c : Call) : Option AOp :=
 match c.callee with
 | .value (.func f)=>if okFunc P f then (cxs c.args.toList).map (.call f) else none
 | .value (.tmp t)=>(cxs c.args.toList).map (.callv (.t t))
 | .builtin .len=>match c.args.toList,c.argTypes.toList with
  | [x],[T]=>match P.underlying T with
   | some .string=>(cx x).map .lenS
   | some (.slice _)=>(cx x).map .len
   | some (.map _ _)=>(cx x).map .lenM
   | _=>none
  | _,_=>none
 | .builtin .append=>match c.args.toList,c.argTypes.toList with
  | [x,y],[T,U]=>match P.underlying T,P.underlying U,cx x,cx y with
   | some (.slice E),some d,some x,some y=>if isSrcD d then match czero P E with
    | some (_,s,bytes)=>if 0 < s∧0 < bytes then some (.app E s bytes x y) else none
    | none=>none
    else if isIntD d then match czero P E with
    | some (z,s,bytes)=>if 0 < s∧0 < bytes then some (.appZ E s bytes z x y) else none
    | none=>none
    else none
   | _,_,_,_=>none
  | _,_=>none
 | .builtin .cap=>match c.args.toList,c.argTypes.toList with
  | [x],[T]=>match P.underlying T with
   | some (.slice _)=>(cx x).map .capN
   | _=>none
  | _,_=>none
 | .builtin .clear=>match c.args.toList,c.argTypes.toList with
  | [x],[T]=>match P.underlying T,cx x with
   | some (.slice E),some x=>match czero P E with
    | some (z,s,_)=>if 0 < s then some (.clr s z x) else none
    | none=>none
   | _,_=>none
  | _,_=>none
 | .builtin .max=>match cxs c.args.toList with
  | some (x :: xs)=>some (.mx true x xs)
  | _=>none
 | .builtin .min=>match cxs c.args.toList with
  | some (x :: xs)=>some (.mx false x xs)
  | _=>none
 | _=>none

def comp (P : Program) (o : Op) : Option AOp :=
 match o with
 | .move x | .assign x=>(cx x).map .mv
 | .pick c a b=>match cx c,cx a,cx b with
  | some c,some a,some b=>some (.pick c a b)
  | _,_,_=>none
 | .alloc E=>(czero P E).map fun z=>.alloc z.1
 | .box _ x=>(cx x).map .box
 | .load T x=>match P.underlying T,P.info? T,cx x with
  | some d,some i,some x=>if isAggD d then some (.ldn i.size x) else some (.ld1 x)
  | _,_,_=>none
 | .store T a v=>match P.info? T,cx a,cx v with
  | some i,some a,some v=>some (.st i.size a v)
  | _,_,_=>none
 | .binOp op T x y _=>match op,y,P.underlying T,cx x,cx y with
  | .eql,.const (.pointer none),some (.pointer _),some x,_=>some (.cmpP false x)
  | .neq,.const (.pointer none),some (.pointer _),some x,_=>some (.cmpP true x)
  | .eql,.const (.slice none 0 0),some (.slice _),some x,_=>some (.cmpS false x)
  | .neq,.const (.slice none 0 0),some (.slice _),some x,_=>some (.cmpS true x)
  | op,_,some d,some x,some y=>some (.bin op (isBoolD d) x y)
  | _,_,_,_,_=>none
 | .unOp op _ x=>(cx x).map (.un op)
 | .convert S T x=>match P.underlying S,P.underlying T,cx x with
  | some _,some (.int k),some x=>some (.cvI k x)
  | some (.slice E),some .string,some x=>match P.underlying E with
   | some (.int .u8)=>some (.b2s x)
   | _=>none
  | some .string,some (.slice E),some x=>match P.underlying E with
   | some (.int .u8)=>some (.s2b x)
   | _=>none
  | some (.slice _),some (.slice E),some x=>match S == T,P.underlying E with
   | true,some (.int .u8)=>some (.cvB x)
   | _,_=>none
  | _,_,_=>none
 | .fieldAddr S x f=>match P.underlying S,cx x with
  | some (.struct fs),some x=>match fs[f]? with
   | some fd=>match P.info? fd.type with
    | some i=>if i.size = 0 then none else some (.fa fd.offset x)
    | none=>none
   | none=>none
  | _,_=>none
 | .indexAddr T x i=>match P.underlying T,cx x,cx i with
  | some (.slice E),some x,some i=>(P.info? E).map fun inf=>.ia inf.size x i
  | some (.array len E),some x,some (.k (.c (.v (.int _ n))))=>match P.info? E with
   | some inf=>if 0≤n∧n < len then some (.fa (n.toNat * inf.size) x) else none
   | none=>none
  | _,_,_=>none
 | .index T x i=>match P.underlying T,cx x,cx i with
  | some .string,some x,some i=>some (.idxS x i)
  | _,_,_=>none
 | .slice T x lo hi mx=>match mx,P.underlying T,cx x,cxo lo,cxo hi with
  | none,some (.slice E),some x,some lo,some hi=>(P.info? E).map fun i=>.slc i.size x lo hi
  | none,some .string,some x,some lo,some hi=>some (.slcS x lo hi)
  | some mx,some (.slice E),some x,some lo,some hi=>match cx mx with
   | some mx=>(P.info? E).map fun i=>.slc3 i.size x lo hi mx
   | none=>none
  | _,_,_,_,_=>none
 | .makeSlice T n c=>match P.underlying T,cx n,cx c with
  | some (.slice E),some n,some c=>match czero P E with
   | some (z,s,bytes)=>if 0 < s∧0 < bytes then some (.mkS E s z bytes n c) else none
   | none=>none
  | _,_,_=>none
 | .buildSlice T n parts=>match P.underlying T,cparts 0 0 parts.toList with
  | some (.slice E),some ps=>match czero P E with
   | some (_,s,_)=>if 0 < s∧parts.size = n∧n * s≤16777216 then some (.bS E s ps) else none
   | none=>none
  | _,_=>none
 | .build T parts=>match P.underlying T,czero P T with
  | some (.struct fs),some (z,_,_)=>match fs.toList.mapM (fun f=>(P.info? f.type).map fun i=>(f.offset,i.size)) with
   | some pl=>(cbld (pl.toArray[·]?) parts.toList).map (.bld z)
   | none=>none
  | some (.array _ E),some (z,_,_)=>match P.info? E with
   | some ie=>(cbld (fun i=>some (i * ie.size,ie.size)) parts.toList).map (.bld z)
   | none=>none
  | _,_=>none
 | .field T x f=>match P.underlying T,cx x with
  | some (.struct fs),some x=>match fs[f]? with
   | some fd=>match P.underlying fd.type,P.info? fd.type with
    | some d,some i=>if isAggD d then some (.fldn fd.offset i.size x) else some (.fld1 fd.offset x)
    | _,_=>none
   | none=>none
  | _,_=>none
 | .extract x i=>(cx x).map (.ext i)
 | .makeFunc (.func f) first caps=>if first.isEmpty then (cxs caps.toList).map (.mkF f) else none
 | .makeMap T r=>match r,P.underlying T with
  | none,some (.map _ V)=>(P.underlying V).map fun d=>.mkM (isAggD d)
  | _,_=>none
 | .lookup T x k ok=>match P.underlying T,cx x,cx k with
  | some (.map K V),some x,some k=>match P.underlying K,P.underlying V,czero P V with
   | some (.int _),some d,some (z,_,_)=>if zshape P V (isAggD d) then some (.lkp z (isAggD d) ok x k) else none
   | _,_,_=>none
  | _,_,_=>none
 | .mapUpdate T x k v=>match P.underlying T,cx x,cx k,cx v with
  | some (.map K V),some x,some k,some v=>match P.underlying K with
   | some (.int _)=>(P.underlying V).map fun d=>.mup (isAggD d) x k v
   | _=>none
  | _,_,_,_=>none
 | .nilCheck x=>(cx x).map .nilC
 | .range T x=>match P.underlying T with
  | some .string=>(cx x).map .rgS
  | _=>none
 | .next x true=>(cx x).map .nxS
 | .call c=>ccall P c
 | _=>none

end Go.Abs

namespace Go.Abs
open Go

section
variable {e : Env}

theorem RD.rc {c : C} {v : Value} (h : RD e.h e.ok c v) : RC e c v:=by
 cases h with
 | v _ hx=>exact RD.v _ hx
 | nil=>exact RD.nil
 | emp a cap=>exact RD.emp a cap
 | sl rows s b off cap f h1 h2 h3 h4 h5=>exact RD.sl rows s b off cap f h1 h2 h3 h4 h5

theorem RC.rd {c : C} {v : Value} (h : RC e c v) (hc : c.isD = true) : RD e.h e.ok c v:=by
 cases c <;> first | exact h | cases hc

theorem RC.one {c : C} {v : Value} (h : RC e c v) : one v = true:=by
 cases c with
 | v x=>exact RD.one (show RD e.h e.ok (.v x) v from h)
 | sl rows=>exact RD.one (show RD e.h e.ok (.sl rows) v from h)
 | osl id =>
  obtain ⟨a,_,h⟩:=h
  cases a with
  | gone=>exact h
  | arr E s rows fz =>
   simp only at h
   split at h
   ·subst h;rfl
   ·obtain ⟨_,_,_,_,rfl⟩:=h;rfl
  | _=>exact h.elim
 | bp id off=>obtain ⟨_,_,_,_,rfl⟩:=h;rfl
 | ep id i off =>
  obtain ⟨a,_,h⟩:=h
  cases a with
  | gone=>exact h
  | arr E s rows fz=>obtain ⟨_,_,rfl⟩:=h;rfl
  | _=>exact h.elim
 | ow id lo n =>
  obtain ⟨a,_,h⟩:=h
  cases a with
  | gone=>exact h
  | arr E s rows fz=>obtain ⟨_,_,_,_,_,_,_,rfl,_⟩:=h;rfl
  | _=>exact h.elim
 | rp cs=>obtain ⟨_,_,_,rfl,_⟩:=h;rfl
 | fn f caps=>obtain ⟨_,rfl,_⟩:=h;rfl
 | mp id=>obtain ⟨_,_,_,_,_,rfl⟩:=h;rfl
 | it id=>obtain ⟨_,_,_,_,_,rfl⟩:=h;rfl

theorem one_cells {v : Value} (h : one v = true) : v.cells = #[v]:=by
 cases v <;> first | rfl | cases h

theorem one_oneCell {v : Value} (h : one v = true) : v.oneCell' = true:=by
 cases v <;> first | rfl | cases h

theorem RSV.core {v : Value} : ∀ {s : SV},RSV e s v→s.pre→RSV e s.core v
 | .dead,h,_=>h
 | .c _,h,_=>h
 | .agg _,h,_=>h
 | .tup _,h,_=>h
 | .opt _ x,h,hp=>RSV.core (s:=x) (h.1 hp.1) hp.2

theorem RSV.one {v : Value} : ∀ {s : SV} {c : C},RSV e s v→s.pre→s.one? = some c→RC e c v
 | .dead,_,_,_,h1=>by cases h1
 | .c x,c,h,_,h1=>by cases h1;exact h
 | .agg _,_,_,_,h1=>by cases h1
 | .tup _,_,_,_,h1=>by cases h1
 | .opt _ x,c,h,hp,h1=>RSV.one (s:=x) (h.1 hp.1) hp.2 h1

theorem RSV.cells {v : Value} : ∀ {s : SV} {cs : List C},RSV e s v→s.pre→s.cells = some cs→RL (RC e) cs v.cells.toList
 | .dead,_,_,_,h1=>by cases h1
 | .c x,cs,h,_,h1=>by
  cases h1
  have h' : RC e x v:=h
  rw [one_cells h'.one]
  exact RL.cons h' RL.nil
 | .agg _,cs,h,_,h1=>by
  cases h1
  obtain ⟨vs,rfl,h⟩:=h
  exact h
 | .tup _,_,_,_,h1=>by cases h1
 | .opt _ x,c,h,hp,h1=>RSV.cells (s:=x) (h.1 hp.1) hp.2 h1

theorem RSV_ofV {x : Value} {s : SV} (h : ofV x = some s) : RSV e s x:=by
 unfold ofV at h
 split at h
 ·rename_i cs
  split at h
  ·rename_i ha
   cases h
   refine ⟨cs,rfl,by simp,fun j a b h1 h2=>?_⟩
   simp only [List.getElem?_map] at h1
   rw [h2] at h1
   cases h1
   have : Abs.one b = true:=by
    rw [Array.all_eq_true_iff_forall_mem] at ha
    exact ha b (Array.mem_toList_iff.1 (List.mem_of_getElem? h2))
   exact RD.v b this
  ·cases h
 ·cases h
 ·rename_i h1 h2
  cases h
  have : Abs.one x = true:=by cases x <;> simp_all [Abs.one]
  exact RD.v x this

def PtrAt (e : Env) (v : Value) (cs : List C) : Prop :=
 ∃ b off,v = .pointer (some ⟨b,off,none⟩)∧∀ (j : Nat) (c : C),cs[j]? = some c→∃ x,cellAt e.h b (off + j) = some x∧RC e c x

theorem PtrAt.take {v : Value} {cs : List C} (h : PtrAt e v cs) (k : Nat) : PtrAt e v (cs.take k):=by
 obtain ⟨b,off,rfl,h⟩:=h
 exact ⟨b,off,rfl,fun j c hj=>by
  rw [List.getElem?_take] at hj
  split at hj
  ·exact h j c hj
  ·cases hj⟩

theorem ptr_rp {v : Value} {cs : List C} (h : RC e (.rp cs) v) : PtrAt e v cs:=by
 obtain ⟨b,off,_,rfl,h⟩:=h
 exact ⟨b,off,rfl,fun j c hj=>by obtain ⟨x,hx,hr⟩:=h j c hj;exact ⟨x,hx,hr.rc⟩⟩

theorem cellAt_of {h : Array Obj} {b : Nat} {cur : Array Value} {T : TypeId} {fr : Nat × Nat} (hb : h[b]? = some (.cells cur T fr)) (o : Nat) : cellAt h b o = cur[o]?:=by
 simp [cellAt,hb]

theorem ptr_bp {v : Value} {id off : Nat} {cs : List C} (h : RC e (.bp id off) v) (he : REnt e (e.m id) (.box cs)) : PtrAt e v (cs.drop off):=by
 obtain ⟨cs',b,h1,h2,rfl⟩:=h
 obtain ⟨b',cur,T,h3,h4,h5⟩:=he
 rw [h2] at h3;cases h3
 refine ⟨b,off,rfl,fun j c hj=>?_⟩
 obtain ⟨x,hx,hr⟩:=h5.get (j:=off + j) (x:=c) (by simpa using hj)
 exact ⟨x,by rw [cellAt_of h4];simpa using hx,hr⟩

theorem ptr_ep {v : Value} {id i off : Nat} {E : TypeId} {s : Nat} {rows : List (List C)} {fz : Bool} (h : RC e (.ep id i off) v) (hs : e.σ id = some (.arr E s rows fz))
  (he : REnt e (e.m id) (.arr E s rows fz)) (hi : i < rows.length) : PtrAt e v ((rows[i]?.getD []).drop off):=by
 obtain ⟨a,h1,h2⟩:=h
 rw [hs] at h1;cases h1
 obtain ⟨b,hb,rfl⟩:=h2
 obtain ⟨h3,h4,h5⟩:=he
 rcases h5 with ⟨h5,_⟩ | ⟨b',cur,cap,h6,h7,h8,h9,h10,h11⟩
 ·rw [hb] at h5;cases h5
 ·rw [hb] at h6;cases h6
  refine ⟨b,i * s + off,rfl,fun j c hj=>?_⟩
  have hr : rows[i]? = some rows[i]:=List.getElem?_eq_getElem hi
  rw [hr] at hj
  obtain ⟨x,hx,hx'⟩:=h11 i rows[i] (off + j) c hr (by simpa using hj)
  exact ⟨x,by rw [cellAt_of h7];rw [Nat.add_assoc];exact hx,hx'⟩

end

section
variable {P : Program} {w : World}

theorem addr_add (b off j : Nat) : (⟨b,off,none⟩ : Addr).add j = ⟨b,off + j,none⟩:=by
 unfold Addr.add;split <;> simp_all

theorem run_isAgg {T : TypeId} {d : TypeDesc} (h : P.underlying T = some d) : (isAgg T).run P w = .ok (isAggD d) w:=by
 unfold isAgg
 rw [Sem.run_bind,run_underlying h w]
 cases d <;> rfl

theorem run_ld1 {e : Env} (he : e.h = w.heap) {T : TypeId} {d : TypeDesc} (hu : P.underlying T = some d) (hd : isAggD d = false) {v : Value} {c : C} {cs : List C} (hp : PtrAt e v (c :: cs)) :
  ∃ x,(Instr.loadAt T v).run P w = .ok x w∧RC e c x:=by
 obtain ⟨b,off,rfl,h⟩:=hp
 obtain ⟨x,hx,hr⟩:=h 0 c rfl
 refine ⟨x,?_,hr⟩
 have hc : w.cell? ⟨b,off,none⟩ = some x:=by rw [cell?_eq,← he];exact hx
 simp [Instr.loadAt,Instr.sureAddr,loadVar,run_isAgg hu,hd,hc]

theorem run_ldn {e : Env} (he : e.h = w.heap) {T : TypeId} {d : TypeDesc} {i : TypeInfo} (hu : P.underlying T = some d) (hd : isAggD d = true) (hi : P.info? T = some i) {v : Value} {cs : List C} (hp : PtrAt e v cs)
  (hk : cs.length = i.size) : ∃ vs : Array Value,(Instr.loadAt T v).run P w = .ok (.agg vs) w∧RL (RC e) cs vs.toList:=by
 obtain ⟨b,off,rfl,h⟩:=hp
 have hex : ∀ j,j < i.size→∃ x,cellAt e.h b (off + j) = some x:=fun j hj=>by
  obtain ⟨x,hx,_⟩:=h j cs[j] (List.getElem?_eq_getElem (by omega));exact ⟨x,hx⟩
 let f : Nat→Value:=fun j=>(cellAt e.h b (off + j)).getD undef
 have hf : ∀ j,j < i.size→w.cell? ((⟨b,off,none⟩ : Addr).add j) = some (f j):=fun j hj=>by
  obtain ⟨x,hx⟩:=hex j hj
  rw [addr_add,cell?_eq,← he,hx]
  simp [f,hx]
 have hl:=run_loadCells (P:=P) w ⟨b,off,none⟩ i.size f hf
 refine ⟨((List.range i.size).map f).toArray,?_,?_⟩
 ·simp only [Instr.loadAt,Instr.sureAddr,loadVar,Sem.run_bind,Sem.run_pure,Result.andThen_ok,run_isAgg hu,hd,if_true]
  simp [sizeOf,typeInfo,hi,hl]
 ·refine RL.map_right (by simp [hk]) fun j c hj=>?_
  obtain ⟨x,hx,hr⟩:=h j c hj
  have hjl : j < i.size:=by
   rcases Nat.lt_or_ge j cs.length with h' | h'
   ·omega
   ·simp [List.getElem?_eq_none h'] at hj
  exact ⟨x,by simp [hjl,f,hx],hr⟩

end
end Go.Abs

namespace Go.Abs
open Go

def updσ (σ : Nat→Option Ent) : List (Nat × Ent)→Nat→Option Ent
 | []=>σ
 | p :: r=>updσ (upd σ p.1 (some p.2)) r

def nextV : Next→Option Value
 | .value v=>some v
 | .skip=>some undef
 | _=>none

def Out (P : Program) (g : Gr) (st : St) (tmps : Array Value) (w : World) (sem : Sem Next) (sv : SV) (ups : List (Nat × Ent)) : Prop :=
 ∃ n v m' w',sem.run P w = .ok n w'∧nextV n = some v∧R g m' { st with σ:=updσ st.σ ups } tmps w'∧RSV (g.env m' { st with σ:=updσ st.σ ups } w') sv v

section
variable {P : Program} {g : Gr} {m : Nat→Option Nat} {st : St} {tmps : Array Value} {w : World}

theorem Out.quiet (hR : R g m st tmps w) {sem : Sem Value} {v : Value} (hr : sem.run P w = .ok v w) {sv : SV} (hv : RSV (g.env m st w) sv v) :
  Out P g st tmps w (do pure (.value (← sem))) sv [] :=
 ⟨.value v,v,m,w,by simp [hr],rfl,hR,hv⟩

theorem Out.quiet' (hR : R g m st tmps w) {v : Value} {sv : SV} (hv : RSV (g.env m st w) sv v) : Out P g st tmps w (pure (.value v)) sv [] :=
 ⟨.value v,v,m,w,rfl,rfl,hR,hv⟩

theorem range_get {α : Type} (cur ys : List α) (o n : Nat) (h : o + ys.length≤cur.length) :
  (cur.take o ++ ys ++ cur.drop (o + ys.length))[n]? = if n < o then cur[n]? else if n < o + ys.length then ys[n - o]? else cur[n]?:=by
 rw [List.append_assoc,List.getElem?_append]
 have hl : (cur.take o).length = o:=by simp;omega
 rw [hl]
 split
 ·rw [List.getElem?_take,if_pos (by assumption)]
 ·rw [List.getElem?_append]
  split
  ·rw [if_pos (by omega)]
  ·rw [if_neg (by omega),List.getElem?_drop]
   congr 1
   omega

theorem run_st {b off : Nat} {cur : Array Value} {T ty : TypeId} {i : TypeInfo} {v : Value} (hg : w.heap[b]? = some (.cells cur T (0,0))) (hi : P.info? ty = some i) (hk : v.cells.size = i.size)
  (h1 : ∀ u ∈ v.cells.toList,u.oneCell' = true) (hfit : off + i.size≤cur.size) :
  (Instr.storeAt ty (.pointer (some ⟨b,off,none⟩)) v).run P w = .ok () (w.setRow b (cur.toList.take off ++ v.cells.toList ++ cur.toList.drop (off + v.cells.toList.length)).toArray):=by
 have hst:=run_storeCells_at P b off T v.cells.toList 0 cur w hg (by simp;omega) h1
 simp only [Nat.add_zero] at hst
 simp only [Instr.storeAt,Instr.sureAddr,storeVar,Sem.run_bind,Sem.run_pure,Result.andThen_ok]
 simp [sizeOf,typeInfo,hi,hk,hst]

theorem RL.oneCell {e : Env} {cs : List C} {vs : List Value} (h : RL (RC e) cs vs) : ∀ u ∈ vs,u.oneCell' = true:=by
 intro u hu
 obtain ⟨j,hj,rfl⟩:=List.mem_iff_getElem.1 hu
 have hjc : j < cs.length:=h.1 ▸ hj
 exact one_oneCell (h.2 j cs[j] vs[j] (List.getElem?_eq_getElem hjc) (List.getElem?_eq_getElem hj)).one

theorem out_st_box (hR : R g m st tmps w) {ty : TypeId} {i : TypeInfo} (hi : P.info? ty = some i) {id off : Nat} {cs ys : List C} {va vx : Value} (hs : st.σ id = some (.box cs))
  (ha : RC (g.env m st w) (.bp id off) va) (hy : RL (RC (g.env m st w)) ys vx.cells.toList) (hk : ys.length = i.size) (hfit : off + i.size≤cs.length) :
  Out P g st tmps w (do Instr.storeAt ty va vx;pure .skip) .dead [(id,.box (splice cs off ys))]:=by
 obtain ⟨cs',b,h1,hb,rfl⟩:=ha
 have hm : m id = some b:=hb
 have hE:=hR.ent id _ hs
 rw [hm] at hE
 obtain ⟨b',cur,T,h2,h3,h4⟩:=hE
 cases h2
 have h3' : w.heap[b]? = some (.cells cur T (0,0)):=h3
 have hl : vx.cells.toList.length = i.size:=by rw [← hy.1];exact hk
 have hcl : cs.length = cur.size:=by simpa using h4.1
 have hrun:=run_st (P:=P) (v:=vx) (off:=off) h3' hi (by simpa using hl) hy.oneCell (by omega)
 have hR':=hR.write (a':=.box (splice cs off ys)) hs rfl hm trivial (w':=w.setRow b (cur.toList.take off ++ vx.cells.toList ++ cur.toList.drop (off + vx.cells.toList.length)).toArray)
  (by simp [World.setRow]) (fun k hk=>setRow_other w b k _ hk) (fun c E hc=>by
   rw [h3'] at hc;cases hc
   exact ⟨_,setRow_heap w b cur _ T _ h3',by simp;simp at hl;omega⟩) rfl rfl rfl ?_
 ·exact ⟨.skip,undef,m,_,by simp [hrun],rfl,hR',trivial⟩
 ·have hle:=le_write (g:=g) (a':=.box (splice cs off ys)) hs rfl hm trivial (w':=w.setRow b (cur.toList.take off ++ vx.cells.toList ++ cur.toList.drop (off + vx.cells.toList.length)).toArray)
   (by simp [World.setRow]) (fun k hk=>setRow_other w b k _ hk) (fun c E hc=>by
    rw [h3'] at hc;cases hc
    exact ⟨_,setRow_heap w b cur _ T _ h3',by simp;simp at hl;omega⟩)
  refine ⟨b,_,T,rfl,setRow_heap w b cur _ T _ h3',?_⟩
  have hy':=hy.imp (fun x y _ h=>RC.le hle h)
  have h4':=h4.imp (fun x y _ h=>RC.le hle h)
  have hsp : splice cs off ys = cs.take off ++ ys ++ cs.drop (off + vx.cells.toList.length):=by unfold splice;rw [hy.1]
  refine (fun zs (hz : zs = _)=>by rw [hz];exact ((h4'.take off).append hy').append (h4'.drop (off + vx.cells.toList.length)) : ∀ zs,zs = cs.take off ++ ys ++ cs.drop (off + vx.cells.toList.length)→RL (RC _) zs _) _ hsp

theorem mul_lt_row {i' i s j : Nat} (h : i' < i) (hj : j < s) : i' * s + j < i * s:=by
 have : (i' + 1) * s≤i * s:=Nat.mul_le_mul_right s h
 rw [Nat.add_mul] at this
 omega

theorem out_st_arr (hR : R g m st tmps w) {ty : TypeId} {i : TypeInfo} (hi : P.info? ty = some i) {id n off : Nat} {E : TypeId} {s : Nat} {rows : List (List C)} {ys : List C} {va vx : Value} (hs : st.σ id = some (.arr E s rows false))
  (ha : RC (g.env m st w) (.ep id n off) va) (hy : RL (RC (g.env m st w)) ys vx.cells.toList) (hk : ys.length = i.size) (hn : n < rows.length) (hfit : off + i.size≤s) :
  Out P g st tmps w (do Instr.storeAt ty va vx;pure .skip) .dead [(id,.arr E s (rows.set n (splice (rows[n]?.getD []) off ys)) false)]:=by
 obtain ⟨a,h1,h2⟩:=ha
 have h1' : st.σ id = some a:=h1
 rw [hs] at h1';cases h1'
 obtain ⟨b,hb,rfl⟩:=h2
 have hm : m id = some b:=hb
 have hE:=hR.ent id _ hs
 rw [hm] at hE
 obtain ⟨hs0,hrl,hE⟩:=hE
 rcases hE with ⟨h,_⟩ | ⟨b',cur,cap,h2,h3,h4,h5,h6,h7⟩
 ·cases h
 cases h2
 have h3' : w.heap[b]? = some (.cells cur E (0,0)):=h3
 have hl : vx.cells.toList.length = i.size:=by rw [← hy.1];exact hk
 have hrn : rows[n]? = some rows[n]:=List.getElem?_eq_getElem hn
 have hrnl : rows[n].length = s:=hrl _ (List.getElem_mem hn)
 have hnc : n * s + s≤cur.size:=by
  rw [h4]
  have : (n + 1) * s≤cap * s:=Nat.mul_le_mul_right s (by omega)
  rw [Nat.add_mul] at this;omega
 have hrun:=run_st (P:=P) (v:=vx) (off:=n * s + off) h3' hi (by simpa using hl) hy.oneCell (by omega)
 have hEL : EntLe (.arr E s rows false) (.arr E s (rows.set n (splice (rows[n]?.getD []) off ys)) false):=⟨rfl,rfl,by simp⟩
 have hspl : (splice (rows[n]?.getD []) off ys).length = s:=by rw [hrn];simp [splice];omega
 have hR':=hR.write (a':=.arr E s (rows.set n (splice (rows[n]?.getD []) off ys)) false) hs rfl hm hEL (w':=w.setRow b (cur.toList.take (n * s + off) ++ vx.cells.toList ++ cur.toList.drop (n * s + off + vx.cells.toList.length)).toArray)
  (by simp [World.setRow]) (fun k hk=>setRow_other w b k _ hk) (fun c E hc=>by
   rw [h3'] at hc;cases hc
   exact ⟨_,setRow_heap w b cur _ _ _ h3',by simp;simp at hl;omega⟩) rfl rfl rfl ?_
 ·exact ⟨.skip,undef,m,_,by simp [hrun],rfl,hR',trivial⟩
 ·have hle:=le_write (g:=g) (a':=.arr E s (rows.set n (splice (rows[n]?.getD []) off ys)) false) hs rfl hm hEL (w':=w.setRow b (cur.toList.take (n * s + off) ++ vx.cells.toList ++ cur.toList.drop (n * s + off + vx.cells.toList.length)).toArray)
   (by simp [World.setRow]) (fun k hk=>setRow_other w b k _ hk) (fun c E hc=>by
    rw [h3'] at hc;cases hc
    exact ⟨_,setRow_heap w b cur _ _ _ h3',by simp;simp at hl;omega⟩)
  refine ⟨hs0,fun r hr=>?_,.inr ⟨b,_,cap,rfl,setRow_heap w b cur _ _ _ h3',?_,by simpa using h5,h6,fun i' r j c hr hj=>?_⟩⟩
  ·rcases List.mem_or_eq_of_mem_set hr with h | h
   ·exact hrl r h
   ·rw [h];exact hspl
  ·rw [← h4];simp;simp at hl;omega
  ·have hjs : j < s:=by
    have hmem:=List.mem_of_getElem? hr
    have : r.length = s:=by
     rcases List.mem_or_eq_of_mem_set hmem with h | h
     ·exact hrl r h
     ·rw [h];exact hspl
    rcases Nat.lt_or_ge j r.length with h | h
    ·omega
    ·simp [List.getElem?_eq_none h] at hj
   have hlist : ∀ k,(cur.toList.take (n * s + off) ++ vx.cells.toList ++ cur.toList.drop (n * s + off + vx.cells.toList.length)).toArray[k]? =
     if k < n * s + off then cur[k]? else if k < n * s + off + i.size then vx.cells.toList[k - (n * s + off)]? else cur[k]?:=fun k=>by
    have:=range_get cur.toList vx.cells.toList (n * s + off) k (by simp;simp at hl;omega)
    rw [hl] at this
    simpa [hl] using this
   rw [hlist]
   rw [List.getElem?_set] at hr
   split at hr
   ·rename_i hni
    subst hni
    simp only [Option.some.injEq] at hr
    subst hr
    rw [hrn] at hj
    simp only [Option.getD_some] at hj
    unfold splice at hj
    rw [range_get _ _ _ _ (by omega)] at hj
    split at hj
    ·rw [if_pos (by omega)]
     obtain ⟨x,hx,hxr⟩:=h7 n rows[n] j c hrn hj
     exact ⟨x,hx,RC.le hle hxr⟩
    ·rw [if_neg (by omega)]
     split at hj
     ·rw [if_pos (by omega)]
      obtain ⟨x,hx,hxr⟩:=hy.get hj
      refine ⟨x,?_,RC.le hle hxr⟩
      rw [show n * s + j - (n * s + off) = j - off by omega];exact hx
     ·rw [if_neg (by omega)]
      obtain ⟨x,hx,hxr⟩:=h7 n rows[n] j c hrn hj
      exact ⟨x,hx,RC.le hle hxr⟩
   ·rename_i hni
    obtain ⟨x,hx,hxr⟩:=h7 i' r j c hr hj
    refine ⟨x,?_,RC.le hle hxr⟩
    rcases Nat.lt_or_ge i' n with h | h
    ·have:=mul_lt_row h hjs
     rw [if_pos (by omega)];exact hx
    ·have:=mul_lt_row (i':=n) (i:=i') (s:=s) (j:=s - 1) (by omega) (by omega)
     rw [if_neg (by omega),if_neg (by omega)];exact hx

theorem out_new (hR : R g m st tmps w) {ty : TypeId} {v : Value} {cs : List C} {fr : Nat} (hfr : st.σ fr = none) (hv : RL (RC (g.env m st w)) cs v.cells.toList) :
  Out P g st tmps w (do pure (.value (← (do pure (.pointer (some (← newVar ty v))) : Sem Value)))) (.c (.bp fr 0)) [(fr,.box cs)]:=by
 have hle:=le_new (g:=g) (m:=m) (st:=st) (w:=w) (.cells v.cells ty) hfr (.box cs) (w':=w.alloc (.cells v.cells ty)) rfl
 have hR':=hR.new (.cells v.cells ty) hfr (a:=.box cs) (w':=w.alloc (.cells v.cells ty)) rfl rfl rfl rfl
  ⟨w.heap.size,v.cells,ty,rfl,push_new _ _,hv.imp fun _ _ _ h=>RC.le hle h⟩
 refine ⟨.value (.pointer (some ⟨w.heap.size,0,none⟩)),_,_,w.alloc (.cells v.cells ty),?_,rfl,hR',⟨cs,w.heap.size,?_,?_,rfl⟩⟩
 ·simp [newVar,newRow,newObj]
  rfl
 ·show upd _ _ _ _ = _;rw [upd_apply,if_pos rfl]
 ·show upd _ _ _ _ = _;rw [upd_apply,if_pos rfl]

end
end Go.Abs

namespace Go.Abs
open Go

def SlAt (e : Env) (s : Nat) (rows : List (List C)) (v : Value) : Prop :=
 (rows = []∧∃ ad cap,v = .slice ad 0 cap)∨∃ b off cap,v = .slice (some ⟨b,off,none⟩) rows.length cap∧rows.length≤cap ∧
  ∀ (i : Nat) (r : List C) (j : Nat) (c : C),rows[i]? = some r→r[j]? = some c→∃ x,cellAt e.h b (off + i * s + j) = some x∧RC e c x

section
variable {e : Env}

theorem slAt_of {s : Nat} {c : C} {v : Value} {rows : List (List C)} (h : RC e c v) (hr : rowsOf e.σ c = some rows) (hs : ∀ r ∈ rows,r.length = s)
  (hent : ∀ id a,e.σ id = some a→REnt e (e.m id) a) : SlAt e s rows v:=by
 unfold rowsOf at hr
 split at hr
 ·cases hr
  have : RD e.h e.ok (.v (.slice none 0 0)) v:=h
  cases this
  exact .inl ⟨rfl,_,_,rfl⟩
 ·rename_i ad cap
  cases hr
  have : RD e.h e.ok (.v (.slice (some ad) 0 cap)) v:=h
  cases this
  exact .inl ⟨rfl,_,_,rfl⟩
 ·cases hr
  have : RD e.h e.ok (.sl rows) v:=h
  cases this with
  | nil=>exact .inl ⟨rfl,_,_,rfl⟩
  | emp=>exact .inl ⟨rfl,_,_,rfl⟩
  | sl _ s' b off cap f hok hs' hc hrr hcap =>
   refine .inr ⟨b,off,cap,rfl,hcap,fun i r j c h1 h2=>?_⟩
   have e1:=hs r (List.mem_of_getElem? h1)
   have e2:=hs' r (List.mem_of_getElem? h1)
   have : s' = s:=by omega
   subst this
   exact ⟨_,hc i r j c h1 h2,(hrr i r j c h1 h2).rc⟩
 ·rename_i id
  split at hr
  ·rename_i E s' rows' fz hid
   cases hr
   obtain ⟨a,ha,h⟩:=h
   rw [hid] at ha;cases ha
   have hE:=hent id _ hid
   simp only at h
   split at h
   ·rename_i hm
    rw [hm] at hE
    obtain ⟨_,_,h' | ⟨b,cur,cap,h',_⟩⟩:=hE
    ·exact .inl ⟨h'.2,_,_,h⟩
    ·cases h'
   ·rename_i b hm
    obtain ⟨cur,cap,h1,h2,rfl⟩:=h
    rw [hm] at hE
    obtain ⟨h0,h4,h' | ⟨b',cur',cap',h',g1,g2,g3,g4,g5⟩⟩:=hE
    ·cases h'.1
    ·cases h'
     rw [h1] at g1;cases g1
     have hcap : cap = cap':=Nat.eq_of_mul_eq_mul_right h0 (by omega)
     subst hcap
     refine .inr ⟨b,0,cap,rfl,g3,fun i r j c k1 k2=>?_⟩
     have e1:=hs r (List.mem_of_getElem? k1)
     have e2:=h4 r (List.mem_of_getElem? k1)
     have : s' = s:=by omega
     subst this
     obtain ⟨x,hx,hxr⟩:=g5 i r j c k1 k2
     exact ⟨x,by rw [cellAt_of h1,Nat.zero_add];exact hx,hxr⟩
  ·cases hr
 ·rename_i id lo q
  split at hr
  ·rename_i E s' rows' fz hid
   cases hr
   obtain ⟨a,ha,h⟩:=h
   rw [hid] at ha;cases ha
   have hE:=hent id _ hid
   obtain ⟨b,o,cap,cur0,hm,c0,c1,rfl,h1,h3,h2,_⟩:=h
   have hlq : ((rows'.drop lo).take q).length = q:=by simp;omega
   rw [hm] at hE
   obtain ⟨h0,h4,h' | ⟨b',cur',cap',h',g1,g2,g3,g4,g5⟩⟩:=hE
   ·cases h'.1
   ·cases h'
    refine .inr ⟨b,o,cap - lo,by rw [hlq],by rw [hlq];omega,fun i r j c k1 k2=>?_⟩
    have k1' : rows'[lo + i]? = some r:=by
     rw [List.getElem?_take] at k1
     split at k1
     ·simpa using k1
     ·cases k1
    have hlt : lo + i < rows'.length:=by
     rcases Nat.lt_or_ge (lo + i) rows'.length with h | h
     ·exact h
     ·simp [List.getElem?_eq_none h] at k1'
    have e1:=hs r (List.mem_of_getElem? k1)
    have e2:=h4 r (List.mem_of_getElem? k1')
    have : s' = s:=by omega
    subst this
    obtain ⟨x,hx,hxr⟩:=g5 (lo + i) r j c k1' k2
    refine ⟨x,?_,hxr⟩
    rw [cellAt_of g1,h2 (by omega),← Nat.add_mul];exact hx
  ·cases hr
 ·cases hr

def RowsAt (e : Env) (s : Nat) (rows : List (List C)) (news : List Value) : Prop :=
 news.length = rows.length * s∧(∀ r ∈ rows,r.length = s) ∧
  ∀ (i : Nat) (r : List C) (j : Nat) (c : C),rows[i]? = some r→r[j]? = some c→∃ x,news[i * s + j]? = some x∧RC e c x

theorem RowsAt.one {s : Nat} {rows : List (List C)} {news : List Value} (h : RowsAt e s rows news) : ∀ u ∈ news,u.oneCell' = true:=by
 intro u hu
 obtain ⟨k,hk,rfl⟩:=List.mem_iff_getElem.1 hu
 have hs : 0 < s:=by
  rcases Nat.eq_zero_or_pos s with h0 | h0
  ·rw [h.1,h0] at hk;simp at hk
  ·exact h0
 have hi : k / s < rows.length:=by rw [Nat.div_lt_iff_lt_mul hs,← h.1];exact hk
 have hj : k % s < rows[k / s].length:=by rw [h.2.1 _ (List.getElem_mem hi)];exact Nat.mod_lt _ hs
 obtain ⟨x,hx,hr⟩:=h.2.2 (k / s) rows[k / s] (k % s) _ (List.getElem?_eq_getElem hi) (List.getElem?_eq_getElem hj)
 rw [Nat.div_add_mod'] at hx
 rw [List.getElem?_eq_getElem hk] at hx
 cases hx
 exact one_oneCell hr.one

theorem RowsAt.nil (s : Nat) : RowsAt e s [] []:=⟨by simp,by simp,fun i r j c h=>by simp at h⟩

theorem RowsAt.append {s : Nat} {rows rows' : List (List C)} {news news' : List Value} (h : RowsAt e s rows news) (h' : RowsAt e s rows' news') : RowsAt e s (rows ++ rows') (news ++ news'):=by
 refine ⟨by rw [List.length_append,List.length_append,h.1,h'.1,Nat.add_mul],fun r hr=>?_,fun i r j c h1 h2=>?_⟩
 ·rcases List.mem_append.1 hr with hr | hr
  ·exact h.2.1 r hr
  ·exact h'.2.1 r hr
 ·rw [List.getElem?_append] at h1
  split at h1
  ·rename_i hi
   obtain ⟨x,hx,hr⟩:=h.2.2 i r j c h1 h2
   refine ⟨x,?_,hr⟩
   rw [List.getElem?_append_left]
   ·exact hx
   ·rcases Nat.lt_or_ge (i * s + j) news.length with hl | hl
    ·exact hl
    ·simp [List.getElem?_eq_none hl] at hx
  ·rename_i hi
   obtain ⟨x,hx,hr⟩:=h'.2.2 (i - rows.length) r j c h1 h2
   refine ⟨x,?_,hr⟩
   have hge : rows.length * s≤i * s:=Nat.mul_le_mul_right s (by omega)
   rw [List.getElem?_append_right (by rw [h.1];omega),h.1]
   rw [Nat.sub_mul] at hx
   rw [← hx];congr 1;omega

theorem RowsAt.le {e' : Env} (hle : Env.Le e e') {s : Nat} {rows : List (List C)} {news : List Value} (h : RowsAt e s rows news) : RowsAt e' s rows news :=
 ⟨h.1,h.2.1,fun i r j c h1 h2=>by obtain ⟨x,hx,hr⟩:=h.2.2 i r j c h1 h2;exact ⟨x,hx,RC.le hle hr⟩⟩

end

section
variable {P : Program}

def Src (P : Program) (h : Array Obj) (size : Nat) (x : Value) (n : Nat) (news : List Value) : Prop :=
 ∀ w : World,w.heap = h→(Builtin.lenOf x).run P w = .ok n w∧(Builtin.firstCells size n x).run P w = .ok news.toArray w

theorem src_of_slAt {e : Env} {s : Nat} {rows : List (List C)} {v : Value} (h : SlAt e s rows v) (hs : ∀ r ∈ rows,r.length = s) : ∃ news,Src P e.h s v rows.length news∧RowsAt e s rows news:=by
 rcases h with ⟨rfl,ad,cap,rfl⟩ | ⟨b,off,cap,rfl,_,h⟩
 ·exact ⟨[],fun w hw=>⟨by simp [Builtin.lenOf],by cases ad <;> simp [Builtin.firstCells,loadCells,loadCellsFrom]⟩,RowsAt.nil s⟩
 ·let f : Nat→Value:=fun k=>(cellAt e.h b (off + k)).getD undef
  have key : ∀ k,k < rows.length * s→∃ x,cellAt e.h b (off + k) = some x:=fun k hk=>by
   have h0 : 0 < s:=by
    rcases Nat.eq_zero_or_pos s with h0 | h0
    ·rw [h0] at hk;simp at hk
    ·exact h0
   have hi : k / s < rows.length:=by rw [Nat.div_lt_iff_lt_mul h0];exact hk
   have hj : k % s < rows[k / s].length:=by rw [hs _ (List.getElem_mem hi)];exact Nat.mod_lt _ h0
   obtain ⟨x,hx,_⟩:=h (k / s) rows[k / s] (k % s) _ (List.getElem?_eq_getElem hi) (List.getElem?_eq_getElem hj)
   rw [Nat.add_assoc,Nat.div_add_mod'] at hx
   exact ⟨x,hx⟩
  refine ⟨(List.range (rows.length * s)).map f,fun w hw=>⟨by simp [Builtin.lenOf],?_⟩,by simp,hs,fun i r j c h1 h2=>?_⟩
  ·refine run_firstCells_some w s rows.length ⟨b,off,none⟩ rows.length cap _ (by simp) fun j v hj=>?_
   rw [addr_add,cell?_eq,hw]
   simp only [List.getElem?_map] at hj
   cases hk : (List.range (rows.length * s))[j]? with
   | none=>rw [hk] at hj;cases hj
   | some k =>
    rw [hk] at hj
    have hjl : j < rows.length * s:=by
     rcases Nat.lt_or_ge j (rows.length * s) with h' | h'
     ·exact h'
     ·rw [List.getElem?_eq_none (by simpa using h')] at hk;cases hk
    have : k = j:=by rw [List.getElem?_range hjl] at hk;cases hk;rfl
    subst this
    obtain ⟨x,hx⟩:=key k hjl
    simp only [Option.map_some,Option.some.injEq] at hj
    rw [← hj,hx]
    simp [f,hx]
  ·obtain ⟨x,hx,hr⟩:=h i r j c h1 h2
   have hj : j < s:=by
    have:=hs r (List.mem_of_getElem? h1)
    rcases Nat.lt_or_ge j r.length with h' | h'
    ·omega
    ·simp [List.getElem?_eq_none h'] at h2
   have hi : i < rows.length:=by
    rcases Nat.lt_or_ge i rows.length with h' | h'
    ·exact h'
    ·simp [List.getElem?_eq_none h'] at h1
   have:=mul_lt_row hi hj
   refine ⟨x,?_,hr⟩
   rw [List.getElem?_map,List.getElem?_range this]
   simp [f,← Nat.add_assoc,hx]

theorem src_of_string {e : Env} (s : ByteArray) : Src P e.h 1 (.string s) s.size (s.data.toList.map fun b=>.int .u8 b.toNat) ∧
  RowsAt e 1 (s.data.toList.map byteRow) (s.data.toList.map fun b=>.int .u8 b.toNat):=by
 refine ⟨fun w _=>⟨by simp [Builtin.lenOf],?_⟩,by simp,by simp [byteRow],fun i r j c h1 h2=>?_⟩
 ·have : s.extract 0 s.size = s:=by
   cases s;simp [ByteArray.extract,ByteArray.copySlice,ByteArray.size]
  simp only [Builtin.firstCells,this]
  show Result.ok _ w = Result.ok _ w
  rw [← Array.toList_map,Array.toArray_toList]
 ·simp only [List.getElem?_map] at h1
  cases hb : s.data.toList[i]? with
  | none=>rw [hb] at h1;cases h1
  | some b =>
   rw [hb] at h1
   cases h1
   cases j with
   | zero=>simp [byteRow] at h2;subst h2;exact ⟨.int .u8 b.toNat,by simp [hb],RD.v _ rfl⟩
   | succ j=>simp [byteRow] at h2

variable {w : World}

theorem run_app_nil0 {T U ty E : TypeId} {d : TypeDesc} {i : TypeInfo} (ht : P.underlying T = some (.slice E)) (hu : P.underlying U = some d) (hd : (∃ E',d = .slice E')∨d = .string) (hi : P.info? E = some i)
  {x : Value} {news : List Value} (hx : Src P w.heap i.size x 0 news) : (Builtin.append_ #[T,U] ty #[.slice none 0 0,x]).run P w = .ok (.slice none 0 0) w:=by
 obtain ⟨h1,h2⟩:=hx w rfl
 rcases hd with ⟨E',rfl⟩ | rfl <;>
 simp [Builtin.append_,run_underlying ht,run_underlying hu,sizeOf,typeInfo,hi,h1,h2]

theorem run_app_grow {T U ty E : TypeId} {d : TypeDesc} {i : TypeInfo} {z : Value} (ht : P.underlying T = some (.slice E)) (hu : P.underlying U = some d) (hd : (∃ E',d = .slice E')∨d = .string) (hi : P.info? E = some i) (hz : i.zero = some z)
  {x base : Value} {n sLen sCap : Nat} {olds news : List Value} {ba : Option Addr} (hb : base = .slice ba sLen sCap) (ho : Src P w.heap i.size base sLen olds) (hx : Src P w.heap i.size x n news)
  (hg : sCap < sLen + n) (h63 : ((sLen + n : Nat) : Int)≤9223372036854775807) (hfit : Builtin.nextslicecap (sLen + n) sCap * i.bytes≤281474976710656) :
  (Builtin.append_ #[T,U] ty #[base,x]).run P w =
   .ok (.slice (some ⟨w.heap.size,0,none⟩) (sLen + n) (grownCap w (sLen + n) sCap E))
    (w.drew.alloc (.cells (olds.toArray ++ news.toArray ++ Builtin.zeroCells z.cells (grownCap w (sLen + n) sCap E - (sLen + n))) E)):=by
 subst hb
 have hn : ¬ (sLen + n≤sCap):=by omega
 have h63' : ¬ (9223372036854775807 < ((sLen : Int) + (n : Int))):=by omega
 have h48' : ¬ (281474976710656 < Builtin.nextslicecap (sLen + n) sCap * i.bytes):=by omega
 have hx1:=(hx w rfl).1
 have hx2:=(hx w.drew rfl).2
 have ho2:=(ho w.drew rfl).2
 rcases hd with ⟨E',rfl⟩ | rfl <;>
 simp [Builtin.append_,run_underlying ht,run_underlying hu,sizeOf,typeInfo,zeroValue,hi,hz,hx1,hn,h63',h48',Question.forced,newRow,grownCap,hx2,ho2,-List.append_toArray]

theorem run_app_room {T U ty E : TypeId} {d : TypeDesc} {i : TypeInfo} (ht : P.underlying T = some (.slice E)) (hu : P.underlying U = some d) (hd : (∃ E',d = .slice E')∨d = .string) (hi : P.info? E = some i)
  {x : Value} {n b sLen sCap : Nat} {cur : Array Value} {news : List Value} (hb : w.heap[b]? = some (.cells cur E (0,0))) (hx : Src P w.heap i.size x n news) (h1 : ∀ u ∈ news,u.oneCell' = true)
  (hroom : sLen + n≤sCap) (hfit : sLen * i.size + news.length≤cur.size) :
  (Builtin.append_ #[T,U] ty #[.slice (some ⟨b,0,none⟩) sLen sCap,x]).run P w =
   .ok (.slice (some ⟨b,0,none⟩) (sLen + n) sCap) (w.setRow b (cur.toList.take (sLen * i.size) ++ news ++ cur.toList.drop (sLen * i.size + news.length)).toArray):=by
 obtain ⟨h2,h3⟩:=hx w rfl
 have hst:=run_storeCells_at P b (sLen * i.size) E news 0 cur w hb (by simpa using hfit) h1
 simp only [Nat.add_zero] at hst
 rcases hd with ⟨E',rfl⟩ | rfl <;>
 simp [Builtin.append_,run_underlying ht,run_underlying hu,sizeOf,typeInfo,hi,h2,hroom,h3,Addr.add_lit,hst]

theorem run_app_room_at {T U ty E : TypeId} {d : TypeDesc} {i : TypeInfo} (ht : P.underlying T = some (.slice E)) (hu : P.underlying U = some d) (hd : (∃ E',d = .slice E')∨d = .string) (hi : P.info? E = some i)
  {x : Value} {n b o sLen sCap : Nat} {cur : Array Value} {news : List Value} (hb : w.heap[b]? = some (.cells cur E (0,0))) (hx : Src P w.heap i.size x n news) (h1 : ∀ u ∈ news,u.oneCell' = true)
  (hroom : sLen + n≤sCap) (hfit : o + sLen * i.size + news.length≤cur.size) :
  (Builtin.append_ #[T,U] ty #[.slice (some ⟨b,o,none⟩) sLen sCap,x]).run P w =
   .ok (.slice (some ⟨b,o,none⟩) (sLen + n) sCap) (w.setRow b (cur.toList.take (o + sLen * i.size) ++ news ++ cur.toList.drop (o + sLen * i.size + news.length)).toArray):=by
 obtain ⟨h2,h3⟩:=hx w rfl
 have hst:=run_storeCells_at P b (o + sLen * i.size) E news 0 cur w hb (by simpa using hfit) h1
 simp only [Nat.add_zero] at hst
 rcases hd with ⟨E',rfl⟩ | rfl <;>
 simp [Builtin.append_,run_underlying ht,run_underlying hu,sizeOf,typeInfo,hi,h2,hroom,h3,Addr.add_lit,hst]

end
end Go.Abs

namespace Go.Abs
open Go

section
variable {P : Program} {g : Gr} {m : Nat→Option Nat} {st : St} {tmps : Array Value} {w : World}

theorem R.gone (hR : R g m st tmps w) {id : Nat} {E : TypeId} {s : Nat} {rows : List (List C)} {fz : Bool} (ha : st.σ id = some (.arr E s rows fz)) :
  Env.Le (g.env m st w) (g.env m { st with σ:=upd st.σ id (some .gone) } w)∧R g m { st with σ:=upd st.σ id (some .gone) } tmps w:=by
 have hle : Env.Le (g.env m st w) (g.env m { st with σ:=upd st.σ id (some .gone) } w):=by
  refine ⟨fun k hk=>⟨?_,rfl⟩,fun i x hx=>?_,fun i E s rows fz k cur hi hk hcur=>?_⟩
  ·refine okOf_mono hk (Nat.le_refl _) fun i e he hmut hmi=>?_
   simp only [upd_apply] at he
   split at he
   ·cases he;cases hmut
   ·exact ⟨e,he,hmut,hmi⟩
  ·by_cases h : i = id
   ·subst h
    have : st.σ i = some x:=hx
    rw [ha] at this;cases this
    exact ⟨.gone,by show upd _ _ _ _ = _;rw [upd_apply,if_pos rfl],trivial,fun h=>absurd rfl h⟩
   ·exact ⟨x,by show upd _ _ _ _ = _;rw [upd_apply,if_neg h];exact hx,EntLe.refl _,fun _=>rfl⟩
  ·exact .inr ⟨cur,hcur,rfl⟩
 refine ⟨hle,hR.next hR.frame hle ?_ ?_ ?_⟩
 ·intro i e he
  simp only [upd_apply] at he
  split at he
  ·cases he;trivial
  ·exact REnt.le hle (hR.ent i e he) fun _ _ _=>rfl
 ·intro i e k he hg hk
  simp only [upd_apply] at he
  split at he
  ·cases he;exact absurd rfl hg
  ·exact hR.place i e k he hg hk
 ·intro i i' e e' k he he' hme hg hk hk'
  simp only [upd_apply] at he he'
  split at he
  ·cases he;cases hme
  ·split at he'
   ·cases he';exact absurd rfl hg
   ·exact hR.inj i i' e e' k he he' hme hg hk hk'

theorem R.virt (hR : R g m st tmps w) {fr : Nat} (hfr : st.σ fr = none) {E : TypeId} {s : Nat} (hs : 0 < s) :
  Env.Le (g.env m st w) (g.env (upd m fr none) { st with σ:=upd st.σ fr (some (.arr E s [] false)) } w)∧R g (upd m fr none) { st with σ:=upd st.σ fr (some (.arr E s [] false)) } tmps w:=by
 have hne : ∀ i a,st.σ i = some a→i≠fr:=by rintro i a h rfl;rw [hfr] at h;cases h
 have hle : Env.Le (g.env m st w) (g.env (upd m fr none) { st with σ:=upd st.σ fr (some (.arr E s [] false)) } w):=by
  refine ⟨fun k hk=>⟨?_,rfl⟩,fun i x hx=>⟨x,?_,EntLe.refl _,fun _=>?_⟩,fun i E s rows fz k cur hi hk hcur=>.inr ⟨cur,hcur,rfl⟩⟩
  ·refine okOf_mono hk (Nat.le_refl _) fun i e he hmut hmi=>?_
   simp only [upd_apply] at he hmi
   split at he
   ·rename_i h;simp [h] at hmi
   ·rename_i h;simp only [h,if_false] at hmi;exact ⟨e,he,hmut,hmi⟩
  ·show upd _ _ _ _ = _;rw [upd_apply,if_neg (hne i x hx)];exact hx
  ·show upd _ _ _ _ = _;rw [upd_apply,if_neg (hne i x hx)];rfl
 refine ⟨hle,hR.next hR.frame hle ?_ ?_ ?_⟩
 ·intro i e he
  simp only [upd_apply] at he ⊢
  split at he
  ·rename_i h;cases he;rw [if_pos h];exact ⟨hs,by simp,.inl ⟨rfl,rfl⟩⟩
  ·rename_i h;rw [if_neg h];exact REnt.le hle (hR.ent i e he) fun _ _ _=>rfl
 ·intro i e k he hg hk
  simp only [upd_apply] at he hk
  split at he
  ·rename_i h;simp [h] at hk
  ·rename_i h;simp only [h,if_false] at hk;exact hR.place i e k he hg hk
 ·intro i i' e e' k he he' hme hg hk hk'
  simp only [upd_apply] at he he' hk hk'
  split at he
  ·rename_i h;simp [h] at hk
  ·rename_i h
   simp only [h,if_false] at hk
   split at he'
   ·rename_i h';simp [h'] at hk'
   ·rename_i h';simp only [h',if_false] at hk';exact hR.inj i i' e e' k he he' hme hg hk hk'

theorem R.moved (hR : R g m st tmps w) {id fr b : Nat} (hfr : st.σ fr = none) {E : TypeId} {s : Nat} {rows rows' : List (List C)} (ha : st.σ id = some (.arr E s rows false)) (hb : m id = some b) {w' : World}
  (hs : w'.heap.size = w.heap.size) (ho : ∀ k,k≠b→w'.heap[k]? = w.heap[k]?) (h1 : w'.os = w.os) (h2 : w'.tape = w.tape) (h3 : w'.output = w.output)
  (hent : Env.Le (g.env m st w) (g.env (upd m fr (some b)) { st with σ:=upd (upd st.σ id (some .gone)) fr (some (.arr E s rows' false)) } w') →
   REnt (g.env (upd m fr (some b)) { st with σ:=upd (upd st.σ id (some .gone)) fr (some (.arr E s rows' false)) } w') (some b) (.arr E s rows' false)) :
  R g (upd m fr (some b)) { st with σ:=upd (upd st.σ id (some .gone)) fr (some (.arr E s rows' false)) } tmps w':=by
 have hne : ∀ i a,st.σ i = some a→i≠fr:=by rintro i a h rfl;rw [hfr] at h;cases h
 have hid:=hne id _ ha
 have hp:=hR.place id _ b ha (by simp) hb
 have hle : Env.Le (g.env m st w) (g.env (upd m fr (some b)) { st with σ:=upd (upd st.σ id (some .gone)) fr (some (.arr E s rows' false)) } w'):=by
  refine ⟨fun k hk=>?_,fun i x hx=>?_,fun i E' s' rows'' fz k cur hi hk hcur=>?_⟩
  ·have hkb : k≠b:=by rintro rfl;exact hk.2.2 id _ ha rfl hb
   refine ⟨okOf_mono hk (by omega) fun i e he hmut hmi=>?_,ho k hkb⟩
   simp only [upd_apply] at he hmi
   split at he
   ·rename_i h;simp only [h,if_true,Option.some.injEq] at hmi;exact absurd hmi.symm hkb
   ·rename_i h
    simp only [h,if_false] at hmi
    split at he
    ·cases he;cases hmut
    ·exact ⟨e,he,hmut,hmi⟩
  ·have hif:=hne i x hx
   by_cases h : i = id
   ·subst h
    have : st.σ i = some x:=hx
    rw [ha] at this;cases this
    exact ⟨.gone,by show upd _ _ _ _ = _;rw [upd_apply,if_neg hif,upd_apply,if_pos rfl],trivial,fun h=>absurd rfl h⟩
   ·exact ⟨x,by show upd _ _ _ _ = _;rw [upd_apply,if_neg hif,upd_apply,if_neg h];exact hx,EntLe.refl _,fun _=>by show upd _ _ _ _ = _;rw [upd_apply,if_neg hif];rfl⟩
  ·have hif:=hne i _ hi
   by_cases h : i = id
   ·exact .inl (by show upd _ _ _ _ = _;rw [upd_apply,if_neg hif,upd_apply,if_pos h])
   ·have hkb : k≠b:=by rintro rfl;exact h (hR.inj id i _ _ k ha hi rfl (by simp) hb hk).symm
    exact .inr ⟨cur,(ho k hkb).trans hcur,rfl⟩
 refine hR.next (hR.frame.step h1 h2 h3 (by omega) fun k hk hw=>ho k ?_) hle ?_ ?_ ?_
 ·rintro rfl
  rcases hp.2 with h | h
  ·exact absurd hk (by unfold Gr.B at h;omega)
  ·exact hw h
 ·intro i e he
  simp only [upd_apply] at he ⊢
  split at he
  ·rename_i h;cases he;rw [if_pos h];exact hent hle
  ·rename_i h
   rw [if_neg h]
   split at he
   ·cases he;trivial
   ·rename_i h'
    exact REnt.le hle (hR.ent i e he) fun hg k hk=>ho k (by rintro rfl;exact h' (hR.inj id i _ e k ha he rfl hg hb hk).symm)
 ·intro i e k he hg hk
  simp only [upd_apply] at he hk
  rw [hs]
  split at he
  ·rename_i h;simp only [h,if_true,Option.some.injEq] at hk;subst hk;exact hp
  ·rename_i h
   simp only [h,if_false] at hk
   split at he
   ·cases he;exact absurd rfl hg
   ·exact hR.place i e k he hg hk
 ·intro i i' e e' k he he' hme hg hk hk'
  simp only [upd_apply] at he he' hk hk'
  split at he
  ·rename_i h
   simp only [h,if_true,Option.some.injEq] at hk
   subst hk
   split at he'
   ·rename_i h';rw [h,h']
   ·rename_i h'
    simp only [h',if_false] at hk'
    split at he'
    ·cases he';exact absurd rfl hg
    ·rename_i h'';exact absurd (hR.inj id i' _ e' b ha he' rfl hg hb hk').symm h''
  ·rename_i h
   simp only [h,if_false] at hk
   split at he
   ·cases he;cases hme
   ·rename_i h2
    split at he'
    ·rename_i h'
     simp only [h',if_true,Option.some.injEq] at hk'
     subst hk'
     exact absurd (hR.inj i id e _ b he ha hme (by simp) hk hb) h2
    ·rename_i h'
     simp only [h',if_false] at hk'
     split at he'
     ·cases he';exact absurd rfl hg
     ·exact hR.inj i i' e e' k he he' hme hg hk hk'

theorem rowsAt_ent {e : Env} {E : TypeId} {s b cap : Nat} {rows : List (List C)} {news : List Value} {cur : Array Value} (hs : 0 < s) (h : RowsAt e s rows news) (hb : e.h[b]? = some (.cells cur E (0,0))) (hc : cur.size = cap * s)
  (hcap : rows.length≤cap) (hm : cap≤maxLen) (hpre : ∀ k,k < news.length→cur[k]? = news[k]?) (fz : Bool) : REnt e (some b) (.arr E s rows fz) :=
 ⟨hs,h.2.1,.inr ⟨b,cur,cap,rfl,hb,hc,hcap,hm,fun i r j c h1 h2=>by
  obtain ⟨x,hx,hr⟩:=h.2.2 i r j c h1 h2
  refine ⟨x,?_,hr⟩
  rw [hpre _ ?_]
  ·exact hx
  ·rcases Nat.lt_or_ge (i * s + j) news.length with hl | hl
   ·exact hl
   ·simp [List.getElem?_eq_none hl] at hx⟩⟩

theorem out_fresh (hR : R g m st tmps w) {w1 : World} (hh : w1.heap = w.heap) (o1 : w1.os = w.os) (o2 : w1.tape = w.tape) (o3 : w1.output = w.output) {fr : Nat} (hfr : st.σ fr = none) {E : TypeId} {s cap : Nat} (hs : 0 < s) {rows : List (List C)} {news : List Value} {cur : Array Value}
  (hrows : RowsAt (g.env m st w) s rows news) (hc : cur.size = cap * s) (hcap : rows.length≤cap) (hm : cap≤maxLen) (hpre : ∀ k,k < news.length→cur[k]? = news[k]?) :
  R g (upd m fr (some w.heap.size)) { st with σ:=upd st.σ fr (some (.arr E s rows false)) } tmps (w1.alloc (.cells cur E)) ∧
   RC (g.env (upd m fr (some w.heap.size)) { st with σ:=upd st.σ fr (some (.arr E s rows false)) } (w1.alloc (.cells cur E))) (.osl fr) (.slice (some ⟨w.heap.size,0,none⟩) rows.length cap):=by
 have hR1:=hR.same hh o1 o2 o3
 have hsz : w1.heap.size = w.heap.size:=by rw [hh]
 have he : g.env m st w1 = g.env m st w:=by simp [Gr.env,hh]
 have hle:=le_new (g:=g) (m:=m) (st:=st) (w:=w1) (.cells cur E) hfr (.arr E s rows false) (w':=w1.alloc (.cells cur E)) rfl
 have hnew : (w1.heap.push (.cells cur E))[w1.heap.size]? = some (.cells cur E (0,0)):=push_new _ _
 have:=hR1.new (.cells cur E) hfr (a:=.arr E s rows false) (w':=w1.alloc (.cells cur E)) rfl rfl rfl rfl
  (rowsAt_ent hs (RowsAt.le hle (by rw [he];exact hrows)) hnew hc hcap hm hpre false)
 rw [hsz] at this hnew
 refine ⟨this,.arr E s rows false,?_,?_⟩
 ·show upd _ _ _ _ = _;rw [upd_apply,if_pos rfl]
 ·show (match upd m fr (some w.heap.size) fr with | none=>_ | some b=>_)
  rw [upd_apply,if_pos rfl]
  exact ⟨cur,cap,hnew,hc,rfl⟩

theorem zeroCells_size (z : Array Value) (n : Nat) : (Builtin.zeroCells z n).size = n * z.size:=by simp [Builtin.zeroCells]

theorem lt_maxLen {n b : Nat} (hb : 0 < b) (h : n * b≤140737488355328) : n≤maxLen:=by
 have:=Nat.le_mul_of_pos_right n hb
 unfold maxLen
 omega

theorem toD_len {e : Env} {s : Nat} {rows : List (List C)} {news : List Value} (h : RowsAt e s rows news) : news.length = rows.length * s:=h.1

theorem out_app (hR : R g m st tmps w) {T U ty E : TypeId} {d : TypeDesc} {i : TypeInfo} {z : Value} (ht : P.underlying T = some (.slice E)) (hu : P.underlying U = some d) (hd : (∃ E',d = .slice E')∨d = .string)
  (hi : P.info? E = some i) (hz : i.zero = some z) (hzs : z.cells.size = i.size) (hs : 0 < i.size) (hby : 0 < i.bytes) {fr : Nat} (hfr : st.σ fr = none) {base x : Value} {new : List (List C)} {news : List Value}
  (hx : Src P w.heap i.size x new.length news) (hrows : RowsAt (g.env m st w) i.size new news) :
  (base = .slice none 0 0→new.length * i.bytes≤140737488355328 →
   Out P g st tmps w (do pure (.value (← Builtin.append_ #[T,U] ty #[base,x]))) (.c (.osl fr)) [(fr,.arr E i.size new false)]) ∧
  (∀ id rows,st.σ id = some (.arr E i.size rows false)→RC (g.env m st w) (.osl id) base→(rows.length + new.length) * i.bytes≤140737488355328 →
   Out P g st tmps w (do pure (.value (← Builtin.append_ #[T,U] ty #[base,x]))) (.c (.osl fr)) [(id,.gone),(fr,.arr E i.size (rows ++ new) false)]):=by
 have hnl:=toD_len hrows
 have nilCase : ∀ (st' : St),st'.sl = st.sl→st'.σ fr = none→R g m st' tmps w→Env.Le (g.env m st w) (g.env m st' w)→new.length * i.bytes≤140737488355328 →
   ∃ n v m' w',(do pure (.value (← Builtin.append_ #[T,U] ty #[.slice none 0 0,x])) : Sem Next).run P w = .ok n w'∧nextV n = some v ∧
    R g m' { st' with σ:=upd st'.σ fr (some (.arr E i.size new false)) } tmps w'∧RSV (g.env m' { st' with σ:=upd st'.σ fr (some (.arr E i.size new false)) } w') (.c (.osl fr)) v:=by
  intro st' _ hfr' hR' hle hb
  cases hn : new with
  | nil =>
   subst hn
   have hr:=run_app_nil0 (w:=w) (ty:=ty) ht hu hd hi (x:=x) (news:=news) hx
   obtain ⟨hle',hv⟩:=hR'.virt hfr' (E:=E) hs
   refine ⟨.value (.slice none 0 0),_,_,w,by simp [hr],rfl,hv,.arr E i.size [] false,?_,?_⟩
   ·show upd _ _ _ _ = _;rw [upd_apply,if_pos rfl]
   ·show (match upd m fr none fr with | none=>_ | some b=>_)
    rw [upd_apply,if_pos rfl]
  | cons y ys =>
   rw [← hn]
   have hpos : 0 < new.length:=by rw [hn];simp
   have hml : new.length≤maxLen:=lt_maxLen hby hb
   have hr:=run_app_grow (w:=w) (ty:=ty) (sLen:=0) (sCap:=0) (olds:=[]) ht hu hd hi hz (base:=.slice none 0 0) rfl
    (fun w hw=>⟨by simp [Builtin.lenOf],by simp [Builtin.firstCells]⟩) hx (by omega) (by unfold maxLen at hml;omega) (by rw [Nat.zero_add];exact growslice_fits hpos hb)
   simp only [Nat.zero_add] at hr
   have hcg:=grownCap_ge w new.length 0 E
   have hcm:=grownCap_le_maxLen w new.length 0 E hml
   have hf:=out_fresh (E:=E) hR' (w1:=w.drew) rfl rfl rfl rfl hfr' hs (cur:=([] : List Value).toArray ++ news.toArray ++ Builtin.zeroCells z.cells (grownCap w new.length 0 E - new.length)) (cap:=grownCap w new.length 0 E)
    (RowsAt.le hle hrows) (by simp only [Array.size_append,zeroCells_size,hzs,List.size_toArray,hnl,List.length_nil,Nat.zero_add,← Nat.add_mul];congr 1;omega) hcg hcm (fun k hk=>by
     rw [Array.getElem?_append_left (by simpa using hk)]
     simp)
   exact ⟨.value _,_,_,_,by simp [hr],rfl,hf.1,hf.2⟩
 refine ⟨?_,?_⟩
 ·rintro rfl hb
  exact nilCase st rfl hfr hR (Env.Le.refl _) hb
 ·intro id rows hid hbase hb
  have hne : fr≠id:=by rintro rfl;rw [hfr] at hid;cases hid
  obtain ⟨a,ha,hbase⟩:=hbase
  have ha' : st.σ id = some a:=ha
  rw [hid] at ha';cases ha'
  have hE:=hR.ent id _ hid
  simp only at hbase
  obtain ⟨hleg,hRg⟩:=hR.gone hid
  have hfrg : upd st.σ id (some .gone) fr = none:=by rw [upd_apply,if_neg hne];exact hfr
  split at hbase
  ·rename_i hm
   have hm' : m id = none:=hm
   rw [hm'] at hE
   obtain ⟨_,_,⟨_,hrn⟩ | ⟨_,_,_,h,_⟩⟩:=hE
   ·subst hrn
    subst hbase
    exact nilCase { st with σ:=upd st.σ id (some .gone) } rfl hfrg hRg hleg (by simpa using hb)
   ·cases h
  ·rename_i b hm
   have hm' : m id = some b:=hm
   rw [hm'] at hE
   obtain ⟨cur,cap,h1,h2,rfl⟩:=hbase
   have h1' : w.heap[b]? = some (.cells cur E (0,0)):=h1
   obtain ⟨_,hrl,⟨h,_⟩ | ⟨b',cur',cap',h,g1,g2,g3,g4,g5⟩⟩:=hE
   ·cases h
   cases h
   have g1' : w.heap[b]? = some (.cells cur' E (0,0)):=g1
   rw [h1'] at g1';cases g1'
   have hcap : cap = cap':=Nat.eq_of_mul_eq_mul_right hs (by omega)
   subst hcap
   have hrle : rows.length * i.size≤cur.size:=by rw [h2];exact Nat.mul_le_mul_right _ g3
   have holds : RowsAt (g.env m st w) i.size rows (cur.toList.take (rows.length * i.size)):=by
    refine ⟨by simp;omega,hrl,fun k r j c k1 k2=>?_⟩
    obtain ⟨y,hy,hyr⟩:=g5 k r j c k1 k2
    refine ⟨y,?_,hyr⟩
    have hjl : j < r.length:=by
     rcases Nat.lt_or_ge j r.length with h' | h'
     ·exact h'
     ·simp [List.getElem?_eq_none h'] at k2
    have hkl : k < rows.length:=by
     rcases Nat.lt_or_ge k rows.length with h' | h'
     ·exact h'
     ·simp [List.getElem?_eq_none h'] at k1
    have hjs : j < i.size:=by have:=hrl r (List.mem_of_getElem? k1);omega
    have:=mul_lt_row hkl hjs
    rw [List.getElem?_take,if_pos this]
    simpa using hy
   have hml : rows.length + new.length≤maxLen:=lt_maxLen hby hb
   by_cases hroom : rows.length + new.length≤cap
   ·have hfit : rows.length * i.size + news.length≤cur.size:=by rw [hnl,h2,← Nat.add_mul];exact Nat.mul_le_mul_right _ hroom
    have hr:=run_app_room (ty:=ty) (sCap:=cap) ht hu hd hi h1' hx (RowsAt.one hrows) hroom hfit
    have hR':=hR.moved (rows':=rows ++ new) hfr hid hm' (w':=w.setRow b (cur.toList.take (rows.length * i.size) ++ news ++ cur.toList.drop (rows.length * i.size + news.length)).toArray)
     (by simp [World.setRow]) (fun k hk=>setRow_other w b k _ hk) rfl rfl rfl (fun hle=>by
      refine rowsAt_ent (cap:=cap) hs ((RowsAt.le hle holds).append (RowsAt.le hle hrows)) (setRow_heap w b cur _ _ _ h1') ?_ (by simpa using hroom) g4 (fun k hk=>?_) false
      ·rw [← h2];simp;omega
      ·simp only [List.getElem?_toArray]
       rw [List.getElem?_append_left hk])
    refine ⟨.value (.slice (some ⟨b,0,none⟩) (rows.length + new.length) cap),_,_,_,by simp [hr],rfl,hR',.arr E i.size (rows ++ new) false,?_,?_⟩
    ·show upd _ _ _ _ = _;rw [upd_apply,if_pos rfl]
    ·show (match upd m fr (some b) fr with | none=>_ | some b=>_)
     rw [upd_apply,if_pos rfl]
     exact ⟨_,cap,setRow_heap w b cur _ _ _ h1',by rw [← h2];simp;omega,by simp⟩
   ·have hob : Src P w.heap i.size (.slice (some ⟨b,0,none⟩) rows.length cap) rows.length (cur.toList.take (rows.length * i.size)):=fun w' hw' =>
     ⟨by simp [Builtin.lenOf],run_firstCells_some w' i.size rows.length ⟨b,0,none⟩ rows.length cap _ (by simp;omega) fun j v hj=>by
      rw [addr_add,cell?_eq,hw',Nat.zero_add,cellAt_of h1']
      rw [List.getElem?_take] at hj
      split at hj
      ·simpa using hj
      ·cases hj⟩
    have hr:=run_app_grow (w:=w) (ty:=ty) ht hu hd hi hz rfl hob hx (by omega) (by unfold maxLen at hml;omega) (growslice_fits (by omega) hb)
    have hcg:=grownCap_ge w (rows.length + new.length) cap E
    have hcm:=grownCap_le_maxLen w (rows.length + new.length) cap E hml
    have hf:=out_fresh (E:=E) hRg (w1:=w.drew) rfl rfl rfl rfl hfrg hs (cur:=(cur.toList.take (rows.length * i.size)).toArray ++ news.toArray ++ Builtin.zeroCells z.cells (grownCap w (rows.length + new.length) cap E - (rows.length + new.length)))
     (cap:=grownCap w (rows.length + new.length) cap E) (RowsAt.le hleg (holds.append hrows))
     (by
      simp only [Array.size_append,zeroCells_size,hzs,List.size_toArray,hnl,holds.1,← Nat.add_mul];congr 1;omega) (by simpa using hcg) hcm (fun k hk=>by
      rw [Array.getElem?_append_left (by simpa using hk),List.append_toArray,List.getElem?_toArray])
    simp only [List.length_append] at hf
    exact ⟨.value _,_,_,_,by simp [hr],rfl,hf.1,hf.2⟩

end
end Go.Abs

namespace Go.Abs
open Go

section
variable {P : Program} {g : Gr} {m : Nat→Option Nat} {st : St} {tmps : Array Value} {w : World} {a : Act}

theorem ev_rsv (hR : R g m st tmps w) (ha : a.tmps = tmps) {x : Operand} {ax : AX} (h : cx x = some ax) : RSV (g.env m st w) (ev st.sl ax) (a.eval x):=by
 cases x with
 | tmp t=>cases h;subst ha;exact hR.slot t
 | const v =>
  simp only [cx] at h
  cases hv : ofV v with
  | none=>rw [hv] at h;cases h
  | some s=>rw [hv] at h;cases h;exact RSV_ofV hv
 | func f=>cases h;exact ⟨#[],rfl,RL.nil⟩
 | global _=>cases h

theorem evs_rsv (hR : R g m st tmps w) (ha : a.tmps = tmps) : ∀ {xs : List Operand} {axs : List AX},cxs xs = some axs→RL (fun ax v=>RSV (g.env m st w) (ev st.sl ax) v) axs (xs.map a.eval)
 | [],axs,h=>by cases h;exact RL.nil
 | x :: xs,axs,h=>by
  simp only [cxs] at h
  split at h
  ·rename_i y ys h1 h2
   cases h
   exact RL.cons (ev_rsv hR ha h1) (evs_rsv hR ha h2)
  ·cases h

theorem rd_v {h : Array Obj} {ok : Nat→Prop} {x v : Value} (r : RD h ok (.v x) v) : v = x:=by cases r;rfl
theorem rc_v {e : Env} {x v : Value} (r : RC e (.v x) v) : v = x:=rd_v r
theorem rc_one {e : Env} {x v : Value} (r : RC e (.v x) v) : one x = true:=by have:=r.one;rw [rc_v r] at this;exact this

theorem one_v {e : Env} {s : SV} {x v : Value} (h : RSV e s v) (hp : s.pre) (h1 : s.one? = some (.v x)) : v = x:=rc_v (h.one hp h1)

theorem run_eq_bool {T : TypeId} (hu : P.underlying T = some .bool) (n : Nat) (a b : Bool) : (Op.equalIn (n + 1) T (.bool a) (.bool b)).run P w = .ok (a == b) w:=by
 simp [Op.equalIn,run_underlying hu]

theorem run_equal_bool {T : TypeId} (hu : P.underlying T = some .bool) (a b : Bool) : (Op.equal T (.bool a) (.bool b)).run P w = .ok (a == b) w :=
 run_eq_bool hu 9999 a b

set_option maxHeartbeats 800000 in
theorem run_bin {op : BinOp} {T : TypeId} {d : TypeDesc} (hu : P.underlying T = some d) {x y : Operand} {r : Value × Prop} {va vb : Value}
    (hb : binV op (isBoolD d) va vb = some r) (hc : r.2) :
    (do eqGuard op T x y va vb;binOp op T va vb : Sem Value).run P w = .ok r.1 w∧one r.1 = true:=by
  unfold binV at hb
  split at hb
  · rename_i k n k' n'
    have hg : (eqGuard op T x y (.int k n) (.int k' n')).run P w = .ok () w:=by
      cases op <;> rfl
    rw [Sem.run_bind,hg,Result.andThen_ok]
    split at hb
    · cases hb
      have h0 : ¬ n' < 0:=by simpa using hc
      exact ⟨by simp [binOp,Op.shift,h0],rfl⟩
    · cases hb
      have h0 : ¬ n' < 0:=by simpa using hc
      exact ⟨by simp [binOp,Op.shift,h0],rfl⟩
    · rename_i h1 h2
      split at hb
      · rename_i hk
        subst hk
        cases op <;> first
          | (exact absurd rfl h1;done)
          | (exact absurd rfl h2;done)
          | (cases hb;refine ⟨?_,rfl⟩;simp [binOp,Op.intArith];done)
          | (cases hb;refine ⟨?_,rfl⟩;have h0 : n'≠0:=hc;simp [binOp,Op.intDiv,h0];done)
          | (cases hb;refine ⟨?_,rfl⟩;simp [binOp,Op.intBits,bitsI];done)
          | (cases hb;refine ⟨?_,rfl⟩;simp [binOp,Op.intCmp];done)
          | (simp at hb;done)
      · cases hb
  · rename_i s t
    have hg : (eqGuard op T x y (.string s) (.string t)).run P w = .ok () w:=by
      cases op <;> rfl
    rw [Sem.run_bind,hg,Result.andThen_ok]
    cases op <;> first
      | (simp at hb;done)
      | (cases hb;refine ⟨?_,rfl⟩;simp [binOp,Op.stringOp];done)
      | (cases hb
         have h0 : ¬ ((s.size + t.size : Nat) : Int) > IntKind.i64.max:=by
           have : IntKind.i64.max = 9223372036854775807:=by decide
           rw [this];exact Int.not_lt.2 hc
         exact ⟨by simp only [binOp,Op.stringOp,if_neg h0,Sem.run_pure],rfl⟩)
  · rename_i s t
    have hg : (eqGuard op T x y (.bool s) (.bool t)).run P w = .ok () w:=by
      cases op <;> rfl
    rw [Sem.run_bind,hg,Result.andThen_ok]
    split at hb
    · rename_i hbd
      have hd : d = .bool:=by cases d <;> simp_all [isBoolD]
      subst hd
      cases op <;> first
        | (simp at hb;done)
        | (cases hb;refine ⟨?_,rfl⟩;simp [binOp,run_equal_bool hu];done)
    · cases hb
  · cases hb

theorem out_bin (hR : R g m st tmps w) {op : BinOp} {T : TypeId} {d : TypeDesc} (hu : P.underlying T = some d) {x y : Operand} {r : Value × Prop} {va vb : Value}
  (hb : binV op (isBoolD d) va vb = some r) (hc : r.2) :
  Out P g st tmps w (do pure (.value (← (do eqGuard op T x y va vb;binOp op T va vb)))) (.c (.v r.1)) [] :=
 Out.quiet hR (run_bin hu hb hc).1 (show RSV _ (.c (.v r.1)) r.1 from RD.v r.1 (run_bin (w:=w) (P:=P) (x:=x) (y:=y) hu hb hc).2)

theorem out_un (hR : R g m st tmps w) {op : UnOp} {r x : Value} (h : unV op x = some r) : Out P g st tmps w (do pure (.value (← Op.unary op x))) (.c (.v r)) []:=by
 have key : (Op.unary op x).run P w = .ok r w∧one r = true:=by
  unfold unV at h
  split at h <;> cases h
  ·exact ⟨rfl,rfl⟩
  ·exact ⟨by simp [Op.unary,Op.intArith],rfl⟩
  ·exact ⟨by simp [Op.unary,Op.intBits,bitsI],rfl⟩
 exact Out.quiet hR key.1 (show RSV _ (.c (.v r)) r from RD.v r key.2)

theorem out_fa (hR : R g m st tmps w) {S f : Nat} {fs : Array Field} {fd : Field} {i : TypeInfo} (hu : P.underlying S = some (.struct fs)) (hf : fs[f]? = some fd) (hi : P.info? fd.type = some i) (h0 : i.size≠0)
  {c : C} {v : Value} (hc : RC (g.env m st w) c v) :
  (∀ id o,c = .bp id o→Out P g st tmps w (do pure (.value (← Instr.fieldAt S v f))) (.c (.bp id (o + fd.offset))) []) ∧
  (∀ id n o,c = .ep id n o→(∀ a,st.σ id = some a→a≠.gone)→Out P g st tmps w (do pure (.value (← Instr.fieldAt S v f))) (.c (.ep id n (o + fd.offset))) []) ∧
  (∀ cs,c = .rp cs→Out P g st tmps w (do pure (.value (← Instr.fieldAt S v f))) (.c (.rp (cs.drop fd.offset))) []):=by
 have run : ∀ b off,(Instr.fieldAt S (.pointer (some ⟨b,off,none⟩)) f).run P w = .ok (.pointer (some ⟨b,off + fd.offset,none⟩)) w:=fun b off=>by
  simp [Instr.fieldAt,run_underlying hu,hf,Instr.sureAddr,fieldPlace,sizeOf,typeInfo,hi,h0,addr_add]
 refine ⟨?_,?_,?_⟩
 ·rintro id o rfl
  obtain ⟨cs,b,h1,h2,rfl⟩:=hc
  exact Out.quiet hR (run b o) ⟨cs,b,h1,h2,rfl⟩
 ·rintro id n o rfl hg
  obtain ⟨a,h1,h2⟩:=hc
  cases a with
  | gone=>exact absurd rfl (hg _ h1)
  | arr E s rows fz =>
   obtain ⟨b,hb,rfl⟩:=h2
   exact Out.quiet hR (run b (n * s + o)) ⟨_,h1,b,hb,by rw [Nat.add_assoc]⟩
  | _=>exact h2.elim
 ·rintro cs rfl
  obtain ⟨b,off,h1,rfl,h2⟩:=hc
  refine Out.quiet hR (run b off) ⟨b,off + fd.offset,h1,rfl,fun j c hj=>?_⟩
  obtain ⟨x,hx,hr⟩:=h2 (fd.offset + j) c (by simpa using hj)
  exact ⟨x,by rw [Nat.add_assoc];exact hx,hr⟩

theorem out_faA (hR : R g m st tmps w) {T E : TypeId} {len : Nat} {i : TypeInfo} (hu : P.underlying T = some (.array len E)) (hi : P.info? E = some i) {k : IntKind} {n : Int} (h0 : 0≤n) (h1 : n < len)
  {c : C} {v : Value} (hc : RC (g.env m st w) c v) :
  (∀ id o,c = .bp id o→Out P g st tmps w (do pure (.value (← Instr.indexAt T v (.int k n)))) (.c (.bp id (o + n.toNat * i.size))) []) ∧
  (∀ id q o,c = .ep id q o→(∀ a,st.σ id = some a→a≠.gone)→Out P g st tmps w (do pure (.value (← Instr.indexAt T v (.int k n)))) (.c (.ep id q (o + n.toNat * i.size))) []) ∧
  (∀ cs,c = .rp cs→Out P g st tmps w (do pure (.value (← Instr.indexAt T v (.int k n)))) (.c (.rp (cs.drop (n.toNat * i.size)))) []):=by
 have run : ∀ b off,(Instr.indexAt T (.pointer (some ⟨b,off,none⟩)) (.int k n)).run P w = .ok (.pointer (some ⟨b,off + n.toNat * i.size,none⟩)) w:=fun b off=>by
  simp [Instr.indexAt,asIntOf,run_underlying hu,Instr.sureAddr,sizeOf,typeInfo,hi,h0,h1,addr_add]
 refine ⟨?_,?_,?_⟩
 ·rintro id o rfl
  obtain ⟨cs,b,h1,h2,rfl⟩:=hc
  exact Out.quiet hR (run b o) ⟨cs,b,h1,h2,rfl⟩
 ·rintro id q o rfl hg
  obtain ⟨a,h1,h2⟩:=hc
  cases a with
  | gone=>exact absurd rfl (hg _ h1)
  | arr E s rows fz =>
   obtain ⟨b,hb,rfl⟩:=h2
   exact Out.quiet hR (run b (q * s + o)) ⟨_,h1,b,hb,by rw [Nat.add_assoc]⟩
  | _=>exact h2.elim
 ·rintro cs rfl
  obtain ⟨b,off,h1,rfl,h2⟩:=hc
  refine Out.quiet hR (run b off) ⟨b,off + n.toNat * i.size,h1,rfl,fun j c hj=>?_⟩
  obtain ⟨x,hx,hr⟩:=h2 (n.toNat * i.size + j) c (by simpa using hj)
  exact ⟨x,by rw [Nat.add_assoc];exact hx,hr⟩

theorem run_indexAt {T E : TypeId} {i : TypeInfo} (hu : P.underlying T = some (.slice E)) (hi : P.info? E = some i) {b off len cap : Nat} {k : IntKind} {n : Int} (h0 : 0≤n) (h1 : n < len) :
  (Instr.indexAt T (.slice (some ⟨b,off,none⟩) len cap) (.int k n)).run P w = .ok (.pointer (some ⟨b,off + n.toNat * i.size,none⟩)) w:=by
 simp [Instr.indexAt,asIntOf,run_underlying hu,h0,h1,sizeOf,typeInfo,hi,addr_add]

theorem out_ia_sl (hR : R g m st tmps w) {T E : TypeId} {i : TypeInfo} (hu : P.underlying T = some (.slice E)) (hi : P.info? E = some i) {rows : List (List C)} {v : Value} (hc : RC (g.env m st w) (.sl rows) v)
  {k : IntKind} {n : Int} (h0 : 0≤n) (h1 : n < rows.length) (hl : (rows[n.toNat]?.getD []).length = i.size) :
  Out P g st tmps w (do pure (.value (← Instr.indexAt T v (.int k n)))) (.c (.rp (rows[n.toNat]?.getD []))) []:=by
 have hc' : RD (g.env m st w).h (g.env m st w).ok (.sl rows) v:=hc
 cases hc' with
 | nil=>simp at h1;omega
 | emp=>simp at h1;omega
 | sl _ s b off cap f hok hs hcc hr hcap =>
  have hn : n.toNat < rows.length:=by omega
  have hrn : rows[n.toNat]? = some rows[n.toNat]:=List.getElem?_eq_getElem hn
  rw [hrn] at hl ⊢
  simp only [Option.getD_some] at hl ⊢
  have hss : s = i.size:=by rw [← hs _ (List.getElem_mem hn)];exact hl
  subst hss
  exact Out.quiet hR (run_indexAt hu hi h0 h1) ⟨b,_,hok,rfl,fun j c hj=>⟨_,hcc n.toNat _ j c hrn hj,hr n.toNat _ j c hrn hj⟩⟩

theorem out_ia_ow (hR : R g m st tmps w) {T E E' : TypeId} {i : TypeInfo} (hu : P.underlying T = some (.slice E)) (hi : P.info? E = some i) {id lo : Nat} {rows : List (List C)} {fz : Bool} (hid : st.σ id = some (.arr E' i.size rows fz))
  {q : Nat} {v : Value} (hc : RC (g.env m st w) (.ow id lo q) v) {k : IntKind} {n : Int} (h0 : 0≤n) (h2 : n < q) (h1 : lo + n.toNat < rows.length) :
  Out P g st tmps w (do pure (.value (← Instr.indexAt T v (.int k n)))) (.c (.ep id (lo + n.toNat) 0)) []:=by
 obtain ⟨a,ha,hc⟩:=hc
 have ha' : st.σ id = some a:=ha
 rw [hid] at ha';cases ha'
 obtain ⟨b,o,cap,cur,hm,g0,g1,rfl,g2,g3,g4,g5⟩:=hc
 have:=g4 (by omega)
 subst this
 exact Out.quiet hR (run_indexAt hu hi h0 (by omega)) ⟨_,ha,b,hm,by simp [Nat.add_mul]⟩

theorem out_ia_osl (hR : R g m st tmps w) {T E E' : TypeId} {i : TypeInfo} (hu : P.underlying T = some (.slice E)) (hi : P.info? E = some i) {id : Nat} {rows : List (List C)} {fz : Bool} (hid : st.σ id = some (.arr E' i.size rows fz))
  {v : Value} (hc : RC (g.env m st w) (.osl id) v) {k : IntKind} {n : Int} (h0 : 0≤n) (h1 : n < rows.length) :
  Out P g st tmps w (do pure (.value (← Instr.indexAt T v (.int k n)))) (.c (.ep id n.toNat 0)) []:=by
 obtain ⟨a,ha,hc⟩:=hc
 have ha' : st.σ id = some a:=ha
 rw [hid] at ha';cases ha'
 simp only at hc
 split at hc
 ·rename_i hm
  have hE:=hR.ent id _ hid
  rw [show m id = none from hm] at hE
  obtain ⟨_,_,⟨_,rfl⟩ | ⟨_,_,_,h,_⟩⟩:=hE
  ·simp at h1;omega
  ·cases h
 ·rename_i b hm
  obtain ⟨cur,cap,g1,g2,rfl⟩:=hc
  exact Out.quiet hR (run_indexAt hu hi h0 h1) ⟨_,ha,b,hm,by simp⟩

end
end Go.Abs

namespace Go.Abs
open Go

section
variable {P : Program} {g : Gr} {m : Nat→Option Nat} {st : St} {tmps : Array Value} {w : World} {a : Act}

theorem zero_rc {e : Env} {z : Value} (h : z.cells.all one = true) : RL (RC e) (z.cells.toList.map .v) z.cells.toList:=by
 refine ⟨by simp,fun j x y hx hy=>?_⟩
 simp only [List.getElem?_map,hy,Option.map_some,Option.some.injEq] at hx
 subst hx
 rw [Array.all_eq_true_iff_forall_mem] at h
 exact RD.v y (h y (Array.mem_toList_iff.1 (List.mem_of_getElem? hy)))

theorem czero_spec {E : TypeId} {z : List C} {s b : Nat} (h : czero P E = some (z,s,b)) : ∃ i zv,P.info? E = some i∧i.zero = some zv∧zv.cells.all one = true∧zv.cells.size = i.size∧z = zv.cells.toList.map .v∧s = i.size∧b = i.bytes:=by
 unfold czero at h
 split at h
 ·rename_i i hi
  split at h
  ·rename_i zv hz
   split at h
   ·rename_i hc
    simp only [Bool.and_eq_true,beq_iff_eq] at hc
    cases h
    exact ⟨i,zv,hi,hz,hc.1,hc.2,rfl,rfl,rfl⟩
   ·cases h
  ·cases h
 ·cases h

theorem replicate_flat {z : List C} {zv : List Value} {e : Env} (h : RL (RC e) z zv) (n : Nat) {cur : Array Value} {s : Nat} (hs : zv.length = s) (hcur : ∀ k,k < n * s→cur[k]? = some (zv.getD (k % s) undef)) (hsz : n * s≤cur.size) :
  RowsAt e s (List.replicate n z) (cur.toList.take (n * s)):=by
 have hzl : z.length = s:=h.1.trans hs
 refine ⟨by simp;omega,fun r hr=>by rw [List.eq_of_mem_replicate hr];exact hzl,fun i r j c h1 h2=>?_⟩
 have hr : r = z:=List.eq_of_mem_replicate (List.mem_of_getElem? h1)
 subst hr
 have hi : i < n:=by
  rcases Nat.lt_or_ge i n with h' | h'
  ·exact h'
  ·rw [List.getElem?_eq_none (by simpa using h')] at h1;cases h1
 have hj : j < s:=by
  rcases Nat.lt_or_ge j r.length with h' | h'
  ·omega
  ·rw [List.getElem?_eq_none h'] at h2;cases h2
 have hk:=mul_lt_row hi hj
 obtain ⟨x,hx,hxr⟩:=h.get h2
 refine ⟨x,?_,hxr⟩
 rw [List.getElem?_take,if_pos hk]
 have:=hcur _ hk
 simp only [Array.getElem?_toList]
 rw [this]
 have hm : (i * s + j) % s = j:=by rw [Nat.add_comm,Nat.add_mul_mod_self_right,Nat.mod_eq_of_lt hj]
 rw [hm]
 simp [hx]

theorem run_make0 {T E : TypeId} {i : TypeInfo} {zv : Value} (hu : P.underlying T = some (.slice E)) (hi : P.info? E = some i) (hz : i.zero = some zv) (hs : 0 < i.size) {k k' : IntKind} {n c : Int} (h0 : 0≤n) (hnc : n≤c)
  (hb : (i.bytes : Int) * c≤281474976710656) (h63 : c≤9223372036854775807) : ∃ cur : Array Value,(Instr.makeSlice T (.int k n) (.int k' c)).run P w = .ok (.slice (some ⟨w.heap.size,0,none⟩) n.toNat c.toNat) (w.alloc (.cells cur E)) ∧
   cur.size = c.toNat * i.size∧∀ j,j < c.toNat * i.size→cur[j]? = some (zv.cells[j % zv.cells.size]!):=by
 have hw : IntKind.i64.wrap n = n:=by unfold IntKind.wrap;simp [IntKind.signed,IntKind.bits];omega
 have hw' : IntKind.i64.wrap c = c:=by unfold IntKind.wrap;simp [IntKind.signed,IntKind.bits];omega
 have c1 : ¬ c < 0:=by omega
 have c2 : ¬ (281474976710656 : Int) < i.bytes * c:=by omega
 have c3 : ¬ n < 0:=by omega
 have c4 : ¬ c < n:=by omega
 by_cases hn : c.toNat * i.size = 0
 ·have hc0 : c.toNat = 0:=by
   rcases Nat.mul_eq_zero.1 hn with h | h
   ·exact h
   ·omega
  have hc0' : c = 0:=by omega
  subst hc0'
  have hn0 : n = 0:=by omega
  subst hn0
  refine ⟨#[],?_,by simp,by simp⟩
  simp [Instr.makeSlice,run_underlying hu,asInt,asIntOf,typeInfo,hi,hw,sizeOf,newRow]
  rw [show Array.range 0 = (#[] : Array Nat) from by simp [Array.range]]
  simp
 ·refine ⟨(Array.range (c.toNat * i.size)).map (zv.cells[· % zv.cells.size]!),?_,by simp,fun j hj=>by simp [hj]⟩
  simp [Instr.makeSlice,run_underlying hu,asInt,asIntOf,typeInfo,hi,hw,hw',c1,c2,c3,c4,sizeOf,zeroValue,hz,newRow]
  intro h;exact absurd h hn

theorem out_mkS (hR : R g m st tmps w) {T E : TypeId} {i : TypeInfo} {zv : Value} (hu : P.underlying T = some (.slice E)) (hi : P.info? E = some i) (hz : i.zero = some zv) (hone : zv.cells.all one = true) (hzs : zv.cells.size = i.size)
  (hs : 0 < i.size) (hby : 0 < i.bytes) {fr : Nat} (hfr : st.σ fr = none) {k k' : IntKind} {n c : Int} (h0 : 0≤n) (hnc : n≤c) (hb : c * (i.bytes : Int)≤140737488355328) :
  Out P g st tmps w (do pure (.value (← Instr.makeSlice T (.int k n) (.int k' c)))) (.c (.osl fr)) [(fr,.arr E i.size (List.replicate n.toNat (zv.cells.toList.map .v)) false)]:=by
 have hcb : c≤c * (i.bytes : Int):=by
  have:=Int.mul_le_mul_of_nonneg_left (show (1 : Int)≤i.bytes by omega) (show 0≤c by omega)
  omega
 obtain ⟨cur,hrun,hsz,hcur⟩:=run_make0 (w:=w) (k:=k) (k':=k') hu hi hz hs h0 hnc (by rw [Int.mul_comm];omega) (by omega)
 have hle : n.toNat≤c.toNat:=by omega
 have hnc' : n.toNat * i.size≤c.toNat * i.size:=Nat.mul_le_mul_right _ hle
 have hrows : RowsAt (g.env m st w) i.size (List.replicate n.toNat (zv.cells.toList.map .v)) (cur.toList.take (n.toNat * i.size)) :=
  replicate_flat (zero_rc hone) n.toNat (by simpa using hzs) (fun j hj=>by
   rw [hcur j (by omega)]
   have hm : j % i.size < i.size:=Nat.mod_lt _ hs
   have hm' : j % zv.cells.size < zv.cells.size:=by rw [hzs];exact hm
   simp only [hzs]
   rw [getElem!_pos zv.cells (j % i.size) (by omega)]
   simp [List.getD,List.getElem?_eq_getElem (show j % i.size < zv.cells.toList.length by simp;omega)]) (by omega)
 have hf:=out_fresh (E:=E) hR (w1:=w) rfl rfl rfl rfl hfr hs (cur:=cur) (cap:=c.toNat) hrows hsz (by simpa using hle) (by unfold maxLen;omega) (fun j hj=>by
  rw [List.getElem?_take,if_pos (by simp at hj;omega)];simp)
 rw [List.length_replicate] at hf
 exact ⟨.value _,_,_,_,by simp [hrun],rfl,hf.1,hf.2⟩

theorem rd_cut {h : Array Obj} {ok : Nat→Prop} {rows : List (List C)} {b off cap s lo hi : Nat} (hr : RD h ok (.sl rows) (.slice (some ⟨b,off,none⟩) rows.length cap)) (hs : ∀ r ∈ rows,r.length = s) (h1 : lo≤hi) (h2 : hi≤rows.length) :
  RD h ok (.sl ((rows.take hi).drop lo)) (.slice (some (if cap = lo then ⟨b,off,none⟩ else (⟨b,off,none⟩ : Addr).add (lo * s))) (hi - lo) (cap - lo)):=by
 generalize hv : Value.slice (some ⟨b,off,none⟩) rows.length cap = v at hr
 cases hr with
 | nil=>cases hv
 | emp =>
  cases hv
  simp only [List.length_nil] at h2
  have e1 : hi = 0:=by omega
  have e2 : lo = 0:=by omega
  subst e1;subst e2
  simp only [List.take_zero,List.drop_nil,Nat.sub_zero,Nat.zero_mul]
  split <;> exact .emp _ _
 | sl _ s' b' off' cap' f hok hs' hc hrr hcap =>
  cases hv
  have hl : ((rows.take hi).drop lo).length = hi - lo:=by simp;omega
  have hss : rows≠[]→s' = s:=fun hne=>by
   obtain ⟨r,hr⟩:=List.exists_mem_of_ne_nil _ hne
   rw [← hs r hr,← hs' r hr]
  by_cases hcl : cap = lo
  ·have he : (rows.take hi).drop lo = []:=List.eq_nil_of_length_eq_zero (by omega)
   rw [if_pos hcl,he]
   have : hi - lo = ([] : List (List C)).length:=by simp;omega
   rw [this]
   exact .sl [] s b off (cap - lo) (fun _ _=>undef) hok (by simp) (fun i r j c h=>by simp at h) (fun i r j c h=>by simp at h) (by simp)
  ·rw [if_neg hcl,addr_add,← hl]
   have key : ∀ (i : Nat) (r : List C),((rows.take hi).drop lo)[i]? = some r→rows[lo + i]? = some r:=fun i r h=>by
    rw [List.getElem?_drop,List.getElem?_take] at h
    split at h
    ·exact h
    ·cases h
   refine .sl _ s b (off + lo * s) (cap - lo) (fun i j=>f (lo + i) j) hok (fun r hr=>hs r (List.mem_of_mem_take (List.mem_of_mem_drop hr))) (fun i r j c h3 h4=>?_) (fun i r j c h3 h4=>hrr (lo + i) r j c (key i r h3) h4) (by omega)
   have h5:=key i r h3
   have hne : rows≠[]:=by rintro rfl;simp at h5
   have:=hc (lo + i) r j c h5 h4
   rw [hss hne,Nat.add_mul] at this
   rw [← this];congr 1;omega

theorem run_sliceBounds {isS : Bool} {len cap : Nat} {lo hi : Option Value} {l h : Int} (hlo : (lo = none∧l = 0)∨∃ k,lo = some (.int k l)) (hhi : (hi = none∧h = len)∨∃ k,hi = some (.int k h))
  (h0 : 0≤l) (h1 : l≤h) (h2 : h≤cap) : (Instr.sliceBounds isS len cap lo hi none).run P w = .ok (l.toNat,h.toNat,cap) w:=by
 have e1 : ∀ (k : IntKind) (code : BoundsCode),(Instr.sliceBound (.int k h) cap code).run P w = .ok h.toNat w:=fun k code=>by
  simp only [Instr.sliceBound,asIntOf,Sem.run_bind,Sem.run_pure,Result.andThen_ok]
  rw [if_pos ⟨by omega,h2⟩,Sem.run_pure]
 have e2 : ∀ (k : IntKind) (code : BoundsCode),(Instr.sliceBound (.int k l) h.toNat code).run P w = .ok l.toNat w:=fun k code=>by
  simp only [Instr.sliceBound,asIntOf,Sem.run_bind,Sem.run_pure,Result.andThen_ok]
  rw [if_pos ⟨h0,by omega⟩,Sem.run_pure]
 rcases hlo with ⟨rfl,rfl⟩ | ⟨k,rfl⟩ <;> rcases hhi with ⟨rfl,rfl⟩ | ⟨k',rfl⟩
 ·simp [Instr.sliceBounds]
 ·simp [Instr.sliceBounds,e1]
 ·have e3:=e2 k;simp only [Int.toNat_natCast] at e3;simp [Instr.sliceBounds,e3]
 ·simp [Instr.sliceBounds,e1,e2]

end
end Go.Abs

namespace Go.Abs
open Go

section
variable {P : Program} {g : Gr} {m : Nat→Option Nat} {st : St} {tmps : Array Value} {w : World} {a : Act}

theorem isDRows_rd {e : Env} {rows : List (List C)} (hd : isDRows rows) {i j : Nat} {r : List C} {c : C} (h1 : rows[i]? = some r) (h2 : r[j]? = some c) {x : Value} (h : RC e c x) : RD e.h e.ok c x :=
 h.rd (hd r (List.mem_of_getElem? h1) c (List.mem_of_getElem? h2))

theorem osl_rd (hR : R g m st tmps w) {id : Nat} {E : TypeId} {s : Nat} {rows : List (List C)} (hid : st.σ id = some (.arr E s rows true)) (hd : isDRows rows) {v : Value} (hc : RC (g.env m st w) (.osl id) v) (hok : ∀ b,m id = some b→(g.env m st w).ok b) :
  RD (g.env m st w).h (g.env m st w).ok (.sl rows) v:=by
 obtain ⟨a,ha,hc⟩:=hc
 have ha' : st.σ id = some a:=ha
 rw [hid] at ha';cases ha'
 have hE:=hR.ent id _ hid
 simp only at hc
 split at hc
 ·rename_i hm
  rw [show m id = none from hm] at hE
  obtain ⟨_,_,⟨_,rfl⟩ | ⟨_,_,_,h,_⟩⟩:=hE
  ·subst hc;exact .nil
  ·cases h
 ·rename_i b hm
  obtain ⟨cur,cap,h1,h2,rfl⟩:=hc
  rw [show m id = some b from hm] at hE
  obtain ⟨h0,h4,h' | ⟨b',cur',cap',h',g1,g2,g3,g4,g5⟩⟩:=hE
  ·cases h'.1
  ·cases h'
   rw [h1] at g1;cases g1
   have hcap : cap = cap':=Nat.eq_of_mul_eq_mul_right h0 (by omega)
   subst hcap
   refine .sl rows s b 0 cap (fun i j=>(cur[i * s + j]?).getD undef) (hok b hm) h4 (fun i r j c k1 k2=>?_) (fun i r j c k1 k2=>?_) g3
   ·obtain ⟨x,hx,_⟩:=g5 i r j c k1 k2
    rw [cellAt_of h1,Nat.zero_add];simp [hx]
   ·obtain ⟨x,hx,hxr⟩:=g5 i r j c k1 k2
    simp only [hx,Option.getD_some]
    exact isDRows_rd hd k1 k2 hxr

theorem ok_frozen (hR : R g m st tmps w) {id : Nat} {E : TypeId} {s : Nat} {rows : List (List C)} {fz : Bool} (hid : st.σ id = some (.arr E s rows fz)) {b : Nat} (hb : m id = some b) :
  (g.env m { st with σ:=upd st.σ id (some (.arr E s rows true)) } w).ok b:=by
 have hp:=hR.place id _ b hid (by simp) hb
 refine ⟨?_,hp.1,fun id' e he hm hmb=>?_⟩
 ·rcases hp.2 with h' | h'
  ·exact .inr h'
  ·exact .inl (.inr h')
 ·have he' : upd st.σ id (some (.arr E s rows true)) id' = some e:=he
  simp only [upd_apply] at he'
  split at he'
  ·cases he';cases hm
  ·rename_i hne
   exact hne (hR.inj id' id e _ b he' hid hm (by simp) hmb hb)

theorem run_slc_sl {T E : TypeId} {i : TypeInfo} (hu : P.underlying T = some (.slice E)) (hi : P.info? E = some i) {rows : List (List C)} {v : Value} (hc : RD (g.env m st w).h (g.env m st w).ok (.sl rows) v)
  (hs : ∀ r ∈ rows,r.length = i.size) {lo hi' : Option Value} {l h : Int} (hlo : (lo = none∧l = 0)∨∃ k,lo = some (.int k l)) (hhi : (hi' = none∧h = rows.length)∨∃ k,hi' = some (.int k h))
  (h0 : 0≤l) (h1 : l≤h) (h2 : h≤rows.length) :
  ∃ x,(Instr.sliceAt T v lo hi' none).run P w = .ok x w∧RD (g.env m st w).h (g.env m st w).ok (.sl ((rows.take h.toNat).drop l.toNat)) x:=by
 have hrun : ∀ (ad : Option Addr) (cap : Nat),rows.length≤cap→(Instr.sliceAt T (.slice ad rows.length cap) lo hi' none).run P w =
   .ok (.slice (if cap = l.toNat then ad else ad.map (·.add (l.toNat * i.size))) (h.toNat - l.toNat) (cap - l.toNat)) w:=fun ad cap hcap=>by
  have hb:=run_sliceBounds (P:=P) (w:=w) (isS:=true) (len:=rows.length) (cap:=cap) hlo hhi h0 h1 (by omega)
  simp [Instr.sliceAt,Instr.slice,run_underlying hu,hb,sizeOf,typeInfo,hi]
 generalize hq : C.sl rows = q at hc
 cases hc with
 | v x hx=>cases hq
 | nil =>
  cases hq
  have hr:=hrun none 0 (by simp)
  have e1 : h.toNat = 0:=by simp at h2;omega
  have e2 : l.toNat = 0:=by omega
  simp only [List.length_nil,e1,e2] at hr
  exact ⟨_,hr,by simp [e2];exact .nil⟩
 | emp ad cap =>
  cases hq
  have hr:=hrun (some ad) cap (by simp)
  have e1 : h.toNat = 0:=by simp at h2;omega
  have e2 : l.toNat = 0:=by omega
  simp only [List.length_nil,e1,e2] at hr
  refine ⟨_,hr,?_⟩
  simp only [e1,e2,List.take_zero,List.drop_nil]
  split <;> exact .emp _ _
 | sl rows' s b off cap f hok hs' hcc hrr hcap =>
  cases hq
  have hr:=hrun (some ⟨b,off,none⟩) cap hcap
  have hd:=rd_cut (lo:=l.toNat) (hi:=h.toNat) (RD.sl rows s b off cap f hok hs' hcc hrr hcap) hs (by omega) (by omega)
  refine ⟨_,hr,?_⟩
  have : (if cap = l.toNat then some (⟨b,off,none⟩ : Addr) else (some (⟨b,off,none⟩ : Addr)).map (·.add (l.toNat * i.size))) = some (if cap = l.toNat then ⟨b,off,none⟩ else (⟨b,off,none⟩ : Addr).add (l.toNat * i.size)):=by split <;> rfl
  rw [this]
  exact hd

theorem take_get0 {α : Type} {l : List α} {n i : Nat} {x : α} (h : (l.take n)[i]? = some x) : l[i]? = some x:=by
 rw [List.getElem?_take] at h
 split at h
 ·exact h
 ·cases h

theorem out_len (hR : R g m st tmps w) {T : TypeId} {d : TypeDesc} (hu : P.underlying T = some d) {ty : TypeId} {v : Value} {n : Nat}
  (h : (d = .string∧∃ s : ByteArray,v = .string s∧n = s.size)∨((∃ E,d = .slice E)∧∃ ad cap,v = .slice ad n cap)∨((∃ K V,d = .map K V)∧∃ r es clock,v = .map (some r)∧w.heap[r]? = some (.map es clock)∧n = es.size)) :
  Out P g st tmps w (do pure (.value (← Builtin.len_ #[T] ty #[v]))) (.c (.v (.int .i64 n))) []:=by
 refine Out.quiet hR (v:=.int .i64 n) ?_ (RD.v _ rfl)
 rcases h with ⟨rfl,s,rfl,rfl⟩ | ⟨⟨E,rfl⟩,ad,cap,rfl⟩ | ⟨⟨K,V,rfl⟩,r,es,clock,rfl,hr,rfl⟩
 ·simp [Builtin.len_,run_underlying hu,goInt]
 ·simp [Builtin.len_,run_underlying hu,goInt]
 ·simp [Builtin.len_,run_underlying hu,goInt,getObj,Sem.run,hr]

theorem slAt_len {e : Env} {rows : List (List C)} {c : C} {v : Value} (h : RC e c v) (hr : rowsOf e.σ c = some rows) (hent : ∀ id a,e.σ id = some a→REnt e (e.m id) a) : ∃ ad cap,v = .slice ad rows.length cap:=by
 unfold rowsOf at hr
 split at hr
 ·cases hr
  have:=rc_v h
  exact ⟨none,0,this⟩
 ·cases hr
  have:=rc_v h
  exact ⟨_,_,this⟩
 ·cases hr
  have h' : RD e.h e.ok (.sl rows) v:=h
  cases h' with
  | nil=>exact ⟨none,0,rfl⟩
  | emp=>exact ⟨_,_,rfl⟩
  | sl=>exact ⟨_,_,rfl⟩
 ·rename_i id
  split at hr
  ·rename_i E s rows' fz hid
   cases hr
   obtain ⟨a,ha,h⟩:=h
   rw [hid] at ha;cases ha
   have hE:=hent id _ hid
   simp only at h
   split at h
   ·rename_i hm
    rw [hm] at hE
    obtain ⟨_,_,⟨_,rfl⟩ | ⟨_,_,_,h',_⟩⟩:=hE
    ·exact ⟨none,0,h⟩
    ·cases h'
   ·obtain ⟨_,_,_,_,rfl⟩:=h;exact ⟨_,_,rfl⟩
  ·cases hr
 ·rename_i id lo q
  split at hr
  ·rename_i E s rows' fz hid
   cases hr
   obtain ⟨a,ha,h⟩:=h
   rw [hid] at ha;cases ha
   obtain ⟨b,o,cap,cur,hm,_,_,rfl,h1,_⟩:=h
   have hlq : ((rows'.drop lo).take q).length = q:=by simp;omega
   exact ⟨_,cap - lo,by rw [hlq]⟩
  ·cases hr
 ·cases hr

def rowInt : List C→Int
 | [.v (.int _ n)]=>n
 | _=>0

theorem strOfNums_rows {rows : List (List C)} (h : ∀ r ∈ rows,isByteRow r) : strOfNums (rows.map rowInt) = ⟨(rows.map rowByte).toArray⟩:=by
 unfold strOfNums
 congr 2
 rw [List.map_map]
 refine List.map_congr_left fun r hr=>?_
 obtain ⟨n,rfl⟩:=h r hr
 rfl

theorem out_b2s (hR : R g m st tmps w) {S T E : TypeId} (hS : P.underlying S = some (.slice E)) (hE : P.underlying E = some (.int .u8)) (hT : P.underlying T = some .string) {rows : List (List C)} {v : Value}
  (h : SlAt (g.env m st w) 1 rows v) (hb : ∀ r ∈ rows,isByteRow r) : Out P g st tmps w (do pure (.value (← convert S T v))) (.c (.v (.string ⟨(rows.map rowByte).toArray⟩))) []:=by
 refine Out.quiet hR (v:=.string ⟨(rows.map rowByte).toArray⟩) ?_ (RD.v _ rfl)
 rcases h with ⟨rfl,ad,cap,rfl⟩ | ⟨b,off,cap,rfl,_,h⟩
 ·cases ad with
  | none=>rw [run_convert_bytes_nil w S E hS hE 0 cap T hT];rfl
  | some ad =>
   have hl : (loadCells ad 0).run P w = .ok (([] : List Int).map (Value.int .u8)).toArray w:=by
    simpa using run_loadCells_list (P:=P) w ad [] (fun j v hj=>by simp at hj)
   rw [run_convert_bytes_string w S T E _ 0 cap hS hE hT,run_bytesToString w _ 0 cap [] hl]
   rfl
 ·rw [← strOfNums_rows hb]
  refine run_convert_bytes_arg w S E hS hE b off rows.length cap (rows.map rowInt) (by simp) (fun i hi=>?_) T hT
  have hr : rows[i]? = some rows[i]:=List.getElem?_eq_getElem hi
  obtain ⟨n,hn⟩:=hb rows[i] (List.getElem_mem hi)
  obtain ⟨x,hx,hxr⟩:=h i rows[i] 0 (.v (.int .u8 n)) hr (by rw [hn];rfl)
  rw [cell?_eq]
  have hx' : cellAt w.heap b (off + i * 1 + 0) = some x:=hx
  simp only [Nat.mul_one,Nat.add_zero] at hx'
  rw [hx',rc_v hxr]
  have : (rows.map rowInt).getD i 0 = n:=by simp [List.getD,hr,hn,rowInt]
  rw [this]

theorem out_s2b (hR : R g m st tmps w) {S T E : TypeId} (hS : P.underlying S = some .string) (hT : P.underlying T = some (.slice E)) (hE : P.underlying E = some (.int .u8)) {s : ByteArray} :
  Out P g st tmps w (do pure (.value (← convert S T (.string s)))) (.c (.sl (s.data.toList.map byteRow))) []:=by
 have hr:=run_bytes_of_string (P:=P) w S T E s hS hT hE
 have hR1:=hR.same (w':=w.drew) rfl rfl rfl rfl
 generalize hC : bytesRow s (grownCap w s.size 0 E) = ar at hr
 have hcap : s.size≤grownCap w s.size 0 E:=grownCap_ge w s.size 0 E
 generalize grownCap w s.size 0 E = cap at hr hC hcap
 have hg:=hR1.garbage (.cells ar E (ar.size,ar.size + 1)) (w':=w.drew.alloc (.cells ar E (ar.size,ar.size + 1))) rfl rfl rfl rfl
 have hl : (s.data.toList.map byteRow).length = s.size:=by rw [List.length_map,Array.length_toList];rfl
 refine ⟨.value (.slice (some ⟨w.heap.size,0,none⟩) s.size cap),_,m,_,by simp [hr],rfl,hg.1,?_⟩
 have key : RD (w.drew.alloc (.cells ar E (ar.size,ar.size + 1))).heap (g.env m st (w.drew.alloc (.cells ar E (ar.size,ar.size + 1)))).ok (.sl (s.data.toList.map byteRow)) (.slice (some ⟨w.heap.size,0,none⟩) (s.data.toList.map byteRow).length cap):=by
  refine .sl _ 1 w.heap.size 0 cap (fun i _=>.int .u8 ((s.data.toList[i]?).getD 0).toNat) hg.2 (by simp [byteRow]) (fun i r j c h1 h2=>?_) (fun i r j c h1 h2=>?_) (by omega)
  ·simp only [List.getElem?_map] at h1
   cases hb : s.data.toList[i]? with
   | none=>rw [hb] at h1;cases h1
   | some b =>
    rw [hb] at h1;cases h1
    have hj : j = 0:=by
     rcases Nat.lt_or_ge j 1 with h | h
     ·omega
     ·rw [List.getElem?_eq_none (by simpa [byteRow] using h)] at h2;cases h2
    subst hj
    have hil : i < s.data.size:=by
     rcases Nat.lt_or_ge i s.data.toList.length with h | h
     ·simpa using h
     ·simp [List.getElem?_eq_none h] at hb
    rw [cellAt_of (T:=E) (fr:=(ar.size,ar.size + 1)) (cur:=ar) (by show (w.heap.push _)[w.heap.size]? = _;exact push_new _ _),← hC]
    unfold bytesRow
    simp only [Nat.zero_add,Nat.mul_one,Nat.add_zero,Option.getD_some]
    rw [Array.getElem?_append_left (by simpa using hil)]
    simp only [Array.getElem?_toList] at hb
    simp [hb]
  ·simp only [List.getElem?_map] at h1
   cases hb : s.data.toList[i]? with
   | none=>rw [hb] at h1;cases h1
   | some b =>
    rw [hb] at h1;cases h1
    cases j with
    | zero=>simp only [byteRow,List.getElem?_cons_zero,Option.some.injEq] at h2;subst h2;exact RD.v _ rfl
    | succ j=>simp [byteRow] at h2
 rw [hl] at key
 exact key

theorem run_slc0 {T E : TypeId} {i : TypeInfo} (hu : P.underlying T = some (.slice E)) (hi : P.info? E = some i) (ad : Option Addr) {len cap : Nat} {lo hi' : Option Value} {l h : Int} (hlo : (lo = none∧l = 0)∨∃ k,lo = some (.int k l))
  (hhi : (hi' = none∧h = len)∨∃ k,hi' = some (.int k h)) (h0 : 0≤l) (h1 : l≤h) (h2 : h≤cap) :
  (Instr.sliceAt T (.slice ad len cap) lo hi' none).run P w = .ok (.slice (if cap = l.toNat then ad else ad.map (·.add (l.toNat * i.size))) (h.toNat - l.toNat) (cap - l.toNat)) w:=by
 have hb:=run_sliceBounds (P:=P) (w:=w) (isS:=true) (len:=len) (cap:=cap) hlo hhi h0 h1 h2
 simp [Instr.sliceAt,Instr.slice,run_underlying hu,hb,sizeOf,typeInfo,hi]

theorem osl_shape (hR : R g m st tmps w) {id : Nat} {E : TypeId} {s : Nat} {rows : List (List C)} {fz : Bool} (hid : st.σ id = some (.arr E s rows fz)) {v : Value} (hc : RC (g.env m st w) (.osl id) v) :
  (m id = none∧rows = []∧v = .slice none 0 0)∨∃ b cur cap,m id = some b∧w.heap[b]? = some (.cells cur E (0,0))∧cur.size = cap * s∧rows.length≤cap∧cap≤maxLen∧v = .slice (some ⟨b,0,none⟩) rows.length cap ∧
   ∀ (i : Nat) (r : List C) (j : Nat) (c : C),rows[i]? = some r→r[j]? = some c→∃ x,cur[i * s + j]? = some x∧RC (g.env m st w) c x:=by
 obtain ⟨a,ha,hc⟩:=hc
 have ha' : st.σ id = some a:=ha
 rw [hid] at ha';cases ha'
 have hE:=hR.ent id _ hid
 simp only at hc
 split at hc
 ·rename_i hm
  rw [show m id = none from hm] at hE
  obtain ⟨_,_,⟨_,rfl⟩ | ⟨_,_,_,h,_⟩⟩:=hE
  ·exact .inl ⟨hm,rfl,hc⟩
  ·cases h
 ·rename_i b hm
  obtain ⟨cur,cap,h1,h2,rfl⟩:=hc
  rw [show m id = some b from hm] at hE
  obtain ⟨h0,_,⟨h,_⟩ | ⟨b',cur',cap',h,g1,g2,g3,g4,g5⟩⟩:=hE
  ·cases h
  cases h
  rw [h1] at g1;cases g1
  have hcap : cap = cap':=Nat.eq_of_mul_eq_mul_right h0 (by omega)
  subst hcap
  exact .inr ⟨b,cur,cap,hm,h1,h2,g3,g4,rfl,g5⟩

theorem run_sliceBounds3 {isS : Bool} {len cap : Nat} {lo hi : Option Value} {mx : Value} {l h mm : Int} (hlo : (lo = none∧l = 0)∨∃ k,lo = some (.int k l)) (hhi : ∃ k,hi = some (.int k h)) (hm : ∃ k,mx = .int k mm)
  (h0 : 0≤l) (h1 : l≤h) (h2 : h≤mm) (h3 : mm≤cap) : (Instr.sliceBounds isS len cap lo hi (some mx)).run P w = .ok (l.toNat,h.toNat,mm.toNat) w:=by
 obtain ⟨k1,rfl⟩:=hhi
 obtain ⟨k2,rfl⟩:=hm
 have e0 : ∀ (code : BoundsCode),(Instr.sliceBound (.int k2 mm) cap code).run P w = .ok mm.toNat w:=fun code=>by
  simp only [Instr.sliceBound,asIntOf,Sem.run_bind,Sem.run_pure,Result.andThen_ok]
  rw [if_pos ⟨by omega,h3⟩,Sem.run_pure]
 have e1 : ∀ (code : BoundsCode),(Instr.sliceBound (.int k1 h) mm.toNat code).run P w = .ok h.toNat w:=fun code=>by
  simp only [Instr.sliceBound,asIntOf,Sem.run_bind,Sem.run_pure,Result.andThen_ok]
  rw [if_pos ⟨by omega,by omega⟩,Sem.run_pure]
 have e2 : ∀ (k : IntKind) (code : BoundsCode),(Instr.sliceBound (.int k l) h.toNat code).run P w = .ok l.toNat w:=fun k code=>by
  simp only [Instr.sliceBound,asIntOf,Sem.run_bind,Sem.run_pure,Result.andThen_ok]
  rw [if_pos ⟨h0,by omega⟩,Sem.run_pure]
 rcases hlo with ⟨rfl,rfl⟩ | ⟨k,rfl⟩
 ·simp [Instr.sliceBounds,e0,e1]
 ·simp [Instr.sliceBounds,e0,e1,e2]

theorem run_slc30 {T E : TypeId} {i : TypeInfo} (hu : P.underlying T = some (.slice E)) (hi : P.info? E = some i) (ad : Option Addr) {len cap : Nat} {lo hi' : Option Value} {mx : Value} {l h mm : Int} (hlo : (lo = none∧l = 0)∨∃ k,lo = some (.int k l))
  (hhi : ∃ k,hi' = some (.int k h)) (hm : ∃ k,mx = .int k mm) (h0 : 0≤l) (h1 : l≤h) (h2 : h≤mm) (h3 : mm≤cap) :
  (Instr.sliceAt T (.slice ad len cap) lo hi' (some mx)).run P w = .ok (.slice (if mm.toNat = l.toNat then ad else ad.map (·.add (l.toNat * i.size))) (h.toNat - l.toNat) (mm.toNat - l.toNat)) w:=by
 have hb:=run_sliceBounds3 (P:=P) (w:=w) (isS:=true) (len:=len) (cap:=cap) hlo hhi hm h0 h1 h2 h3
 simp [Instr.sliceAt,Instr.slice,run_underlying hu,hb,sizeOf,typeInfo,hi]

theorem out_slc3_sl (hR : R g m st tmps w) {T E : TypeId} {i : TypeInfo} (hu : P.underlying T = some (.slice E)) (hi : P.info? E = some i) {rows : List (List C)} {v : Value} (hc : RC (g.env m st w) (.sl rows) v)
  (hs : ∀ r ∈ rows,r.length = i.size) {lo hi' : Option Value} {mx : Value} {l h mm : Int} (hlo : (lo = none∧l = 0)∨∃ k,lo = some (.int k l)) (hhi : ∃ k,hi' = some (.int k h)) (hm : ∃ k,mx = .int k mm)
  (h0 : 0≤l) (h1 : l≤h) (h2 : h≤mm) (h3 : mm≤rows.length) :
  Out P g st tmps w (do pure (.value (← Instr.sliceAt T v lo hi' (some mx)))) (.c (.sl ((rows.take h.toNat).drop l.toNat))) []:=by
 have hc' : RD (g.env m st w).h (g.env m st w).ok (.sl rows) v:=hc
 generalize hq : C.sl rows = q at hc'
 cases hc' with
 | v x hx=>cases hq
 | nil =>
  cases hq
  have e0 : mm = 0:=by simp at h3;omega
  have e1 : h = 0:=by omega
  have e2 : l = 0:=by omega
  subst e0 e1 e2
  have hr:=run_slc30 (P:=P) (w:=w) (len:=0) (cap:=0) hu hi none hlo hhi hm h0 h1 h2 (Int.le_refl _)
  exact Out.quiet hR hr (by simp;exact RD.nil)
 | emp ad cap =>
  cases hq
  have e0 : mm = 0:=by simp at h3;omega
  have e1 : h = 0:=by omega
  have e2 : l = 0:=by omega
  subst e0 e1 e2
  have hr:=run_slc30 (P:=P) (w:=w) (len:=0) (cap:=cap) hu hi (some ad) hlo hhi hm h0 h1 h2 (by simp)
  exact Out.quiet hR hr (by simp;exact RD.emp _ _)
 | sl rows' s b off cap f hok hs' hcc hrr hcap =>
  cases hq
  have hr:=run_slc30 (P:=P) (w:=w) (len:=rows.length) (cap:=cap) hu hi (some ⟨b,off,none⟩) hlo hhi hm h0 h1 h2 (by omega)
  have hml : (rows.take mm.toNat).length = mm.toNat:=by simp;omega
  have hrd : RD (g.env m st w).h (g.env m st w).ok (.sl (rows.take mm.toNat)) (.slice (some ⟨b,off,none⟩) (rows.take mm.toNat).length mm.toNat) :=
   RD.sl (rows.take mm.toNat) s b off mm.toNat f hok (fun r hr=>hs' r (List.mem_of_mem_take hr)) (fun i r j c k1 k2=>hcc i r j c (take_get0 k1) k2) (fun i r j c k1 k2=>hrr i r j c (take_get0 k1) k2) (by omega)
  have hd:=rd_cut (lo:=l.toNat) (hi:=h.toNat) hrd (fun r hr=>hs r (List.mem_of_mem_take hr)) (by omega) (by omega)
  rw [List.take_take,Nat.min_eq_left (by omega)] at hd
  refine Out.quiet hR hr ?_
  have : (if mm.toNat = l.toNat then some (⟨b,off,none⟩ : Addr) else (some (⟨b,off,none⟩ : Addr)).map (·.add (l.toNat * i.size))) = some (if mm.toNat = l.toNat then ⟨b,off,none⟩ else (⟨b,off,none⟩ : Addr).add (l.toNat * i.size)):=by split <;> rfl
  rw [this]
  exact hd

theorem out_slc3_osl (hR : R g m st tmps w) {T E E' : TypeId} {i : TypeInfo} (hu : P.underlying T = some (.slice E)) (hi : P.info? E = some i) {id : Nat} {rows : List (List C)} {fz : Bool} (hid : st.σ id = some (.arr E' i.size rows fz)) {v : Value} (hc : RC (g.env m st w) (.osl id) v)
  {lo hi' : Option Value} {mx : Value} {l h mm : Int} (hlo : (lo = none∧l = 0)∨∃ k,lo = some (.int k l)) (hhi : ∃ k,hi' = some (.int k h)) (hm : ∃ k,mx = .int k mm)
  (h0 : 0≤l) (h1 : l≤h) (h2 : h≤mm) (h3 : mm≤rows.length) :
  Out P g st tmps w (do pure (.value (← Instr.sliceAt T v lo hi' (some mx)))) .dead []:=by
 rcases osl_shape hR hid hc with ⟨_,rfl,rfl⟩ | ⟨b,cur,cap,hm',g1,g2,g3,g4,rfl,g5⟩
 ·exact Out.quiet hR (run_slc30 (P:=P) (w:=w) (len:=0) (cap:=0) hu hi none hlo hhi hm h0 h1 h2 (by simpa using h3)) trivial
 ·exact Out.quiet hR (run_slc30 (P:=P) (w:=w) (len:=rows.length) (cap:=cap) hu hi (some ⟨b,0,none⟩) hlo hhi hm h0 h1 h2 (by omega)) trivial

theorem out_slc_win (hR : R g m st tmps w) {T E E' : TypeId} {i : TypeInfo} (hu : P.underlying T = some (.slice E)) (hi : P.info? E = some i) {id : Nat} {rows : List (List C)} {fz : Bool} (hid : st.σ id = some (.arr E' i.size rows fz)) {v : Value}
  (hc : RC (g.env m st w) (.osl id) v) {lo hi' : Option Value} {l h : Int} (hlo : (lo = none∧l = 0)∨∃ k,lo = some (.int k l)) (hhi : (hi' = none∧h = rows.length)∨∃ k,hi' = some (.int k h)) (h0 : 0≤l) (h1 : l≤h) (h2 : h≤rows.length) (hne : rows≠[]) :
  Out P g st tmps w (do pure (.value (← Instr.sliceAt T v lo hi' none))) (.c (.ow id l.toNat (h.toNat - l.toNat))) []:=by
 rcases osl_shape hR hid hc with ⟨_,h,_⟩ | ⟨b,cur,cap,hm,g1,g2,g3,g4,rfl,g5⟩
 ·exact absurd h hne
 refine Out.quiet hR (run_slc0 (len:=rows.length) hu hi _ hlo hhi h0 h1 (by omega)) ⟨_,hid,b,if cap = l.toNat then 0 else l.toNat * i.size,cap,cur,hm,g1,g2,?_,by omega,g3,fun h=>if_neg (by omega),fun h=>by split <;> simp [h]⟩
 split <;> simp [Addr.add, *]
 intro h;exact h.symm

theorem out_slc_win2 (hR : R g m st tmps w) {T E E' : TypeId} {i : TypeInfo} (hu : P.underlying T = some (.slice E)) (hi : P.info? E = some i) {id p q : Nat} {rows : List (List C)} {fz : Bool} (hid : st.σ id = some (.arr E' i.size rows fz)) {v : Value}
  (hc : RC (g.env m st w) (.ow id p q) v) {lo hi' : Option Value} {l h : Int} (hlo : (lo = none∧l = 0)∨∃ k,lo = some (.int k l)) (hhi : (hi' = none∧h = q)∨∃ k,hi' = some (.int k h)) (h0 : 0≤l) (h1 : l≤h) (h2 : p + h≤rows.length) :
  Out P g st tmps w (do pure (.value (← Instr.sliceAt T v lo hi' none))) (.c (.ow id (p + l.toNat) (h.toNat - l.toNat))) []:=by
 obtain ⟨a,ha,hc⟩:=hc
 have ha' : st.σ id = some a:=ha
 rw [hid] at ha';cases ha'
 obtain ⟨b,o,cap,cur,hm,g1,g2,rfl,g3,g4,g5,g6⟩:=hc
 refine Out.quiet hR (run_slc0 (len:=q) hu hi _ hlo hhi h0 h1 (by omega)) ⟨_,hid,b,if cap - p = l.toNat then o else o + l.toNat * i.size,cap,cur,hm,g1,g2,?_,by omega,g4,fun h=>?_,fun h=>?_⟩
 ·have : cap - (p + l.toNat) = cap - p - l.toNat:=by omega
  rw [this]
  split <;> simp [Addr.add, *]
 ·rw [if_neg (by omega),g5 (by omega),Nat.add_mul]
 ·have hp0 : p = 0:=by omega
  have hl0 : l.toNat = 0:=by omega
  rw [g6 hp0,hl0];simp

theorem take_get {α : Type} {l : List α} {n i : Nat} {x : α} (h : (l.take n)[i]? = some x) : l[i]? = some x:=by
 rw [List.getElem?_take] at h
 split at h
 ·exact h
 ·cases h

theorem out_slc_cut (hR : R g m st tmps w) {T E E' : TypeId} {i : TypeInfo} (hu : P.underlying T = some (.slice E)) (hi : P.info? E = some i) {fr : Nat} (hfr : st.σ fr = none) {id : Nat} {rows : List (List C)} (hid : st.σ id = some (.arr E' i.size rows false)) {v : Value}
  (hc : RC (g.env m st w) (.osl id) v) {lo hi' : Option Value} {h : Int} (hlo : (lo = none∧(0 : Int) = 0)∨∃ k,lo = some (.int k 0)) (hhi : (hi' = none∧h = rows.length)∨∃ k,hi' = some (.int k h)) (h0 : 0≤h) (h1 : h≤rows.length) :
  Out P g st tmps w (do pure (.value (← Instr.sliceAt T v lo hi' none))) (.c (.osl fr)) [(id,.gone),(fr,.arr E' i.size (rows.take h.toNat) false)]:=by
 have hne : fr≠id:=by rintro rfl;rw [hfr] at hid;cases hid
 have hs:=(hR.ent id _ hid).1
 rcases osl_shape hR hid hc with ⟨hm,rfl,rfl⟩ | ⟨b,cur,cap,hm,g1,g2,g3,g4,rfl,g5⟩
 ·have hfrg : upd st.σ id (some .gone) fr = none:=by rw [upd_apply,if_neg hne];exact hfr
  have hz : h = 0:=by simp at h1;omega
  subst hz
  have hr:=run_slc0 (P:=P) (w:=w) (len:=0) (cap:=0) (l:=0) (h:=0) hu hi none hlo (hhi.imp (fun h=>⟨h.1,by simp⟩) (fun h=>h)) (by omega) (by omega) (by omega)
  obtain ⟨_,hRg⟩:=hR.gone hid
  obtain ⟨_,hRv⟩:=hRg.virt hfrg (E:=E') hs
  refine ⟨.value (.slice none 0 0),_,_,w,by simp [hr],rfl,by simpa [updσ] using hRv,.arr E' i.size [] false,?_,?_⟩
  ·show upd _ _ _ _ = _;rw [upd_apply,if_pos rfl];simp
  ·show (match upd m fr none fr with | none=>_ | some b=>_)
   rw [upd_apply,if_pos rfl]
 ·have hr:=run_slc0 (P:=P) (w:=w) (len:=rows.length) (cap:=cap) (l:=0) (h:=h) hu hi (some ⟨b,0,none⟩) hlo hhi (by omega) (by omega) (by omega)
  have hv : (if cap = (0 : Int).toNat then (some (⟨b,0,none⟩ : Addr)) else (some (⟨b,0,none⟩ : Addr)).map (·.add ((0 : Int).toNat * i.size))) = some ⟨b,0,none⟩:=by split <;> simp [Addr.add]
  rw [hv] at hr
  have hR':=hR.moved (rows':=rows.take h.toNat) hfr hid hm (w':=w) rfl (fun _ _=>rfl) rfl rfl rfl (fun hle=>⟨hs,fun r hr=>(hR.ent id _ hid).2.1 r (List.mem_of_mem_take hr),.inr ⟨b,cur,cap,rfl,g1,g2,by simp;omega,g4,fun i r j c k1 k2=>by
   obtain ⟨x,hx,hxr⟩:=g5 i r j c (take_get k1) k2
   exact ⟨x,hx,RC.le hle hxr⟩⟩⟩)
  have hlen : (rows.take h.toNat).length = h.toNat:=by simp;omega
  refine ⟨.value (.slice (some ⟨b,0,none⟩) h.toNat cap),_,_,w,by simp [hr],rfl,hR',.arr E' i.size (rows.take h.toNat) false,?_,?_⟩
  ·show upd _ _ _ _ = _;rw [upd_apply,if_pos rfl]
  ·show (match upd m fr (some b) fr with | none=>_ | some b=>_)
   rw [upd_apply,if_pos rfl]
   exact ⟨cur,cap,g1,g2,by rw [hlen]⟩

theorem R.marked (hR : R g m st tmps w) {id b : Nat} {E : TypeId} {s : Nat} {rows : List (List C)} (ha : st.σ id = some (.arr E s rows false)) (hb : m id = some b) {w' : World}
  (hs : w'.heap.size = w.heap.size) (ho : ∀ k,k≠b→w'.heap[k]? = w.heap[k]?) (h1 : w'.os = w.os) (h2 : w'.tape = w.tape) (h3 : w'.output = w.output) :
  Env.Le (g.env m st w) (g.env m { st with σ:=upd st.σ id (some .gone) } w')∧R g m { st with σ:=upd st.σ id (some .gone) } tmps w':=by
 have hp:=hR.place id _ b ha (by simp) hb
 have hle : Env.Le (g.env m st w) (g.env m { st with σ:=upd st.σ id (some .gone) } w'):=by
  refine ⟨fun k hk=>⟨?_,?_⟩,fun i x hx=>?_,fun i E s rows fz k cur hi hk hcur=>?_⟩
  ·refine okOf_mono hk (by omega) fun i e he hmut hmi=>?_
   simp only [upd_apply] at he
   split at he
   ·cases he;cases hmut
   ·exact ⟨e,he,hmut,hmi⟩
  ·exact ho k (by rintro rfl;exact hk.2.2 id _ ha rfl hb)
  ·by_cases h : i = id
   ·subst h
    have : st.σ i = some x:=hx
    rw [ha] at this;cases this
    exact ⟨.gone,by show upd _ _ _ _ = _;rw [upd_apply,if_pos rfl],trivial,fun h=>absurd rfl h⟩
   ·exact ⟨x,by show upd _ _ _ _ = _;rw [upd_apply,if_neg h];exact hx,EntLe.refl _,fun _=>rfl⟩
  ·by_cases h : i = id
   ·exact .inl (by show upd _ _ _ _ = _;rw [upd_apply,if_pos h])
   ·have hkb : k≠b:=by rintro rfl;exact h (hR.inj id i _ _ k ha hi rfl (by simp) hb hk).symm
    exact .inr ⟨cur,(ho k hkb).trans hcur,rfl⟩
 refine ⟨hle,hR.next (hR.frame.step h1 h2 h3 (by omega) fun k hk hw=>ho k ?_) hle ?_ ?_ ?_⟩
 ·rintro rfl
  rcases hp.2 with h | h
  ·exact absurd hk (by unfold Gr.B at h;omega)
  ·exact hw h
 ·intro i e he
  simp only [upd_apply] at he
  split at he
  ·cases he;trivial
  ·rename_i h'
   exact REnt.le hle (hR.ent i e he) fun hg k hk=>ho k (by rintro rfl;exact h' (hR.inj id i _ e k ha he rfl hg hb hk).symm)
 ·intro i e k he hg hk
  simp only [upd_apply] at he
  rw [hs]
  split at he
  ·cases he;exact absurd rfl hg
  ·exact hR.place i e k he hg hk
 ·intro i i' e e' k he he' hme hg hk hk'
  simp only [upd_apply] at he he'
  split at he
  ·cases he;cases hme
  ·split at he'
   ·cases he';exact absurd rfl hg
   ·exact hR.inj i i' e e' k he he' hme hg hk hk'

theorem out_cvB (hR : R g m st tmps w) {S T E E' : TypeId} {s : Nat} (hST : (S == T) = true) (hS : P.underlying S = some (.slice E')) (hT : P.underlying T = some (.slice E)) (hE8 : P.underlying E = some (.int .u8)) {id : Nat} {Ea : TypeId} {rows : List (List C)}
  (hid : st.σ id = some (.arr Ea s rows false)) {v : Value} (hc : RC (g.env m st w) (.osl id) v) (hne : rows≠[]) (hd : isDRows rows) :
  Out P g st tmps w (do pure (.value (← convert S T v))) (.c (.sl rows)) [(id,.gone)]:=by
 have hent:=hR.ent id _ hid
 rcases osl_shape hR hid hc with ⟨_,h,_⟩ | ⟨b,cur,cap,hm,g1,g2,g3,g4,rfl,g5⟩
 ·exact absurd h hne
 have hb : b < w.heap.size:=heap_lt g1
 let w':=w.freeze ⟨b,cur.size,none⟩ 1
 have hw' : w' = { w with heap:=w.heap.modify b fun
   | .cells c elem (lo,hi)=>.cells c elem (if lo == hi then (cur.size,cur.size + 1) else (min lo cur.size,max hi (cur.size + 1)))
   | o=>o }:=rfl
 have hat : w'.heap[b]? = some (.cells cur Ea (cur.size,cur.size + 1)):=by
  rw [hw']
  simp only [Array.getElem?_modify,if_true,g1,Option.map_some]
  rfl
 have hoth : ∀ k,k≠b→w'.heap[k]? = w.heap[k]?:=fun k hk=>by
  rw [hw']
  simp only [Array.getElem?_modify,if_neg (Ne.symm hk)]
 have hsz : w'.heap.size = w.heap.size:=by rw [hw'];simp
 obtain ⟨hle,hR'⟩:=hR.marked hid hm (w':=w') hsz hoth rfl rfl rfl
 have hrun : (convert S T (.slice (some ⟨b,0,none⟩) rows.length cap)).run P w = .ok (.slice (some ⟨b,0,none⟩) rows.length cap) w':=by
  have hsh : w.shape? b = some (Ea,cur.size):=by simp [World.shape?,g1]
  simp [convert,run_underlying hS,run_underlying hT,run_underlying hE8,hST,markStringish,hsh]
  rfl
 refine ⟨.value (.slice (some ⟨b,0,none⟩) rows.length cap),_,m,w',by simp [hrun],rfl,hR',?_⟩
 have hp:=hR.place id _ b hid (by simp) hm
 refine RD.sl rows s b 0 cap (fun i j=>(cur[i * s + j]?).getD undef) ⟨?_,by rw [hsz];exact hb,fun id' e he hmu hmb=>?_⟩ hent.2.1 (fun i r j c k1 k2=>?_) (fun i r j c k1 k2=>?_) g3
 ·rcases hp.2 with h' | h'
  ·exact .inr h'
  ·exact .inl (.inr h')
 ·have he' : upd st.σ id (some .gone) id' = some e:=he
  simp only [upd_apply] at he'
  split at he'
  ·cases he';cases hmu
  ·rename_i hne'
   exact hne' (hR.inj id' id e _ b he' hid hmu (by simp) hmb hm)
 ·obtain ⟨x,hx,_⟩:=g5 i r j c k1 k2
  rw [show cellAt (g.env m { st with σ:=updσ st.σ [(id,Ent.gone)] } w').h b (0 + i * s + j) = _ from cellAt_of hat _,Nat.zero_add];simp [hx]
 ·obtain ⟨x,hx,hxr⟩:=g5 i r j c k1 k2
  simp only [hx,Option.getD_some]
  exact isDRows_rd hd k1 k2 (RC.le hle hxr)

theorem zeroCells_get (z : Array Value) (n : Nat) {k : Nat} (hk : k < n * z.size) : (Builtin.zeroCells z n)[k]? = some z[k % z.size]!:=by
 simp [Builtin.zeroCells,hk]

theorem zero_rows {e : Env} {zv : Value} {s : Nat} (hone : zv.cells.all one = true) (hzs : zv.cells.size = s) (hs : 0 < s) (n : Nat) : RowsAt e s (List.replicate n (zv.cells.toList.map .v)) (Builtin.zeroCells zv.cells n).toList:=by
 have h:=replicate_flat (e:=e) (zero_rc hone) n (cur:=Builtin.zeroCells zv.cells n) (s:=s) (by simpa using hzs) (fun j hj=>by
   rw [zeroCells_get _ _ (by rw [hzs];exact hj)]
   have hm : j % s < s:=Nat.mod_lt _ hs
   simp only [hzs]
   rw [getElem!_pos zv.cells (j % s) (by omega)]
   simp [List.getD,List.getElem?_eq_getElem (show j % s < zv.cells.toList.length by simp;omega)]) (by rw [zeroCells_size,hzs];exact Nat.le_refl _)
 rwa [List.take_of_length_le (by rw [Array.length_toList,zeroCells_size,hzs];exact Nat.le_refl _)] at h

theorem out_appZ (hR : R g m st tmps w) {T U ty E : TypeId} {k : IntKind} {i : TypeInfo} {zv : Value} (ht : P.underlying T = some (.slice E)) (hu : P.underlying U = some (.int k)) (hi : P.info? E = some i) (hz : i.zero = some zv) (hone : zv.cells.all one = true) (hzs : zv.cells.size = i.size)
  (hs : 0 < i.size) (hby : 0 < i.bytes) {fr : Nat} (hfr : st.σ fr = none) {n : Int} (h0 : 0 < n) (hb : n * (i.bytes : Int)≤140737488355328) :
  Out P g st tmps w (do pure (.value (← Builtin.append_ #[T,U] ty #[.slice none 0 0,.int .i64 n]))) (.c (.osl fr)) [(fr,.arr E i.size (List.replicate n.toNat (zv.cells.toList.map .v)) false)]:=by
 have hcb : n≤n * (i.bytes : Int):=by
  have:=Int.mul_le_mul_of_nonneg_left (show (1 : Int)≤i.bytes by omega) (show 0≤n by omega)
  omega
 have hw : IntKind.i64.wrap n = n:=by unfold IntKind.wrap;simp [IntKind.signed,IntKind.bits];omega
 have hbn : n.toNat * i.bytes≤140737488355328:=by
  have : ((n.toNat * i.bytes : Nat) : Int) = n * (i.bytes : Int):=by rw [Int.natCast_mul,Int.toNat_of_nonneg (by omega)]
  omega
 have hfit:=growslice_fits (need:=n.toNat) (bytes:=i.bytes) (old:=0) (by omega) hbn
 have hml : n.toNat≤maxLen:=lt_maxLen hby hbn
 have c1 : ¬ n < 0:=by omega
 have c2 : ¬ (281474976710656 : Int) < n * i.bytes:=by omega
 have c3 : ¬ n.toNat = 0:=by omega
 have c4 : ¬ n.toNat * i.size = 0:=by intro h;rcases Nat.mul_eq_zero.1 h with h | h <;> omega
 have c5 : ¬ (9223372036854775807 : Int) < (n.toNat : Int):=by omega
 have c6 : ¬ 281474976710656 < Builtin.nextslicecap n.toNat 0 * i.bytes:=by omega
 have hcg:=grownCap_ge w n.toNat 0 E
 have hcm:=grownCap_le_maxLen w n.toNat 0 E hml
 have hrun : (Builtin.append_ #[T,U] ty #[.slice none 0 0,.int .i64 n]).run P w =
   .ok (.slice (some ⟨w.heap.size,0,none⟩) n.toNat (grownCap w n.toNat 0 E))
    (w.drew.alloc (.cells ((#[] : Array Value) ++ Builtin.zeroCells zv.cells n.toNat ++ Builtin.zeroCells zv.cells (grownCap w n.toNat 0 E - n.toNat)) E)):=by
  simp [Builtin.append_,run_underlying ht,run_underlying hu,sizeOf,typeInfo,zeroValue,hi,hz,asInt,asIntOf,hw,c1,c2,c4,c6,Question.forced,newRow,grownCap,Builtin.firstCells]
  rw [if_neg (by omega),if_neg (by omega)]
 have hf:=out_fresh (E:=E) hR (w1:=w.drew) rfl rfl rfl rfl hfr hs (cur:=(#[] : Array Value) ++ Builtin.zeroCells zv.cells n.toNat ++ Builtin.zeroCells zv.cells (grownCap w n.toNat 0 E - n.toNat)) (cap:=grownCap w n.toNat 0 E)
  (zero_rows hone hzs hs n.toNat) (by simp only [Array.size_append,zeroCells_size,hzs,Array.size_empty,Nat.zero_add,← Nat.add_mul];congr 1;omega) (by simpa using hcg) hcm (fun j hj=>by
   rw [Array.getElem?_append_left (by simpa using hj)];simp)
 rw [List.length_replicate] at hf
 exact ⟨.value _,_,_,_,by simp [hrun],rfl,hf.1,hf.2⟩

theorem rowsAt_sub {e : Env} {s : Nat} {rows : List (List C)} {cur : Array Value} (hrl : ∀ r ∈ rows,r.length = s) (g5 : ∀ (i : Nat) (r : List C) (j : Nat) (c : C),rows[i]? = some r→r[j]? = some c→∃ x,cur[i * s + j]? = some x∧RC e c x) (hl : rows.length * s≤cur.size) (p n : Nat) (h : p + n≤rows.length) :
  RowsAt e s ((rows.drop p).take n) ((cur.toList.drop (p * s)).take (n * s)):=by
 have hps : (p + n) * s≤cur.size:=Nat.le_trans (Nat.mul_le_mul_right _ h) hl
 rw [Nat.add_mul] at hps
 have hlen : ((rows.drop p).take n).length = n:=by simp;omega
 refine ⟨by rw [hlen];simp;omega,fun r hr=>hrl r (List.mem_of_mem_drop (List.mem_of_mem_take hr)),fun k r j c q1 q2=>?_⟩
 have hkn : k < n:=by
  rcases Nat.lt_or_ge k n with h' | h'
  ·exact h'
  ·rw [List.getElem?_eq_none (by rw [hlen];exact h')] at q1;cases q1
 have q1' : rows[p + k]? = some r:=by
  rw [List.getElem?_take,if_pos hkn] at q1
  simpa using q1
 have hjs : j < s:=by
  rw [← hrl r (List.mem_of_getElem? q1')]
  rcases Nat.lt_or_ge j r.length with h' | h'
  ·exact h'
  ·simp [List.getElem?_eq_none h'] at q2
 obtain ⟨y,hy,hyr⟩:=g5 _ r j c q1' q2
 refine ⟨y,?_,hyr⟩
 rw [List.getElem?_take,if_pos (mul_lt_row hkn hjs),List.getElem?_drop]
 rw [Nat.add_mul,Nat.add_assoc] at hy
 simpa using hy

theorem out_win (hR : R g m st tmps w) {E : TypeId} {s id b cap p : Nat} {rows new : List (List C)} {cur : Array Value} {news : List Value} (hid : st.σ id = some (.arr E s rows false)) (hm : m id = some b) (g1 : w.heap[b]? = some (.cells cur E (0,0)))
  (g2 : cur.size = cap * s) (g3 : rows.length≤cap) (hs : 0 < s) (hz : RowsAt (g.env m st w) s new news) (hp : p + new.length≤rows.length) (hfit : p * s + news.length≤cur.size) {sem : Sem Value} {v : Value} {sv : SV}
  (hrun : sem.run P w = .ok v (w.setRow b (cur.toList.take (p * s) ++ news ++ cur.toList.drop (p * s + news.length)).toArray))
  (hv : (w.setRow b (cur.toList.take (p * s) ++ news ++ cur.toList.drop (p * s + news.length)).toArray).heap[b]? = some (.cells (cur.toList.take (p * s) ++ news ++ cur.toList.drop (p * s + news.length)).toArray E (0,0)) →
   (cur.toList.take (p * s) ++ news ++ cur.toList.drop (p * s + news.length)).toArray.size = cap * s →
   RSV (g.env m { st with σ:=upd st.σ id (some (.arr E s (rows.take p ++ new ++ rows.drop (p + new.length)) false)) } (w.setRow b (cur.toList.take (p * s) ++ news ++ cur.toList.drop (p * s + news.length)).toArray)) sv v) :
  Out P g st tmps w (do pure (.value (← sem))) sv [(id,.arr E s (rows.take p ++ new ++ rows.drop (p + new.length)) false)]:=by
 have hE:=hR.ent id _ hid
 rw [hm] at hE
 obtain ⟨hs0,hrl,⟨h,_⟩ | ⟨b',cur',cap0,h,g1',g2',g3',g4,g5⟩⟩:=hE
 ·cases h
 cases h
 have g1'' : w.heap[b]? = some (.cells cur' E (0,0)):=g1'
 rw [g1] at g1'';cases g1''
 have hce : cap = cap0:=Nat.eq_of_mul_eq_mul_right hs (by omega)
 subst hce
 have hrle : rows.length * s≤cur.size:=by rw [g2];exact Nat.mul_le_mul_right _ g3
 have hnl:=hz.1
 have hlr : (rows.take p ++ new ++ rows.drop (p + new.length)).length = rows.length:=by simp;omega
 have hEL : EntLe (.arr E s rows false) (.arr E s (rows.take p ++ new ++ rows.drop (p + new.length)) false):=⟨rfl,rfl,hlr⟩
 have hcur':=setRow_heap w b cur (cur.toList.take (p * s) ++ news ++ cur.toList.drop (p * s + news.length)).toArray _ _ g1
 have hsz' : (cur.toList.take (p * s) ++ news ++ cur.toList.drop (p * s + news.length)).toArray.size = cur.size:=by simp;omega
 have hle:=le_write (g:=g) (a':=.arr E s (rows.take p ++ new ++ rows.drop (p + new.length)) false) hid rfl hm hEL (w':=w.setRow b (cur.toList.take (p * s) ++ news ++ cur.toList.drop (p * s + news.length)).toArray)
  (by simp [World.setRow]) (fun k hk=>setRow_other w b k _ hk) (fun c E hc=>by
   rw [g1] at hc;cases hc
   exact ⟨_,hcur',hsz'⟩)
 have hR':=hR.write (a':=.arr E s (rows.take p ++ new ++ rows.drop (p + new.length)) false) hid rfl hm hEL (w':=w.setRow b (cur.toList.take (p * s) ++ news ++ cur.toList.drop (p * s + news.length)).toArray)
  (by simp [World.setRow]) (fun k hk=>setRow_other w b k _ hk) (fun c E hc=>by
   rw [g1] at hc;cases hc
   exact ⟨_,hcur',hsz'⟩) rfl rfl rfl (by
    have h1:=rowsAt_sub hrl g5 hrle 0 p (by omega)
    have h3:=rowsAt_sub hrl g5 hrle (p + new.length) (rows.length - (p + new.length)) (by omega)
    rw [List.drop_zero,Nat.zero_mul,List.drop_zero] at h1
    rw [List.take_of_length_le (by simp)] at h3
    have h4:=((RowsAt.le hle h1).append (RowsAt.le hle hz)).append (RowsAt.le hle h3)
    refine rowsAt_ent (cap:=cap) hs h4 hcur' (by rw [hsz'];exact g2) (by rw [hlr];exact g3) g4 (fun k hk=>?_) false
    simp only [List.getElem?_toArray]
    simp only [List.length_append,List.length_take,List.length_drop,Array.length_toList] at hk
    rw [List.getElem?_append,List.getElem?_append]
    rw [List.getElem?_append,List.getElem?_append]
    simp only [List.length_append,List.length_take,List.length_drop,Array.length_toList,Nat.add_mul,hnl]
    split
    ·rfl
    ·rw [List.getElem?_take,if_pos]
     rw [hnl] at hk
     omega)
 refine ⟨.value v,v,m,_,by simp [hrun],rfl,hR',hv hcur' (by rw [hsz'];exact g2)⟩

theorem out_clr (hR : R g m st tmps w) {T ty E E' : TypeId} {i : TypeInfo} {zv : Value} (ht : P.underlying T = some (.slice E)) (hi : P.info? E = some i) (hz : i.zero = some zv) (hone : zv.cells.all one = true) (hzs : zv.cells.size = i.size)
  (hs : 0 < i.size) {id lo q : Nat} {rows : List (List C)} (hid : st.σ id = some (.arr E' i.size rows false)) {v : Value} (hc : RC (g.env m st w) (.ow id lo q) v) (hq : 0 < q) (hlo : lo + q≤rows.length) :
  Out P g st tmps w (do pure (.value (← Builtin.clear_ #[T] ty #[v]))) .dead [(id,.arr E' i.size (rows.take lo ++ List.replicate q (zv.cells.toList.map .v) ++ rows.drop (lo + q)) false)]:=by
 obtain ⟨a,ha,hc⟩:=hc
 have ha' : st.σ id = some a:=ha
 rw [hid] at ha';cases ha'
 obtain ⟨b,o,cap1,cur1,hm,q1,q2,rfl,k1,k3,k2,k4⟩:=hc
 have:=k2 (by omega)
 subst this
 have hm' : m id = some b:=hm
 have hE:=hR.ent id _ hid
 rw [hm'] at hE
 obtain ⟨hs0,hrl,⟨h,_⟩ | ⟨b',cur,cap0,h,g1,g2,g3,g4,g5⟩⟩:=hE
 ·cases h
 cases h
 have g1' : w.heap[b]? = some (.cells cur E' (0,0)):=g1
 obtain ⟨n,hn⟩ : ∃ n,q = n + 1:=⟨q - 1,by omega⟩
 have hnl : (Builtin.zeroCells zv.cells q).toList.length = q * i.size:=by simp [zeroCells_size,hzs]
 have hfit : lo * i.size + (Builtin.zeroCells zv.cells q).toList.length≤cur.size:=by
  rw [hnl,g2,← Nat.add_mul];exact Nat.mul_le_mul_right _ (by omega)
 have hz1 : RowsAt (g.env m st w) i.size (List.replicate q (zv.cells.toList.map .v)) (Builtin.zeroCells zv.cells q).toList:=zero_rows hone hzs hs _
 have hst:=run_storeCells_at P b (lo * i.size) E' (Builtin.zeroCells zv.cells q).toList 0 cur w g1' (by simpa using hfit) (RowsAt.one hz1)
 simp only [Nat.add_zero] at hst
 have hst' : (storeCells ⟨b,lo * i.size,none⟩ (Builtin.zeroCells zv.cells (n + 1)).toList).run P w = .ok () (w.setRow b (cur.toList.take (lo * i.size) ++ (Builtin.zeroCells zv.cells q).toList ++ cur.toList.drop (lo * i.size + (Builtin.zeroCells zv.cells q).toList.length)).toArray):=by rw [← hn];exact hst
 have hr : (Builtin.clear_ #[T] ty #[.slice (some ⟨b,lo * i.size,none⟩) (n + 1) (cap1 - lo)]).run P w = .ok (.tuple #[]) (w.setRow b (cur.toList.take (lo * i.size) ++ (Builtin.zeroCells zv.cells q).toList ++ cur.toList.drop (lo * i.size + (Builtin.zeroCells zv.cells q).toList.length)).toArray):=by
  simp [Builtin.clear_,run_underlying ht,zeroValue,typeInfo,hi,hz,hst']
 rw [← hn] at hr
 have hres:=out_win (P:=P) hR hid hm' g1' g2 g3 hs hz1 (by simpa using hlo) hfit (sv:=.dead) hr (fun _ _=>trivial)
 rw [List.length_replicate] at hres
 exact hres

theorem out_app_win (hR : R g m st tmps w) {T U ty E : TypeId} {d : TypeDesc} {i : TypeInfo} (ht : P.underlying T = some (.slice E)) (hu : P.underlying U = some d) (hd : (∃ E',d = .slice E')∨d = .string)
  (hi : P.info? E = some i) (hs : 0 < i.size) {base x : Value} {new : List (List C)} {news : List Value}
  (hx : Src P w.heap i.size x new.length news) (hrows : RowsAt (g.env m st w) i.size new news) {id lo q : Nat} {rows : List (List C)} (hid : st.σ id = some (.arr E i.size rows false)) (hc : RC (g.env m st w) (.ow id lo q) base) (h1 : lo + q + new.length≤rows.length) (h2 : lo < rows.length) :
  Out P g st tmps w (do pure (.value (← Builtin.append_ #[T,U] ty #[base,x]))) (.c (.ow id lo (q + new.length))) [(id,.arr E i.size (rows.take (lo + q) ++ new ++ rows.drop (lo + q + new.length)) false)]:=by
 obtain ⟨a,ha,hc⟩:=hc
 have ha' : st.σ id = some a:=ha
 rw [hid] at ha';cases ha'
 obtain ⟨b,o,cap,cur,hm,g1,g2,rfl,g3,g4,g5,g6⟩:=hc
 have:=g5 h2
 subst this
 have g1' : w.heap[b]? = some (.cells cur E (0,0)):=g1
 have hm' : m id = some b:=hm
 have hnl:=hrows.1
 have hfit : (lo + q) * i.size + news.length≤cur.size:=by
  rw [hnl,g2,← Nat.add_mul];exact Nat.mul_le_mul_right _ (by omega)
 have hr:=run_app_room_at (ty:=ty) (o:=lo * i.size) (sLen:=q) (sCap:=cap - lo) ht hu hd hi g1' hx (RowsAt.one hrows) (by omega) (by rw [← Nat.add_mul];exact hfit)
 rw [← Nat.add_mul] at hr
 have hlr : (rows.take (lo + q) ++ new ++ rows.drop (lo + q + new.length)).length = rows.length:=by simp;omega
 refine out_win hR hid hm' g1' g2 g4 hs hrows h1 hfit hr fun hh hsz=>⟨.arr E i.size (rows.take (lo + q) ++ new ++ rows.drop (lo + q + new.length)) false,by show upd _ _ _ _ = _;rw [upd_apply,if_pos rfl],b,lo * i.size,cap,_,hm',hh,hsz,rfl,by rw [hlr];omega,by rw [hlr];exact g4,fun _=>rfl,fun h=>by rw [h];simp⟩

end
end Go.Abs

namespace Go.Abs
open Go

section
variable {P : Program} {g : Gr} {m : Nat→Option Nat} {st : St} {tmps : Array Value} {w : World} {a : Act}

theorem foldl_set : ∀ (l : List Value) (j0 off : Nat) (cs : Array Value),off + j0 + l.length≤cs.size →
  ((l.zipIdx j0).foldl (fun (cs : Array Value) (p : Value × Nat)=>cs.setIfInBounds (off + p.2) p.1) cs).toList = cs.toList.take (off + j0) ++ l ++ cs.toList.drop (off + j0 + l.length)
 | [],j0,off,cs,_=>by simp
 | v :: l,j0,off,cs,h=>by
  simp only [List.length_cons] at h
  have ih:=foldl_set l (j0 + 1) off (cs.setIfInBounds (off + j0) v) (by simp;omega)
  simp only [List.zipIdx_cons,List.foldl_cons]
  rw [ih]
  have e1 : off + (j0 + 1) = off + j0 + 1:=by omega
  have e2 : off + j0 + 1 + l.length = off + j0 + (l.length + 1):=by omega
  rw [e1,e2]
  simp only [Array.toList_setIfInBounds,List.length_cons]
  have hlen : off + j0 < cs.toList.length:=by simp;omega
  rw [List.take_set,List.drop_set,if_pos (by omega)]
  rw [List.take_succ_eq_append_getElem hlen,List.set_append,if_neg (by rw [List.length_take];omega),List.length_take,Nat.min_eq_left (by omega)]
  simp

theorem fill_step {place : Nat→Option (Nat × Nat)} {cells : Array Value} {i off k : Nat} {v : Value} {rest : List (Nat × Value)} (hp : place i = some (off,k)) (hk : v.cells.size = k) (hf : off + k≤cells.size) :
  ∃ c2 : Array Value,c2.toList = cells.toList.take off ++ v.cells.toList ++ cells.toList.drop (off + k)∧Instr.fill place cells ((i,v) :: rest) = Instr.fill place c2 rest:=by
 have hfs:=foldl_set v.cells.toList 0 off cells (by simp;omega)
 refine ⟨(v.cells.toList.zipIdx 0).foldl (fun (cs : Array Value) (p : Value × Nat)=>cs.setIfInBounds (off + p.2) p.1) cells,?_,?_⟩
 ·rw [hfs];simp [hk]
 ·have h1 : ¬ (v.cells.size≠k):=by simpa using hk
  have h2 : ¬ (off + v.cells.size > cells.size):=by omega
  simp only [Instr.fill,hp]
  rw [if_neg (by simp;omega)]
  rw [← Array.foldl_toList,Array.toList_zipIdx]

theorem fill_bld {e : Env} {place : Nat→Option (Nat × Nat)} (ρ : AX→SV) (ev0 : Operand→Value) (hev : ∀ x ax,cx x = some ax→RSV e (ρ ax) (ev0 x)) : ∀ (parts : List (Nat × Operand)) (ps : List (Nat × Nat × AX)) (cs cs' : List C) (cells : Array Value),
  cbld place parts = some ps→bldFold ρ ps cs = some cs'→(∀ p ∈ ps,(ρ p.2.2).pre)→RL (RC e) cs cells.toList→∃ cells',Instr.fill place cells (parts.map fun p=>(p.1,ev0 p.2)) = some cells'∧RL (RC e) cs' cells'.toList
 | [],ps,cs,cs',cells,h,hb,_,hr=>by
  cases h;cases hb
  exact ⟨cells,rfl,hr⟩
 | (i,x) :: parts,ps,cs,cs',cells,h,hb,hp,hr=>by
  simp only [cbld] at h
  split at h
  ·rename_i off k y ys h1 h2 h3
   cases h
   simp only [bldFold] at hb
   split at hb
   ·rename_i zs hz
    split at hb
    ·rename_i hc
     have hx:=(hev x y h2).cells (hp (off,k,y) (by simp)) hz
     have hk : (ev0 x).cells.size = k:=by rw [← hc.1,hx.1];simp
     have hf : off + k≤cells.size:=by have:=hr.1;simp at this;omega
     obtain ⟨c2,he,hfill⟩:=fill_step (rest:=parts.map fun p=>(p.1,ev0 p.2)) h1 hk hf
     have hr2 : RL (RC e) (splice cs off zs) c2.toList:=by
      rw [he]
      unfold splice
      rw [hc.1]
      exact ((hr.take off).append hx).append (hr.drop (off + k))
     obtain ⟨cells',h4,h5⟩:=fill_bld ρ ev0 hev parts ys (splice cs off zs) cs' c2 h3 hb (fun p hp'=>hp p (by simp [hp'])) hr2
     exact ⟨cells',by simp only [List.map_cons];rw [hfill];exact h4,h5⟩
    ·cases hb
   ·cases hb
  ·cases h

theorem fill_rows {s : Nat} : ∀ (vs : List Value) (k : Nat) (cells : Array Value),(∀ v ∈ vs,v.cells.size = s)→(k + vs.length) * s≤cells.size →
  ∃ cells',Instr.fill (fun i=>some (i * s,s)) cells ((vs.zipIdx k).map fun p=>(p.2,p.1)) = some cells'∧cells'.toList = cells.toList.take (k * s) ++ vs.flatMap (·.cells.toList) ++ cells.toList.drop ((k + vs.length) * s)
 | [],k,cells,_,_=>⟨cells,rfl,by simp⟩
 | v :: vs,k,cells,h1,h2=>by
  simp only [List.length_cons] at h2
  have hks : k * s + s≤cells.size:=by
   have : (k + 1) * s≤(k + (vs.length + 1)) * s:=Nat.mul_le_mul_right s (by omega)
   rw [Nat.add_mul,Nat.one_mul] at this
   omega
  obtain ⟨c2,he,hfill⟩:=fill_step (place:=fun i=>some (i * s,s)) (i:=k) (rest:=(vs.zipIdx (k + 1)).map fun p=>(p.2,p.1)) rfl (h1 v (by simp)) hks
  have hc2 : c2.size = cells.size:=by
   have:=congrArg List.length he
   have hv:=h1 v (by simp)
   simp at this
   omega
  obtain ⟨cells',h3,h4⟩:=fill_rows vs (k + 1) c2 (fun u hu=>h1 u (by simp [hu])) (by rw [hc2,Nat.add_right_comm];exact h2)
  refine ⟨cells',by simp only [List.zipIdx_cons,List.map_cons];rw [hfill];exact h3,?_⟩
  rw [h4,he]
  have hv : v.cells.toList.length = s:=by simpa using h1 v (by simp)
  have hl : (cells.toList.take (k * s) ++ v.cells.toList).length = (k + 1) * s:=by rw [Nat.add_mul];simp [hv];omega
  have e1 : k * s + s = (k + 1) * s:=by rw [Nat.add_mul,Nat.one_mul]
  have e2 : k + 1 + vs.length = k + (vs.length + 1):=by omega
  have e3 : (k + 1) * s≤(k + (vs.length + 1)) * s:=Nat.mul_le_mul_right s (by omega)
  rw [e1,e2,List.take_append_of_le_length (by omega),List.take_of_length_le (by omega),List.drop_append,List.drop_eq_nil_of_le (by omega),hl,List.drop_drop]
  simp only [List.flatMap_cons,List.append_assoc,List.nil_append,List.length_cons]
  congr 3
  congr 1
  omega

theorem rowsAt_single {e : Env} {s : Nat} {ys : List C} {vs : List Value} (h : RL (RC e) ys vs) (hl : ys.length = s) : RowsAt e s [ys] vs:=by
 refine ⟨by rw [← h.1,hl];simp,fun r hr=>by simp at hr;subst hr;exact hl,fun i r j c h1 h2=>?_⟩
 cases i with
 | zero=>simp at h1;subst h1;obtain ⟨x,hx,hr⟩:=h.get h2;exact ⟨x,by simpa using hx,hr⟩
 | succ i=>simp at h1

theorem bS_rows {e : Env} {s : Nat} (ρ : AX→SV) (ev0 : Operand→Value) (hev : ∀ x ax,cx x = some ax→RSV e (ρ ax) (ev0 x)) : ∀ (parts : List (Nat × Operand)) (k : Nat) (ps : List AX) (rows : List (List C)),
  cparts 0 k parts = some ps→bSRows ρ s ps = some rows→(∀ p ∈ ps,(ρ p).pre)→∃ vs : List Value,parts.map (fun p=>(p.1,ev0 p.2)) = (vs.zipIdx k).map (fun p=>(p.2,p.1))∧(∀ v ∈ vs,v.cells.size = s)∧vs.length = rows.length∧RowsAt e s rows (vs.flatMap (·.cells.toList))
 | [],k,ps,rows,h,hb,_=>by
  cases h;cases hb
  exact ⟨[],rfl,by simp,rfl,RowsAt.nil s⟩
 | (i,x) :: parts,k,ps,rows,h,hb,hp=>by
  simp only [cparts] at h
  split at h
  ·rename_i hik
   split at h
   ·rename_i y ys h1 h2
    cases h
    simp only [bSRows] at hb
    split at hb
    ·rename_i zs r h3 h4
     split at hb
     ·rename_i hl
      cases hb
      obtain ⟨vs,g1,g2,g3,g4⟩:=bS_rows ρ ev0 hev parts (k + 1) ys r h2 h4 (fun p hp'=>hp p (by simp [hp']))
      have hx:=(hev x y h1).cells (hp y (by simp)) h3
      refine ⟨ev0 x :: vs,by simp [g1,hik],fun v hv=>?_,by simp [g3],?_⟩
      ·rcases List.mem_cons.1 hv with rfl | hv
       ·rw [← hl,hx.1];simp
       ·exact g2 v hv
      ·exact (rowsAt_single hx hl).append g4
     ·cases hb
    ·cases hb
   ·cases h
  ·cases h

theorem out_bS (hR : R g m st tmps w) (hev : ∀ x ax,cx x = some ax→RSV (g.env m st w) (ev st.sl ax) (a.eval x)) {T E : TypeId} {i : TypeInfo} {zv : Value} (hu : P.underlying T = some (.slice E)) (hi : P.info? E = some i) (hz : i.zero = some zv) (hzs : zv.cells.size = i.size)
  (hs : 0 < i.size) {fr : Nat} (hfr : st.σ fr = none) {n : Nat} {parts : Array (Nat × Operand)} {ps : List AX} {rows : List (List C)} (hc : cparts 0 0 parts.toList = some ps) (hb : bSRows (ev st.sl) i.size ps = some rows) (hp : ∀ p ∈ ps,(ev st.sl p).pre)
  (hn : parts.size = n) (h24 : n * i.size≤16777216) :
  Out P g st tmps w (do pure (.value (← Instr.buildSlice T n (parts.map fun (i,x)=>(i,a.eval x))))) (.c (.osl fr)) [(fr,.arr E i.size rows false)]:=by
 obtain ⟨vs,g1,g2,g3,g4⟩:=bS_rows (ev st.sl) a.eval hev parts.toList 0 ps rows hc hb hp
 have hvl : vs.length = n:=by
  have:=congrArg List.length g1
  simp at this;omega
 let z0 : Array Value:=(Array.range (n * i.size)).map (zv.cells[· % zv.cells.size]!)
 have hz0 : z0.size = n * i.size:=by simp [z0]
 obtain ⟨cells',h3,h4⟩:=fill_rows (s:=i.size) vs 0 z0 g2 (by rw [hz0];simp [hvl])
 have hnn : ¬ n * i.size > 16777216:=by omega
 have hcs : cells'.toList = vs.flatMap (·.cells.toList):=by
  rw [h4];simp [hvl,hz0]
 have hrun : (Instr.buildSlice T n (parts.map fun (i,x)=>(i,a.eval x))).run P w = .ok (.slice (some ⟨w.heap.size,0,none⟩) n n) (w.alloc (.cells cells' E)):=by
  have hl : (parts.map fun (i,x)=>(i,a.eval x)).toList = (vs.zipIdx 0).map (fun p=>(p.2,p.1)):=by rw [Array.toList_map];exact g1
  have h24' : ¬ 2 ^ 24 < n * i.size:=by omega
  unfold Instr.buildSlice
  rw [Sem.run_bind,run_underlying hu,Result.andThen_ok]
  by_cases h0 : n * i.size = 0
  ·have e1 : Array.range (n * i.size) = #[]:=by rw [h0];simp [Array.range]
   have e2 : z0 = #[]:=by simp [z0,e1]
   rw [e2] at h3
   simp only [Sem.run_bind,sizeOf,typeInfo,run_program,Result.andThen_ok,hi,Sem.run_pure,gt_iff_lt,h0,if_true,hl]
   rw [show Array.range 0 = (#[] : Array Nat) from by simp [Array.range]]
   simp only [List.map_toArray,List.map_nil,h3]
   simp [newRow]
  ·simp only [Sem.run_bind,sizeOf,typeInfo,run_program,Result.andThen_ok,hi,Sem.run_pure,gt_iff_lt,h24',if_false,h0,zeroValue,hz,hl]
   have h3' : Instr.fill (fun j=>some (j * i.size,i.size)) ((Array.range (n * i.size)).map (zv.cells[· % zv.cells.size]!)) ((vs.zipIdx 0).map (fun p=>(p.2,p.1))) = some cells':=h3
   rw [h3']
   simp [newRow]
 have hrl : rows.length = n:=by omega
 have hf:=out_fresh (E:=E) hR (w1:=w) rfl rfl rfl rfl hfr hs (cur:=cells') (cap:=n) g4 (by have:=congrArg List.length hcs;rw [g4.1,hrl] at this;simpa using this) (by omega) (by unfold maxLen;have:=Nat.le_mul_of_pos_right n hs;omega) (fun k _=>by rw [← hcs];simp)
 rw [hrl] at hf
 exact ⟨.value _,_,_,_,by simp [hrun],rfl,hf.1,hf.2⟩

end
end Go.Abs

namespace Go.Abs
open Go

section
variable {P : Program} {g : Gr} {m : Nat→Option Nat} {st : St} {tmps : Array Value} {w : World} {a : Act}

theorem out_fld1 (hR : R g m st tmps w) {T f : Nat} {fs : Array Field} {fd : Field} {d : TypeDesc} (hu : P.underlying T = some (.struct fs)) (hf : fs[f]? = some fd) (hd : P.underlying fd.type = some d) (hg : isAggD d = false)
  {cs : List C} {v : Value} (h : RSV (g.env m st w) (.agg cs) v) {c : C} (hc : cs[fd.offset]? = some c) : Out P g st tmps w (do pure (.value (← Instr.field T v f))) (.c c) []:=by
 obtain ⟨vs,rfl,h⟩:=h
 obtain ⟨x,hx,hr⟩:=h.get hc
 have hx' : vs[fd.offset]? = some x:=by simpa using hx
 refine Out.quiet hR (v:=x) ?_ hr
 simp [Instr.field,run_underlying hu,hf,part,run_isAgg hd,hg,asAgg,hx']

theorem out_fldn (hR : R g m st tmps w) {T f : Nat} {fs : Array Field} {fd : Field} {d : TypeDesc} {i : TypeInfo} (hu : P.underlying T = some (.struct fs)) (hf : fs[f]? = some fd) (hd : P.underlying fd.type = some d) (hg : isAggD d = true) (hi : P.info? fd.type = some i)
  {cs : List C} {v : Value} (h : RSV (g.env m st w) (.agg cs) v) : Out P g st tmps w (do pure (.value (← Instr.field T v f))) (.agg ((cs.drop fd.offset).take i.size)) []:=by
 obtain ⟨vs,rfl,h⟩:=h
 refine Out.quiet hR (v:=.agg (vs.extract fd.offset (fd.offset + i.size))) ?_ ⟨_,rfl,?_⟩
 ·simp [Instr.field,run_underlying hu,hf,part,run_isAgg hd,hg,asAgg,sizeOf,typeInfo,hi]
 ·have:=(h.drop fd.offset).take i.size
  rw [Array.toList_extract,List.extract_eq_take_drop]
  simpa using this

theorem out_ext (hR : R g m st tmps w) {i : Nat} {vs : List SV} {v : Value} (h : RSV (g.env m st w) (.tup vs) v) {s : SV} (hs : vs[i]? = some s) : Out P g st tmps w (do pure (.value (← Instr.extract v i))) s []:=by
 obtain ⟨ws,rfl,h⟩:=h
 obtain ⟨x,hx,hr⟩:=h.get hs
 have hx' : ws[i]? = some x:=by simpa using hx
 refine Out.quiet hR (v:=x) (by simp [Instr.extract,hx']) ?_
 cases s <;> first | exact hr | exact hr.elim

theorem caps1_rl {e : Env} (ρ : AX→SV) (ev0 : Operand→Value) (hev : ∀ x ax,cx x = some ax→RSV e (ρ ax) (ev0 x)) : ∀ (xs : List Operand) (axs : List AX) (cs : List C),cxs xs = some axs→caps1 ρ axs = some cs→(∀ p ∈ axs,(ρ p).pre)→RL (RC0 e) cs (xs.map ev0)
 | [],axs,cs,h,hc,_=>by cases h;cases hc;exact RL.nil
 | x :: xs,axs,cs,h,hc,hp=>by
  simp only [cxs] at h
  split at h
  ·rename_i y ys h1 h2
   cases h
   simp only [caps1] at hc
   split at hc
   ·rename_i c r h3 h4
    split at hc
    ·cases hc
    ·rename_i hne
     cases hc
     have hx:=(hev x y h1).one (hp y (by simp)) h3
     exact RL.cons ((RC_iff0 hne).1 hx) (caps1_rl ρ ev0 hev xs ys r h2 h4 (fun p hp'=>hp p (by simp [hp'])))
   ·cases hc
  ·cases h

theorem run_foldMx {e : Env} (isMax : Bool) (k : IntKind) : ∀ (xs : List SV) (vs : List Value) (n r : Int),RL (fun s v=>s.pre→RSV e s v) xs vs→(∀ s ∈ xs,s.pre)→foldMx isMax k n xs = some r →
  (vs.foldlM (if isMax then Builtin.max2 else Builtin.min2) (.int k n)).run P w = .ok (.int k r) w
 | [],vs,n,r,h,_,hf=>by
  rw [h.nil_inv];cases hf;rfl
 | x :: xs,vs,n,r,h,hp,hf=>by
  obtain ⟨v,vs,rfl,h1,h2⟩:=h.uncons
  simp only [foldMx] at hf
  split at hf
  ·rename_i k' b hx
   have hv:=one_v (h1 (hp x (by simp))) (hp x (by simp)) hx
   subst hv
   have ih:=run_foldMx isMax k xs vs _ r h2 (fun s hs=>hp s (by simp [hs])) hf
   cases isMax <;> simp only [List.foldlM_cons,Sem.run_bind] at ih ⊢ <;> simp only [if_true,if_false,Bool.false_eq_true,Builtin.max2,Builtin.min2,Sem.run_pure,Result.andThen_ok] at ih ⊢ <;> exact ih
  ·cases hf

theorem out_mx (hR : R g m st tmps w) {isMax : Bool} {k : IntKind} {n r : Int} {s : SV} {xs : List SV} {v : Value} {vs : List Value} (h0 : RSV (g.env m st w) s v) (hp0 : s.pre) (hs : s.one? = some (.v (.int k n)))
  (h : RL (fun s v=>RSV (g.env m st w) s v) xs vs) (hp : ∀ s ∈ xs,s.pre) (hf : foldMx isMax k n xs = some r) {Ts : Array TypeId} {ty : TypeId} :
  Out P g st tmps w (do pure (.value (← (if isMax then Builtin.max_ else Builtin.min_) Ts ty (v :: vs).toArray))) (.c (.v (.int k r))) []:=by
 have hv:=one_v h0 hp0 hs
 subst hv
 have hr:=run_foldMx (P:=P) (w:=w) isMax k xs vs n r (h.imp fun _ _ _ h _=>h) hp hf
 refine Out.quiet hR (v:=.int k r) ?_ (RD.v _ rfl)
 cases isMax <;> simp only [if_true,if_false,Bool.false_eq_true] at hr ⊢ <;> simp only [Builtin.max_,Builtin.min_] <;> exact hr

theorem out_idxS (hR : R g m st tmps w) {T : TypeId} (hu : P.underlying T = some .string) {s : ByteArray} {k : IntKind} {n : Int} (h0 : 0≤n) (h1 : n < s.size) :
  Out P g st tmps w (do pure (.value (← Instr.index T (.string s) (.int k n)))) (.c (.v (.int .u8 ((s.data[n.toNat]?).getD 0).toNat))) []:=by
 refine Out.quiet hR (v:=.int .u8 ((s.data[n.toNat]?).getD 0).toNat) ?_ (RD.v _ rfl)
 have hn : n.toNat < s.size:=by omega
 have he : s[n.toNat]? = s.data[n.toNat]?:=by
  rw [getElem?_pos s n.toNat hn,Array.getElem?_eq_getElem hn];rfl
 have hs : ∃ b,s.data[n.toNat]? = some b:=⟨_,Array.getElem?_eq_getElem hn⟩
 obtain ⟨b,hb⟩:=hs
 simp [Instr.index,asIntOf,run_underlying hu,h0,he,hb]

theorem out_slcS (hR : R g m st tmps w) {T : TypeId} (hu : P.underlying T = some .string) {s : ByteArray} {lo hi' : Option Value} {l h : Int} (hlo : (lo = none∧l = 0)∨∃ k,lo = some (.int k l)) (hhi : (hi' = none∧h = s.size)∨∃ k,hi' = some (.int k h))
  (h0 : 0≤l) (h1 : l≤h) (h2 : h≤s.size) : Out P g st tmps w (do pure (.value (← Instr.sliceAt T (.string s) lo hi' none))) (.c (.v (.string (s.extract l.toNat h.toNat)))) []:=by
 have hb:=run_sliceBounds (P:=P) (w:=w) (isS:=false) (len:=s.size) (cap:=s.size) hlo hhi h0 h1 h2
 refine Out.quiet hR (v:=.string (s.extract l.toNat h.toNat)) ?_ (RD.v _ rfl)
 simp [Instr.sliceAt,Instr.slice,run_underlying hu,hb]

theorem run_eqp {T E : TypeId} (hu : P.underlying T = some (.pointer E)) (n : Nat) (o : Option Addr) : (Op.equalIn (n + 1) T (.pointer o) (.pointer none)).run P w = .ok o.isNone w:=by
 cases o <;> simp [Op.equalIn,run_underlying hu]

theorem run_eqsl {T E : TypeId} (hu : P.underlying T = some (.slice E)) (n : Nat) (o : Option Addr) (l c : Nat) : (Op.equalIn (n + 1) T (.slice o l c) (.slice none 0 0)).run P w = .ok o.isNone w:=by
 cases o <;> simp [Op.equalIn,run_underlying hu]

theorem run_cmpP {T E : TypeId} (hu : P.underlying T = some (.pointer E)) (o : Option Addr) (x : Operand) : (do eqGuard .eql T x (.const (.pointer none)) (.pointer o) (.pointer none);binOp .eql T (.pointer o) (.pointer none) : Sem Value).run P w = .ok (.bool o.isNone) w ∧
  (do eqGuard .neq T x (.const (.pointer none)) (.pointer o) (.pointer none);binOp .neq T (.pointer o) (.pointer none) : Sem Value).run P w = .ok (.bool !o.isNone) w:=by
 have h : (Op.equal T (.pointer o) (.pointer none)).run P w = .ok o.isNone w:=run_eqp hu 9999 o
 have g1 : (eqGuard .eql T x (.const (.pointer none)) (.pointer o) (.pointer none)).run P w = .ok () w:=rfl
 have g2 : (eqGuard .neq T x (.const (.pointer none)) (.pointer o) (.pointer none)).run P w = .ok () w:=rfl
 constructor
 ·rw [Sem.run_bind,g1,Result.andThen_ok];simp [binOp,h]
 ·rw [Sem.run_bind,g2,Result.andThen_ok];simp [binOp,h]

theorem run_cmpS {T E : TypeId} (hu : P.underlying T = some (.slice E)) (o : Option Addr) (l c : Nat) (x : Operand) : (do eqGuard .eql T x (.const (.slice none 0 0)) (.slice o l c) (.slice none 0 0);binOp .eql T (.slice o l c) (.slice none 0 0) : Sem Value).run P w = .ok (.bool o.isNone) w ∧
  (do eqGuard .neq T x (.const (.slice none 0 0)) (.slice o l c) (.slice none 0 0);binOp .neq T (.slice o l c) (.slice none 0 0) : Sem Value).run P w = .ok (.bool !o.isNone) w:=by
 have h : (Op.equal T (.slice o l c) (.slice none 0 0)).run P w = .ok o.isNone w:=run_eqsl hu 9999 o l c
 have g1 : (eqGuard .eql T x (.const (.slice none 0 0)) (.slice o l c) (.slice none 0 0)).run P w = .ok () w:=rfl
 have g2 : (eqGuard .neq T x (.const (.slice none 0 0)) (.slice o l c) (.slice none 0 0)).run P w = .ok () w:=rfl
 constructor
 ·rw [Sem.run_bind,g1,Result.andThen_ok];simp [binOp,h]
 ·rw [Sem.run_bind,g2,Result.andThen_ok];simp [binOp,h]

end
end Go.Abs

namespace Go.Abs
open Go

section
variable {P : Program} {g : Gr} {m : Nat→Option Nat} {st : St} {tmps : Array Value} {w : World} {a : Act}

def isKeyD : TypeDesc→Bool
 | .int _=>true
 | _=>false

theorem run_checkKey {K : TypeId} {d : TypeDesc} (hu : P.underlying K = some d) (hd : isKeyD d = true) (b : Bool) (n : Nat) (v : Value) : (Instr.checkKey b (n + 1) K v).run P w = .ok () w:=by
 unfold Instr.checkKey
 rw [Sem.run_bind,run_underlying hu,Result.andThen_ok]
 cases d <;> first | (cases hd;done) | rfl

theorem run_checkKey' {K : TypeId} {d : TypeDesc} (hu : P.underlying K = some d) (hd : isKeyD d = true) (b : Bool) (v : Value) : (Instr.checkKey b 10000 K v).run P w = .ok () w:=run_checkKey hu hd b 9999 v

def MRows (e : Env) (agg : Bool) : List (Value × List C)→List MapEntry→Prop :=
 RL fun kv m=>m.key = kv.1∧(if agg then ∃ cs,m.val = .agg cs else one m.val = true)∧RL (RD e.h e.ok) kv.2 m.val.cells.toList

theorem sameNow_eq {d : TypeDesc} {x y : Value} (hd : (∃ j,d = .int j)∧∃ j n,x = .int j n) (h : sameK x y) : Instr.sameNow d x y = some (keyEq x y):=by
 obtain ⟨⟨j,rfl⟩,k,n,rfl⟩:=hd
 cases y <;> first | exact h.elim | skip
 rename_i k' n'
 have hk : k = k':=h
 simp [Instr.sameNow,hk,keyEq]

theorem findNow_eq {e : Env} {agg : Bool} {d : TypeDesc} {k : Value} (hd : (∃ j,d = .int j)∧∃ j n,k = .int j n) : ∀ (kvs : List (Value × List C)) (es : List MapEntry) (i : Nat),MRows e agg kvs es→(∀ p ∈ kvs,sameK k p.1) →
  (mfind kvs k = none∧Instr.findNow d k es i = some none)∨∃ q v cs ent,mfind kvs k = some cs∧Instr.findNow d k es i = some (some (i + q,v))∧es[q]? = some ent∧ent.val = v∧keyEq k ent.key = true∧(if agg then ∃ cs,v = .agg cs else one v = true)∧RL (RD e.h e.ok) cs v.cells.toList
 | [],es,i,h,_=>by
  rw [h.nil_inv];exact .inl ⟨rfl,rfl⟩
 | kv :: kvs,es,i,h,hs=>by
  obtain ⟨ent,es,rfl,⟨h1,h2,h3⟩,ht⟩:=h.uncons
  have hsn : Instr.sameNow d k ent.key = some (keyEq k kv.1):=by rw [h1];exact sameNow_eq hd (hs kv (by simp))
  simp only [mfind,Instr.findNow,hsn]
  cases hq : keyEq k kv.1 with
  | true=>exact .inr ⟨0,ent.val,kv.2,ent,by simp,by simp,rfl,rfl,by rw [h1];exact hq,h2,h3⟩
  | false =>
   have ih:=findNow_eq hd kvs es (i + 1) ht (fun p hp=>hs p (by simp [hp]))
   simp only [Bool.false_eq_true,if_false]
   rcases ih with ih | ⟨q,v,cs,ent',g1,g2,g3,g4⟩
   ·exact .inl ih
   ·exact .inr ⟨q + 1,v,cs,ent',g1,by rw [g2];congr 3;omega,by simpa using g3,g4⟩

theorem run_findKey {K : TypeId} {d : TypeDesc} (hu : P.underlying K = some d) {k : Value} {es : List MapEntry} {r : Option (Nat × Value)} (h : Instr.findNow d k es 0 = some r) : (Instr.findKey K k es).run P w = .ok r w:=by
 unfold Instr.findKey
 rw [Sem.run_bind,run_underlying hu,Result.andThen_ok,h];rfl

theorem keyD_of {d : TypeDesc} {k : Value} (hd : (∃ j,d = .int j)∧∃ j n,k = .int j n) : isKeyD d = true:=by
 obtain ⟨⟨_,rfl⟩,_⟩:=hd;rfl

theorem run_getObj {r : Nat} {es : Array MapEntry} {clock : Nat} (h : w.heap[r]? = some (.map es clock)) : (getObj r).run P w = .ok (.map es clock) w:=by
 simp [getObj,Sem.run,h]

theorem out_lkp (hR : R g m st tmps w) {T K V : TypeId} {d dv : TypeDesc} {i : TypeInfo} {zv : Value} (hT : P.underlying T = some (.map K V)) (hK : P.underlying K = some d) (hi : P.info? V = some i) (hz : i.zero = some zv) (hone : zv.cells.all one = true)
  (hzagg : isAggD dv = true→∃ cs,zv = .agg cs) (hzone : isAggD dv = false→one zv = true) {ok : Bool} {id : Nat} {kvs : List (Value × List C)} (hid : st.σ id = some (.mp (isAggD dv) kvs)) {v k : Value} (hv : RC (g.env m st w) (.mp id) v)
  (hk : (∃ j,d = .int j)∧∃ j n,k = .int j n) (hs : ∀ p ∈ kvs,sameK k p.1) (hl : isAggD dv = false→((mfind kvs k).getD (zv.cells.toList.map .v)).length = 1) :
  Out P g st tmps w (do pure (.value (← Instr.lookup T v k ok)))
   (if ok then .tup [if isAggD dv then .agg ((mfind kvs k).getD (zv.cells.toList.map .v)) else .c ((((mfind kvs k).getD (zv.cells.toList.map .v))[0]?).getD default),.c (.v (.bool (mfind kvs k).isSome))]
    else if isAggD dv then .agg ((mfind kvs k).getD (zv.cells.toList.map .v)) else .c ((((mfind kvs k).getD (zv.cells.toList.map .v))[0]?).getD default)) []:=by
 obtain ⟨agg',kvs',b,h1,hb,rfl⟩:=hv
 have hE:=hR.ent id _ hid
 rw [show m id = some b from hb] at hE
 obtain ⟨b',es,clock,hb',h2,h3⟩:=hE
 cases hb'
 have h2' : w.heap[b]? = some (.map es clock):=h2
 have hf:=findNow_eq (e:=g.env m st w) (agg:=isAggD dv) hk kvs es.toList 0 h3 hs
 -- the value,and whether it was there
 have key : ∃ x,(∃ r,Instr.findNow d k es.toList 0 = some r∧((r = none∧x = zv∧(mfind kvs k).isSome = false)∨∃ q,r = some (q,x)∧(mfind kvs k).isSome = true)) ∧
   RSV (g.env m st w) (if isAggD dv then .agg ((mfind kvs k).getD (zv.cells.toList.map .v)) else .c ((((mfind kvs k).getD (zv.cells.toList.map .v))[0]?).getD default)) x:=by
  rcases hf with ⟨g1,g2⟩ | ⟨q,x,cs,ent,g1,g2,_,_,_,g6,g7⟩
  ·refine ⟨zv,⟨none,g2,.inl ⟨rfl,rfl,by rw [g1];rfl⟩⟩,?_⟩
   rw [g1] at hl ⊢
   simp only [Option.getD_none] at hl ⊢
   have hzr:=zero_rc (e:=g.env m st w) hone
   split
   ·rename_i ha
    obtain ⟨cs,rfl⟩:=hzagg ha
    exact ⟨cs,rfl,hzr⟩
   ·rename_i ha
    have ha' : isAggD dv = false:=by simpa using ha
    have ho:=hzone ha'
    rw [one_cells ho] at hzr ⊢
    exact (hzr.2 0 _ _ rfl rfl)
  ·refine ⟨x,⟨_,g2,.inr ⟨_,rfl,by rw [g1];rfl⟩⟩,?_⟩
   rw [g1] at hl ⊢
   simp only [Option.getD_some] at hl ⊢
   split
   ·rename_i ha
    simp only [ha,if_true] at g6
    obtain ⟨vs,rfl⟩:=g6
    exact ⟨vs,rfl,g7.imp fun _ _ _ h=>h.rc⟩
   ·rename_i ha
    have ha' : isAggD dv = false:=by simpa using ha
    simp only [ha,if_false,Bool.false_eq_true] at g6
    rw [one_cells g6] at g7
    cases cs with
    | nil=>have:=hl ha';simp at this
    | cons c cs=>exact (g7.2 0 c x rfl rfl).rc
 obtain ⟨x,⟨r,hr,hx⟩,hsv⟩:=key
 have hrun : (Instr.lookup T (.map (some b)) k ok).run P w = .ok (if ok then .tuple #[x,.bool (mfind kvs k).isSome] else x) w:=by
  unfold Instr.lookup
  rw [Sem.run_bind,run_underlying hT,Result.andThen_ok]
  have hzrun : (zeroValue V).run P w = .ok zv w:=by simp [zeroValue,typeInfo,hi,hz]
  simp only [Sem.run_bind,run_getObj h2',Result.andThen_ok,Sem.run_pure,run_checkKey' hK (keyD_of hk),run_findKey hK hr]
  rcases hx with ⟨rfl,rfl,hsome⟩ | ⟨q,rfl,hsome⟩
  ·simp only [Sem.run_bind,hzrun,Result.andThen_ok,Sem.run_pure,hsome]
  ·simp only [hsome];rfl
 refine Out.quiet hR hrun ?_
 cases ok with
 | false=>exact hsv
 | true =>
  refine ⟨_,rfl,RL.cons ?_ (RL.cons (show RSV1 _ (.c (.v _)) _ from RD.v _ rfl) RL.nil)⟩
  split at hsv <;> rename_i ha <;> simp only [ha,if_true,if_false,Bool.false_eq_true] <;> exact hsv

theorem out_mkM (hR : R g m st tmps w) {T : TypeId} {fr : Nat} (hfr : st.σ fr = none) (agg : Bool) :
  Out P g st tmps w (do pure (.value (← Instr.makeMap T none))) (.c (.mp fr)) [(fr,.mp agg [])]:=by
 have hR':=hR.new (.map #[] 0) hfr (a:=.mp agg []) (w':=w.alloc (.map #[] 0)) rfl rfl rfl rfl ⟨w.heap.size,#[],0,rfl,push_new _ _,RL.nil⟩
 refine ⟨.value (.map (some w.heap.size)),_,_,w.alloc (.map #[] 0),?_,rfl,hR',agg,[],w.heap.size,?_,?_,rfl⟩
 ·simp [Instr.makeMap]
 ·show upd _ _ _ _ = _;rw [upd_apply,if_pos rfl]
 ·show upd _ _ _ _ = _;rw [upd_apply,if_pos rfl]

theorem sameBits_eq {x y : Value} (h : keyEq x y = true) (hs : sameK x y) (n : Nat) : Instr.sameBits n y x = true:=by
 cases x <;> cases y <;> first | (cases h;done) | skip
 have hk:=hs
 simp only [sameK] at hk
 simp only [keyEq,beq_iff_eq] at h
 subst hk;subst h
 simp [Instr.sameBits]

theorem mset_none {e : Env} {agg : Bool} {k : Value} {cs : List C} {new : MapEntry} (hn : new.key = k∧(if agg then ∃ cs,new.val = .agg cs else one new.val = true)∧RL (RD e.h e.ok) cs new.val.cells.toList) :
  ∀ (kvs : List (Value × List C)) (es : List MapEntry),MRows e agg kvs es→mfind kvs k = none→MRows e agg (mset kvs k cs) (es ++ [new])
 | [],es,h,_=>by rw [h.nil_inv];exact RL.cons hn RL.nil
 | kv :: kvs,es,h,hf=>by
  obtain ⟨ent,es,rfl,h1,ht⟩:=h.uncons
  simp only [mfind] at hf
  split at hf
  ·cases hf
  ·rename_i hq
   simp only [mset,hq,Bool.false_eq_true,if_false]
   exact RL.cons h1 (mset_none hn kvs es ht hf)

theorem mset_some {e : Env} {agg : Bool} {d : TypeDesc} {k : Value} {cs : List C} {f : MapEntry→MapEntry} (hd : (∃ j,d = .int j)∧∃ j n,k = .int j n)
  (hn : ∀ ent,(f ent).key = k∧(if agg then ∃ cs,(f ent).val = .agg cs else one (f ent).val = true)∧RL (RD e.h e.ok) cs (f ent).val.cells.toList) :
  ∀ (kvs : List (Value × List C)) (es : List MapEntry) (i q : Nat) (v : Value),MRows e agg kvs es→(∀ p ∈ kvs,sameK k p.1)→Instr.findNow d k es i = some (some (i + q,v))→MRows e agg (mset kvs k cs) (es.modify q f)
 | [],es,i,q,v,h,_,hf=>by rw [h.nil_inv] at hf;cases hf
 | kv :: kvs,es,i,q,v,h,hs,hf=>by
  obtain ⟨ent,es,rfl,h1,ht⟩:=h.uncons
  have hsn : Instr.sameNow d k ent.key = some (keyEq k kv.1):=by rw [h1.1];exact sameNow_eq hd (hs kv (by simp))
  simp only [Instr.findNow,hsn] at hf
  cases hq : keyEq k kv.1 with
  | true =>
   simp only [hq,Option.some.injEq,Prod.mk.injEq] at hf
   have : q = 0:=by omega
   subst this
   simp only [mset,hq,if_true]
   simp only [List.modify_zero_cons]
   exact RL.cons (hn ent) ht
  | false =>
   simp only [hq] at hf
   have hge : ∀ (es : List MapEntry) (i j : Nat) (v : Value),Instr.findNow d k es i = some (some (j,v))→i≤j:=by
    intro es
    induction es with
    | nil=>intro i j v h;cases h
    | cons e es ih =>
     intro i j v h
     simp only [Instr.findNow] at h
     split at h
     ·simp only [Option.some.injEq,Prod.mk.injEq] at h;omega
     ·have:=ih _ _ _ h;omega
     ·cases h
   have hge':=hge _ _ _ _ hf
   obtain ⟨q,rfl⟩ : ∃ q',q = q' + 1:=⟨q - 1,by omega⟩
   simp only [mset,hq,Bool.false_eq_true,if_false,List.modify_succ_cons]
   exact RL.cons h1 (mset_some hd hn kvs es (i + 1) q v ht (fun p hp=>hs p (by simp [hp])) (by rw [hf];congr 3;omega))

theorem out_mup (hR : R g m st tmps w) {T K V : TypeId} {d : TypeDesc} (hT : P.underlying T = some (.map K V)) (hK : P.underlying K = some d) {agg : Bool} {id : Nat} {kvs : List (Value × List C)} (hid : st.σ id = some (.mp agg kvs)) {v k x : Value} (hv : RC (g.env m st w) (.mp id) v)
  (hk : (∃ j,d = .int j)∧∃ j n,k = .int j n) (hs : ∀ p ∈ kvs,sameK k p.1) {cs : List C} (hx : RL (RC (g.env m st w)) cs x.cells.toList) (hcd : ∀ c ∈ cs,c.isD = true) (hsh : if agg then ∃ cs,x = .agg cs else one x = true) :
  Out P g st tmps w (do Instr.mapUpdate T v k x;pure .skip) .dead [(id,.mp agg (mset kvs k cs))]:=by
 obtain ⟨agg',kvs',b,h1,hb,rfl⟩:=hv
 have hm : m id = some b:=hb
 have hE:=hR.ent id _ hid
 rw [hm] at hE
 obtain ⟨b',es,clock,hb',h2,h3⟩:=hE
 cases hb'
 have h2' : w.heap[b]? = some (.map es clock):=h2
 have hbl : b < w.heap.size:=heap_lt h2'
 have hxr : RL (RD (g.env m st w).h (g.env m st w).ok) cs x.cells.toList:=hx.imp fun c y hc h=>h.rd (hcd c hc)
 have fin : ∀ (es' : Array MapEntry) (clock' : Nat),(Instr.mapUpdate T (.map (some b)) k x).run P w = .ok () { w with heap:=w.heap.setIfInBounds b (.map es' clock') }→MRows (g.env m st w) agg (mset kvs k cs) es'.toList →
   Out P g st tmps w (do Instr.mapUpdate T (.map (some b)) k x;pure .skip) .dead [(id,.mp agg (mset kvs k cs))]:=by
  intro es' clock' hrun hrows
  have ho : ∀ j,j≠b→(w.heap.setIfInBounds b (.map es' clock'))[j]? = w.heap[j]?:=fun j hj=>Array.getElem?_setIfInBounds_ne (by omega)
  have hcc : ∀ cur E,w.heap[b]? = some (.cells cur E (0,0))→∃ cur',(w.heap.setIfInBounds b (.map es' clock'))[b]? = some (.cells cur' E (0,0))∧cur'.size = cur.size:=fun cur E hc=>by rw [h2'] at hc;cases hc
  have hle:=le_write (g:=g) (w':={ w with heap:=w.heap.setIfInBounds b (.map es' clock') }) hid rfl hm (show EntLe (.mp agg kvs) (.mp agg (mset kvs k cs)) from rfl) (by simp) ho hcc
  have hR':=hR.write (a':=.mp agg (mset kvs k cs)) hid rfl hm rfl (w':={ w with heap:=w.heap.setIfInBounds b (.map es' clock') }) (by simp) ho hcc rfl rfl rfl
   ⟨b,es',clock',rfl,by show (w.heap.setIfInBounds b _)[b]? = _;simp [hbl],hrows.imp fun _ _ _ h=>⟨h.1,h.2.1,h.2.2.imp fun _ _ _ h=>RD.le hle h⟩⟩
  exact ⟨.skip,undef,m,_,by simp [hrun],rfl,hR',trivial⟩
 have hset : ∀ (es' : Array MapEntry) (clock' : Nat),(setObj b (.map es' clock')).run P w = .ok () { w with heap:=w.heap.setIfInBounds b (.map es' clock') }:=fun es' clock'=>by
  simp [setObj,Sem.run,h2']
 have hf:=findNow_eq (e:=g.env m st w) (agg:=agg) hk kvs es.toList 0 h3 hs
 rcases hf with ⟨g1,g2⟩ | ⟨q,y,cs',ent,g1,g2,g3,g4,g5,g6,g7⟩
 ·refine fin (es.push { key:=k,val:=x,born:=clock }) (clock + 1) ?_ ?_
  ·unfold Instr.mapUpdate
   rw [Sem.run_bind,run_underlying hT,Result.andThen_ok]
   simp only [Sem.run_bind,run_getObj h2',Result.andThen_ok,run_checkKey' hK (keyD_of hk),run_findKey hK g2,hset]
  ·rw [Array.toList_push]
   exact mset_none (k:=k) (new:={ key:=k,val:=x,born:=clock }) ⟨rfl,hsh,hxr⟩ kvs es.toList h3 g1
 ·simp only [Nat.zero_add] at g2
  have hkey : (((es[q]?).map (·.key)).getD k) = ent.key:=by
   have : es[q]? = some ent:=by simpa using g3
   rw [this];rfl
  have hsame : sameK k ent.key:=by
   obtain ⟨kv,hkv⟩ : ∃ kv,kvs[q]? = some kv:=by
    have : q < es.toList.length:=by
     rcases Nat.lt_or_ge q es.toList.length with h | h
     ·exact h
     ·rw [List.getElem?_eq_none h] at g3;cases g3
    rw [← h3.1] at this
    exact ⟨_,List.getElem?_eq_getElem this⟩
   have:=h3.2 q kv ent hkv g3
   rw [this.1]
   exact hs kv (List.mem_of_getElem? hkv)
  have hstay : (Instr.keyThatStays ent.key k).run P w = .ok k w:=by
   unfold Instr.keyThatStays
   rw [if_pos (sameBits_eq g5 hsame 10000)];rfl
  refine fin (es.modify q fun e=>{ e with key:=k,val:=x }) clock ?_ ?_
  ·unfold Instr.mapUpdate
   rw [Sem.run_bind,run_underlying hT,Result.andThen_ok]
   simp only [Sem.run_bind,run_getObj h2',Result.andThen_ok,run_checkKey' hK (keyD_of hk),run_findKey hK g2,hkey,hstay,hset]
  ·rw [Array.toList_modify]
   exact mset_some hk (fun ent=>⟨rfl,hsh,hxr⟩) kvs es.toList 0 q y h3 hs (by simpa using g2)

end
end Go.Abs

namespace Go.Abs
open Go

section
variable {P : Program} {g : Gr} {m : Nat→Option Nat} {st : St} {tmps : Array Value} {w : World} {a : Act}

theorem presOf_mem {ρ : AX→SV} : ∀ {xs : List AX},presOf ρ xs→∀ x ∈ xs,(ρ x).pre
 | [],_,x,hx=>by cases hx
 | y :: ys,h,x,hx=>by
  rcases List.mem_cons.1 hx with rfl | hx
  ·exact h.1
  ·exact presOf_mem h.2 x hx

theorem pick_val {e : Env} {c x y : SV} {vc vx vy : Value} {t bx bY : Bool} (hc : RSV e c vc) (hx : RSV e x vx) (hy : RSV e y vy) (pc : c.pre) (h1 : c.one? = some (.v (.bool t))) (h2 : x.one? = some (.v (.bool bx))) (h3 : y.one? = some (.v (.bool bY)))
  (px : t = true→x.pre) (py : t = false→y.pre) : vc = .bool t∧(if t then vx else vy) = .bool (if t then bx else bY):=by
 refine ⟨one_v hc pc h1,?_⟩
 cases t
 ·simp only [Bool.false_eq_true,if_false];exact one_v hy (py rfl) h3
 ·simp only [if_true];exact one_v hx (px rfl) h2

def Snd (P : Program) (op : Op) : Prop :=
 ∀ {g : Gr} {m : Nat→Option Nat} {st : St} {tmps : Array Value} {w : World} {a : Act} {o : Oper} {ao : AOp} {fr : Nat} {sv : SV} {ups : List (Nat × Ent)} {cond : Prop},R g m st tmps w→a.tmps = tmps→o.op = op→comp P op = some ao →
  eff (ev st.sl) st.σ fr ao = some (sv,ups,cond)→cond→presOf (ev st.sl) ao.needs→Out P g st tmps w (execOp a.eval o) sv ups

theorem snd_move (x : Operand) : Snd P (.move x)∧Snd P (.assign x):=by
 constructor <;>
 ·intro g m st tmps w a o ao fr sv ups cond hR ha ho hc he hcond hp
  simp only [comp,Option.map_eq_some_iff] at hc
  obtain ⟨ax,hx,rfl⟩:=hc
  cases he
  simp only [execOp,ho]
  exact Out.quiet' hR (ev_rsv hR ha hx)

theorem snd_pick (c x y : Operand) : Snd P (.pick c x y):=by
 intro g m st tmps w a o ao fr sv ups cond hR ha ho hc he hcond hp
 simp only [comp] at hc
 split at hc
 ·rename_i c' x' y' h1 h2 h3
  cases hc
  simp only [eff] at he
  split at he
  ·rename_i t bx bY g1 g2 g3
   cases he
   have hpc : (ev st.sl c').pre:=hp.1
   obtain ⟨e1,e2⟩:=pick_val (ev_rsv hR ha h1) (ev_rsv hR ha h2) (ev_rsv hR ha h3) hpc g1 g2 g3 hcond.1 hcond.2
   simp only [execOp,ho,e1,asBool]
   exact ⟨.value _,_,m,w,rfl,rfl,hR,by rw [e2];exact RD.v _ rfl⟩
  ·cases he
 ·cases hc

theorem snd_alloc (E : TypeId) : Snd P (.alloc E):=by
 intro g m st tmps w a o ao fr sv ups cond hR ha ho hc he hcond hp
 simp only [comp,Option.map_eq_some_iff] at hc
 obtain ⟨⟨z,s,b⟩,hz,rfl⟩:=hc
 obtain ⟨i,zv,hi,hzv,hone,_,rfl,_,_⟩:=czero_spec hz
 simp only [eff] at he
 split at he
 ·rename_i hfr
  cases he
  have:=out_new (P:=P) (ty:=E) (v:=zv) hR hfr (zero_rc hone)
  simp only [execOp,ho]
  unfold Out at this ⊢
  obtain ⟨n,v,m',w',h1,h2⟩:=this
  refine ⟨n,v,m',w',?_,h2⟩
  rw [← h1]
  simp [Instr.alloc,zeroValue,typeInfo,hi,hzv]
 ·cases he

theorem snd_box (E : TypeId) (x : Operand) : Snd P (.box E x):=by
 intro g m st tmps w a o ao fr sv ups cond hR ha ho hc he hcond hp
 simp only [comp,Option.map_eq_some_iff] at hc
 obtain ⟨ax,hx,rfl⟩:=hc
 simp only [eff] at he
 split at he
 ·rename_i cs hfr h1
  cases he
  simp only [execOp,ho]
  exact out_new hR hfr ((ev_rsv hR ha hx).cells hp.1 h1)
 ·cases he

theorem ptr_of (hR : R g m st tmps w) {c : C} {v : Value} (h : RC (g.env m st w) c v) :
  (∀ id off cs,c = .bp id off→st.σ id = some (.box cs)→PtrAt (g.env m st w) v (cs.drop off)) ∧
  (∀ id i off E s rows fz,c = .ep id i off→st.σ id = some (.arr E s rows fz)→i < rows.length→PtrAt (g.env m st w) v ((rows[i]?.getD []).drop off)) ∧
  (∀ cs,c = .rp cs→PtrAt (g.env m st w) v cs):=by
 refine ⟨?_,?_,?_⟩
 ·rintro id off cs rfl hs
  exact ptr_bp h (hR.ent id _ hs)
 ·rintro id i off E s rows fz rfl hs hi
  exact ptr_ep h hs (hR.ent id _ hs) hi
 ·rintro cs rfl
  exact ptr_rp h

theorem row_len (hR : R g m st tmps w) {id : Nat} {E : TypeId} {s : Nat} {rows : List (List C)} {fz : Bool} (hs : st.σ id = some (.arr E s rows fz)) {i : Nat} (hi : i < rows.length) : (rows[i]?.getD []).length = s:=by
 have:=(hR.ent id _ hs).2.1 rows[i] (List.getElem_mem hi)
 rw [List.getElem?_eq_getElem hi];exact this

theorem drop_cons {cs : List C} {off : Nat} {c : C} (h : cs[off]? = some c) : ∃ r,cs.drop off = c :: r:=by
 have hl : off < cs.length:=by
  rcases Nat.lt_or_ge off cs.length with h' | h'
  ·exact h'
  ·rw [List.getElem?_eq_none h'] at h;cases h
 rw [List.drop_eq_getElem_cons hl]
 rw [List.getElem?_eq_getElem hl] at h
 cases h
 exact ⟨_,rfl⟩

theorem snd_load (T : TypeId) (x : Operand) : Snd P (.load T x):=by
 intro g m st tmps w a o ao fr sv ups cond hR ha ho hc he hcond hp
 simp only [comp] at hc
 split at hc
 ·rename_i d i ax hu hi hx
  simp only [execOp,ho]
  split at hc <;> cases hc
  ·rename_i hd
   have hrun : ∀ cs,PtrAt (g.env m st w) (a.eval x) cs→cs.length = i.size→Out P g st tmps w (do pure (.value (← Instr.loadAt T (a.eval x)))) (.agg cs) []:=fun cs h1 h2=>by
    obtain ⟨vs,hr,hv⟩:=run_ldn (P:=P) (e:=g.env m st w) rfl hu hd hi h1 h2
    exact Out.quiet hR hr ⟨vs,rfl,hv⟩
   have hxs:=ev_rsv hR ha hx
   simp only [eff] at he
   split at he
   ·rename_i id off h1
    have hpt:=ptr_of hR (hxs.one hp.1 h1)
    split at he
    ·rename_i cs hid
     split at he
     ·rename_i hl
      cases he
      exact hrun _ ((hpt.1 _ _ _ rfl hid).take _) (by simp;omega)
     ·cases he
    ·cases he
   ·rename_i id n off h1
    have hpt:=ptr_of hR (hxs.one hp.1 h1)
    split at he
    ·rename_i E s rows fz hid
     cases he
     have hl:=row_len hR hid hcond.1
     exact hrun _ ((hpt.2.1 _ _ _ _ _ _ _ rfl hid hcond.1).take _) (by have:=hcond.2;simp;omega)
    ·cases he
   ·rename_i cs h1
    have hpt:=ptr_of hR (hxs.one hp.1 h1)
    cases he
    exact hrun _ ((hpt.2.2 _ rfl).take _) (by have h : i.size≤cs.length:=hcond;simp;omega)
   ·cases he
  ·rename_i hd
   have hrun : ∀ c cs,PtrAt (g.env m st w) (a.eval x) (c :: cs)→Out P g st tmps w (do pure (.value (← Instr.loadAt T (a.eval x)))) (.c c) []:=fun c cs h1=>by
    obtain ⟨v,hr,hv⟩:=run_ld1 (P:=P) (e:=g.env m st w) rfl hu (by simpa using hd) h1
    exact Out.quiet hR hr hv
   have hxs:=ev_rsv hR ha hx
   simp only [eff] at he
   split at he
   ·rename_i id off h1
    have hpt:=ptr_of hR (hxs.one hp.1 h1)
    split at he
    ·rename_i cs hid
     simp only [Option.map_eq_some_iff] at he
     obtain ⟨c,hcc,he⟩:=he
     cases he
     obtain ⟨r,hr⟩:=drop_cons hcc
     exact hrun c r (hr ▸ hpt.1 _ _ _ rfl hid)
    ·cases he
   ·rename_i id n off h1
    have hpt:=ptr_of hR (hxs.one hp.1 h1)
    split at he
    ·rename_i E s rows fz hid
     cases he
     have hl:=row_len hR hid hcond.1
     have hc2:=hcond.2
     have hcc : (rows[n]?.getD [])[off]? = some ((rows[n]?.getD [])[off]'(by omega)):=List.getElem?_eq_getElem (by omega)
     obtain ⟨r,hr⟩:=drop_cons hcc
     rw [hcc]
     exact hrun _ r (hr ▸ hpt.2.1 _ _ _ _ _ _ _ rfl hid hcond.1)
    ·cases he
   ·rename_i cs h1
    have hpt:=ptr_of hR (hxs.one hp.1 h1)
    cases he
    cases cs with
    | nil=>exact absurd hcond (by simp)
    | cons c cs=>exact hrun c cs (hpt.2.2 _ rfl)
   ·cases he
 ·cases hc

theorem snd_store (T : TypeId) (x y : Operand) : Snd P (.store T x y):=by
 intro g m st tmps w a o ao fr sv ups cond hR ha ho hc he hcond hp
 simp only [comp] at hc
 split at hc
 ·rename_i i ax ay hi hx hy
  cases hc
  simp only [execOp,ho]
  have hxs:=ev_rsv hR ha hx
  have hys:=ev_rsv hR ha hy
  simp only [eff] at he
  split at he
  ·rename_i id off ys h1 h2
   split at he
   ·rename_i cs hid
    split at he
    ·rename_i hl
     cases he
     exact out_st_box hR hi hid (hxs.one hp.1 h1) (hys.cells hp.2.1 h2) hl.1 hl.2
    ·cases he
   ·cases he
  ·rename_i id n off ys h1 h2
   split at he
   ·rename_i E s rows hid
    split at he
    ·rename_i hl
     cases he
     exact out_st_arr hR hi hid (hxs.one hp.1 h1) (hys.cells hp.2.1 h2) hl hcond.1 hcond.2
    ·cases he
   ·cases he
  ·cases he
 ·cases hc

end
end Go.Abs

namespace Go.Abs
open Go

section
variable {P : Program}

theorem out_quiet_v {g : Gr} {m : Nat→Option Nat} {st : St} {tmps : Array Value} {w : World} (hR : R g m st tmps w) {sem : Sem Value} {v : Value} (hr : sem.run P w = .ok v w) (h1 : one v = true) : Out P g st tmps w (do pure (.value (← sem))) (.c (.v v)) [] :=
 Out.quiet hR hr (show RSV _ (.c (.v v)) v from RD.v v h1)

theorem snd_cmpP {g : Gr} {m : Nat→Option Nat} {st : St} {tmps : Array Value} {w : World} {a : Act} {o : Oper} {fr : Nat} {sv : SV} {ups : List (Nat × Ent)} {cond : Prop} (hR : R g m st tmps w) (ha : a.tmps = tmps) {op : BinOp} {T E U : TypeId} {x : Operand}
  (ho : o.op = .binOp op T x (.const (.pointer none)) U) (hu : P.underlying T = some (.pointer E)) {neg : Bool} (hop : op = if neg then .neq else .eql) {ax : AX} (hx : cx x = some ax) (he : eff (ev st.sl) st.σ fr (.cmpP neg ax) = some (sv,ups,cond)) (hpre : (ev st.sl ax).pre) :
  Out P g st tmps w (execOp a.eval o) sv ups:=by
 have hxs:=ev_rsv hR ha hx
 have fin : ∀ (ad : Option Addr) (b : Bool),a.eval x = .pointer ad→ad.isNone = b→sv = .c (.v (.bool (if neg then !b else b)))→ups = []→Out P g st tmps w (execOp a.eval o) sv ups:=by
  rintro ad b hv rfl rfl rfl
  have hr:=run_cmpP (P:=P) (w:=w) hu ad x
  subst hop
  have e1 : a.eval (.const (.pointer none)) = .pointer none:=rfl
  simp only [execOp,ho,hv,e1]
  cases neg
  ·exact out_quiet_v hR hr.1 rfl
  ·exact out_quiet_v hR hr.2 rfl
 simp only [eff] at he
 split at he
 ·rename_i id off h1
  cases he
  obtain ⟨_,_,_,_,hv⟩:=hxs.one hpre h1
  exact fin _ false hv rfl (by cases neg <;> rfl) rfl
 ·rename_i cs h1
  cases he
  obtain ⟨_,_,_,hv,_⟩:=hxs.one hpre h1
  exact fin _ false hv rfl (by cases neg <;> rfl) rfl
 ·rename_i h1
  cases he
  have hv:=one_v hxs hpre h1
  exact fin _ true hv rfl (by cases neg <;> rfl) rfl
 ·cases he

theorem snd_cmpS {g : Gr} {m : Nat→Option Nat} {st : St} {tmps : Array Value} {w : World} {a : Act} {o : Oper} {fr : Nat} {sv : SV} {ups : List (Nat × Ent)} {cond : Prop} (hR : R g m st tmps w) (ha : a.tmps = tmps) {op : BinOp} {T E U : TypeId} {x : Operand}
  (ho : o.op = .binOp op T x (.const (.slice none 0 0)) U) (hu : P.underlying T = some (.slice E)) {neg : Bool} (hop : op = if neg then .neq else .eql) {ax : AX} (hx : cx x = some ax) (he : eff (ev st.sl) st.σ fr (.cmpS neg ax) = some (sv,ups,cond)) (hcond : cond) (hpre : (ev st.sl ax).pre) :
  Out P g st tmps w (execOp a.eval o) sv ups:=by
 have hxs:=ev_rsv hR ha hx
 have fin : ∀ (ad : Option Addr) (l c : Nat) (b : Bool),a.eval x = .slice ad l c→ad.isNone = b→sv = .c (.v (.bool (if neg then !b else b)))→ups = []→Out P g st tmps w (execOp a.eval o) sv ups:=by
  rintro ad l c b hv rfl rfl rfl
  have hr:=run_cmpS (P:=P) (w:=w) hu ad l c x
  subst hop
  have e1 : a.eval (.const (.slice none 0 0)) = .slice none 0 0:=rfl
  simp only [execOp,ho,hv,e1]
  cases neg
  ·exact out_quiet_v hR hr.1 rfl
  ·exact out_quiet_v hR hr.2 rfl
 simp only [eff] at he
 split at he
 ·rename_i h1
  cases he
  have hv:=one_v hxs hpre h1
  exact fin _ _ _ true hv rfl (by cases neg <;> rfl) rfl
 ·rename_i h1
  cases he
  have hv:=one_v hxs hpre h1
  exact fin _ _ _ false hv rfl (by cases neg <;> rfl) rfl
 ·rename_i rows h1
  cases he
  have hv : RD (g.env m st w).h (g.env m st w).ok (.sl rows) (a.eval x):=hxs.one hpre h1
  cases hv' : a.eval x <;> rw [hv'] at hv <;> cases hv
  ·exact absurd rfl hcond
  ·exact absurd rfl hcond
  ·exact fin _ _ _ false hv' rfl (by cases neg <;> rfl) rfl
 ·rename_i id h1
  split at he
  ·rename_i E' s rows fz hid
   cases he
   obtain ⟨b,h2,h3⟩:=hxs.one hpre h1
   have h2' : st.σ id = some b:=h2
   rw [hid] at h2';cases h2'
   have hE:=hR.ent id _ hid
   simp only at h3
   split at h3
   ·rename_i hm
    rw [show m id = none from hm] at hE
    obtain ⟨_,_,⟨_,h⟩ | ⟨_,_,_,h,_⟩⟩:=hE
    ·exact absurd h hcond
    ·cases h
   ·obtain ⟨_,_,_,_,hv⟩:=h3
    exact fin _ _ _ false hv rfl (by cases neg <;> rfl) rfl
  ·cases he
 ·cases he

theorem snd_binOp (op : BinOp) (T : TypeId) (x y : Operand) (U : TypeId) : Snd P (.binOp op T x y U):=by
 intro g m st tmps w a o ao fr sv ups cond hR ha ho hc he hcond hp
 simp only [comp] at hc
 split at hc
 ·rename_i hu hx;cases hc;exact snd_cmpP (neg:=false) hR ha ho hu rfl hx he hp.1
 ·rename_i hu hx;cases hc;exact snd_cmpP (neg:=true) hR ha ho hu rfl hx he hp.1
 ·rename_i hu hx;cases hc;exact snd_cmpS (neg:=false) hR ha ho hu rfl hx he hcond hp.1
 ·rename_i hu hx;cases hc;exact snd_cmpS (neg:=true) hR ha ho hu rfl hx he hcond hp.1
 ·rename_i hu hx hy
  cases hc
  simp only [eff] at he
  split at he
  ·rename_i va vb h1 h2
   simp only [Option.map_eq_some_iff] at he
   obtain ⟨r,hb,he⟩:=he
   cases he
   have e1:=one_v (ev_rsv hR ha hx) hp.1 h1
   have e2:=one_v (ev_rsv hR ha hy) hp.2.1 h2
   simp only [execOp,ho,e1,e2]
   exact out_bin hR hu hb hcond
  ·cases he
 ·cases hc

theorem snd_unOp (op : UnOp) (T : TypeId) (x : Operand) : Snd P (.unOp op T x):=by
 intro g m st tmps w a o ao fr sv ups cond hR ha ho hc he hcond hp
 simp only [comp,Option.map_eq_some_iff] at hc
 obtain ⟨ax,hx,rfl⟩:=hc
 simp only [eff] at he
 split at he
 ·rename_i va h1
  simp only [Option.map_eq_some_iff] at he
  obtain ⟨r,hb,he⟩:=he
  cases he
  simp only [execOp,ho,one_v (ev_rsv hR ha hx) hp.1 h1]
  exact out_un hR hb
 ·cases he

theorem byteRow_len {rows : List (List C)} (h : ∀ r ∈ rows,isByteRow r) : ∀ r ∈ rows,r.length = 1:=by
 intro r hr
 obtain ⟨n,rfl⟩:=h r hr
 rfl

theorem snd_convert (S T : TypeId) (x : Operand) : Snd P (.convert S T x):=by
 intro g m st tmps w a o ao fr sv ups cond hR ha ho hc he hcond hp
 simp only [comp] at hc
 split at hc
 ·rename_i dS k ax hS hT hx
  cases hc
  simp only [eff] at he
  split at he
  ·rename_i kk n h1
   cases he
   simp only [execOp,ho,one_v (ev_rsv hR ha hx) hp.1 h1]
   refine out_quiet_v hR ?_ rfl
   simp [convert,run_underlying hT,run_underlying hS,Conv.intToInt]
  ·cases he
 ·rename_i E ax hS hT hx
  split at hc
  ·rename_i hE
   cases hc
   simp only [eff] at he
   split at he
   ·rename_i rows h1
    cases he
    simp only [Option.bind_eq_some_iff] at h1
    obtain ⟨c,h1,h2⟩:=h1
    simp only [execOp,ho]
    exact out_b2s hR hS hE hT (slAt_of ((ev_rsv hR ha hx).one hp.1 h1) h2 (byteRow_len hcond) hR.ent) hcond
   ·cases he
  ·cases hc
 ·rename_i E ax hS hT hx
  split at hc
  ·rename_i hE
   cases hc
   simp only [eff] at he
   split at he
   ·rename_i s h1
    cases he
    simp only [execOp,ho,one_v (ev_rsv hR ha hx) hp.1 h1]
    exact out_s2b hR hS hT hE
   ·cases he
  ·cases hc
 ·rename_i E' E ax hS hT hx
  split at hc
  ·rename_i hST hE
   cases hc
   simp only [eff] at he
   split at he
   ·rename_i id h1
    split at he
    ·rename_i Ea s rows hid
     cases he
     simp only [execOp,ho]
     exact out_cvB hR hST hS hT hE hid ((ev_rsv hR ha hx).one hp.1 h1) hcond.1 hcond.2
    ·cases he
   ·cases he
  ·cases hc
 ·cases hc

theorem snd_nilCheck (x : Operand) : Snd P (.nilCheck x):=by
 intro g m st tmps w a o ao fr sv ups cond hR ha ho hc he hcond hp
 simp only [comp,Option.map_eq_some_iff] at hc
 obtain ⟨ax,hx,rfl⟩:=hc
 have hxs:=ev_rsv hR ha hx
 simp only [eff] at he
 split at he
 ·rename_i id off h1
  cases he
  have hv:=hxs.one hp.1 h1
  obtain ⟨cs,b,h2,h3,h4⟩:=hv
  simp only [execOp,ho,h4]
  exact ⟨.value _,_,m,w,rfl,rfl,hR,cs,b,h2,h3,rfl⟩
 ·rename_i cs h1
  cases he
  have hv:=hxs.one hp.1 h1
  obtain ⟨b,off,h2,h4,h5⟩:=hv
  simp only [execOp,ho,h4]
  exact ⟨.value _,_,m,w,rfl,rfl,hR,b,off,h2,rfl,h5⟩
 ·cases he

theorem snd_fieldAddr (S : TypeId) (x : Operand) (f : Nat) : Snd P (.fieldAddr S x f):=by
 intro g m st tmps w a o ao fr sv ups cond hR ha ho hc he hcond hp
 simp only [comp] at hc
 split at hc
 ·rename_i fs ax hu hx
  split at hc
  ·rename_i fd hf
   split at hc
   ·rename_i i hi
    split at hc
    ·cases hc
    ·rename_i h0
     cases hc
     simp only [execOp,ho]
     have hxs:=ev_rsv hR ha hx
     simp only [eff] at he
     split at he
     ·rename_i id off h1
      cases he
      exact (out_fa hR hu hf hi h0 (hxs.one hp.1 h1)).1 _ _ rfl
     ·rename_i id n off h1
      split at he
      ·rename_i hid
       cases he
       exact (out_fa hR hu hf hi h0 (hxs.one hp.1 h1)).2.1 _ _ _ rfl (fun a ha'=>by rw [hid] at ha';cases ha';simp)
      ·cases he
     ·rename_i cs h1
      cases he
      exact (out_fa hR hu hf hi h0 (hxs.one hp.1 h1)).2.2 _ rfl
     ·cases he
   ·cases hc
  ·cases hc
 ·cases hc

end
end Go.Abs

namespace Go.Abs
open Go

section
variable {P : Program}

theorem snd_indexAddr (T : TypeId) (x y : Operand) : Snd P (.indexAddr T x y):=by
 intro g m st tmps w a o ao fr sv ups cond hR ha ho hc he hcond hp
 simp only [comp] at hc
 split at hc
 ·rename_i E ax ai hu hx hi
  simp only [Option.map_eq_some_iff] at hc
  obtain ⟨i,hinf,rfl⟩:=hc
  simp only [eff] at he
  split at he
  ·rename_i rows k n h1 h2
   cases he
   simp only [execOp,ho,one_v (ev_rsv hR ha hi) hp.2.1 h2]
   exact out_ia_sl hR hu hinf ((ev_rsv hR ha hx).one hp.1 h1) hcond.1 hcond.2.1 hcond.2.2
  ·rename_i id k n h1 h2
   split at he
   ·rename_i E' s rows fz hid
    split at he
    ·rename_i hs
     cases he
     subst hs
     simp only [execOp,ho,one_v (ev_rsv hR ha hi) hp.2.1 h2]
     exact out_ia_osl hR hu hinf hid ((ev_rsv hR ha hx).one hp.1 h1) hcond.1 hcond.2
    ·cases he
   ·cases he
  ·rename_i id lo k n h1 h2
   split at he
   ·rename_i E' s rows hid
    split at he
    ·rename_i hs
     cases he
     subst hs
     simp only [execOp,ho,one_v (ev_rsv hR ha hi) hp.2.1 h2]
     exact out_ia_ow hR hu hinf hid ((ev_rsv hR ha hx).one hp.1 h1) hcond.1 hcond.2.1 hcond.2.2
    ·cases he
   ·cases he
  ·cases he
 ·rename_i len E ax k n hu hx hi
  split at hc
  ·rename_i inf hinf
   split at hc
   ·rename_i hn
    cases hc
    have hiv:=one_v (ev_rsv (st:=st) hR ha hi) trivial (rfl : SV.one? (.c (.v (.int k n))) = _)
    simp only [eff] at he
    split at he
    ·rename_i id off h1
     cases he
     simp only [execOp,ho,hiv]
     exact (out_faA hR hu hinf hn.1 hn.2 ((ev_rsv hR ha hx).one hp.1 h1)).1 _ _ rfl
    ·rename_i id q off h1
     split at he
     ·rename_i E' s' rows fz hid
      cases he
      simp only [execOp,ho,hiv]
      exact (out_faA hR hu hinf hn.1 hn.2 ((ev_rsv hR ha hx).one hp.1 h1)).2.1 _ _ _ rfl (fun a ha2=>by rw [hid] at ha2;cases ha2;simp)
     ·cases he
    ·rename_i cs h1
     cases he
     simp only [execOp,ho,hiv]
     exact (out_faA hR hu hinf hn.1 hn.2 ((ev_rsv hR ha hx).one hp.1 h1)).2.2 _ rfl
    ·cases he
   ·cases hc
  ·cases hc
 ·cases hc

theorem snd_index (T : TypeId) (x y : Operand) : Snd P (.index T x y):=by
 intro g m st tmps w a o ao fr sv ups cond hR ha ho hc he hcond hp
 simp only [comp] at hc
 split at hc
 ·rename_i ax ai hu hx hi
  cases hc
  simp only [eff] at he
  split at he
  ·rename_i s k n h1 h2
   cases he
   simp only [execOp,ho,one_v (ev_rsv hR ha hx) hp.1 h1,one_v (ev_rsv hR ha hi) hp.2.1 h2]
   exact out_idxS hR hu hcond.1 hcond.2
  ·cases he
 ·cases hc

theorem bound_of {g : Gr} {m : Nat→Option Nat} {st : St} {tmps : Array Value} {w : World} {a : Act} (hR : R g m st tmps w) (ha : a.tmps = tmps) {lo : Option Operand} {al : Option AX} (h : cxo lo = some al) (hp : ∀ x ∈ al.toList,(ev st.sl x).pre) {dflt l : Int}
  (hl : bnd (ev st.sl) dflt al = some l) : (lo.map a.eval = none∧l = dflt)∨∃ k,lo.map a.eval = some (.int k l):=by
 cases lo with
 | none =>
  cases h
  cases hl
  exact .inl ⟨rfl,rfl⟩
 | some x =>
  simp only [cxo,Option.map_eq_some_iff] at h
  obtain ⟨ax,hx,rfl⟩:=h
  simp only [bnd] at hl
  split at hl
  ·rename_i k n h1
   cases hl
   exact .inr ⟨k,by rw [Option.map_some,one_v (ev_rsv hR ha hx) (hp ax (by simp)) h1]⟩
  ·cases hl

theorem bound_of' {g : Gr} {m : Nat→Option Nat} {st : St} {tmps : Array Value} {w : World} {a : Act} (hR : R g m st tmps w) (ha : a.tmps = tmps) {lo : Option Operand} {al : Option AX} (h : cxo lo = some al) (hp : ∀ x ∈ al.toList,(ev st.sl x).pre) (dflt : Int) {l : Option Int}
  (hl : bnd' (ev st.sl) al = some l) : (lo.map a.eval = none∧l.getD dflt = dflt)∨∃ k,lo.map a.eval = some (.int k (l.getD dflt)):=by
 cases lo with
 | none =>
  cases h
  cases hl
  exact .inl ⟨rfl,rfl⟩
 | some x =>
  simp only [cxo,Option.map_eq_some_iff] at h
  obtain ⟨ax,hx,rfl⟩:=h
  simp only [bnd'] at hl
  split at hl
  ·rename_i k n h1
   cases hl
   exact .inr ⟨k,by rw [Option.map_some,one_v (ev_rsv hR ha hx) (hp ax (by simp)) h1];rfl⟩
  ·cases hl

theorem snd_slice (T : TypeId) (x : Operand) (lo hi mx : Option Operand) : Snd P (.slice T x lo hi mx):=by
 intro g m st tmps w a o ao fr sv ups cond hR ha ho hc he hcond hp
 simp only [comp] at hc
 split at hc
 ·rename_i E ax al ah hu hx hlo hhi
  simp only [Option.map_eq_some_iff] at hc
  obtain ⟨i,hinf,rfl⟩:=hc
  have hpx : (ev st.sl ax).pre:=hp.1
  have hpm : ∀ y ∈ al.toList ++ ah.toList,(ev st.sl y).pre:=presOf_mem hp.2
  simp only [eff] at he
  split at he
  ·split at he
   ·rename_i c l h h1 hl hh
    have hxs:=(ev_rsv hR ha hx).one hpx h1
    have bl:=bound_of hR ha hlo (fun y hy=>hpm y (List.mem_append_left _ hy)) hl
    have bh:=fun d=>bound_of' hR ha hhi (fun y hy=>hpm y (List.mem_append_right _ hy)) d hh
    simp only [execOp,ho,Option.map_none]
    unfold winTo at he
    split at he
    ·rename_i id
     split at he
     ·rename_i E' s' rows fz hid
      split at he
      ·rename_i hss
       cases he
       subst hss
       exact out_slc_win hR hu hinf hid hxs bl (bh (rows.length : Int)) hcond.1 hcond.2.1 hcond.2.2.1 hcond.2.2.2
      ·cases he
     ·cases he
    ·rename_i id lo q
     split at he
     ·rename_i E' s' rows fz hid
      split at he
      ·rename_i hss
       cases he
       subst hss
       exact out_slc_win2 hR hu hinf hid hxs bl (bh (q : Int)) hcond.1 hcond.2.1 hcond.2.2
      ·cases he
     ·cases he
    ·cases he
   ·cases he
  split at he
  ·split at he
   ·rename_i c l h h1 hl hh
    have hxs:=(ev_rsv hR ha hx).one hpx h1
    have bl:=fun d=>bound_of' hR ha hlo (fun y hy=>hpm y (List.mem_append_left _ hy)) d hl
    have bh:=fun d=>bound_of' hR ha hhi (fun y hy=>hpm y (List.mem_append_right _ hy)) d hh
    simp only [execOp,ho,Option.map_none]
    unfold keepTo at he
    split at he
    ·cases he
     rw [rc_v hxs]
     obtain ⟨c1,c2⟩:=hcond
     have hl0:=bl 0
     have hh0:=bh 0
     rw [c1] at hl0
     rw [c2] at hh0
     exact out_quiet_v hR (v:=.slice none 0 0) (by
      have:=run_slc0 (P:=P) (w:=w) (len:=0) (cap:=0) (l:=0) (h:=0) hu hinf none hl0 hh0 (by omega) (by omega) (by omega)
      simpa using this) rfl
    ·rename_i id l
     split at he
     ·rename_i E' s' rows fz hid
      split at he
      ·rename_i hss
       cases he
       subst hss
       have hw:=out_slc_win (lo:=lo.map a.eval) (hi':=hi.map a.eval) hR hu hinf hid hxs (h:=rows.length) (by have:=bl 0;simp only [Option.getD_some] at this;exact this) (by have:=bh (rows.length : Int);simpa using this) hcond.1 hcond.2.1 (Int.le_refl _) hcond.2.2
       rw [Int.toNat_natCast] at hw
       exact hw
      ·cases he
     ·cases he
    ·rename_i id h
     split at he
     ·rename_i E' s' rows hfr hid
      split at he
      ·rename_i hss
       cases he
       subst hss
       exact out_slc_cut hR hu hinf hfr hid hxs (by have:=bl 0;simpa using this) (by have:=bh (rows.length : Int);simp only [Option.getD_some] at this;exact this) hcond.1 hcond.2
      ·cases he
     ·cases he
    ·cases he
   ·cases he
  ·split at he
   rename_i c l h h1 hl hh
   ·have hxs:=(ev_rsv hR ha hx).one hpx h1
    have bl:=bound_of hR ha hlo (fun y hy=>hpm y (List.mem_append_left _ hy)) hl
    have bh:=fun d=>bound_of' hR ha hhi (fun y hy=>hpm y (List.mem_append_right _ hy)) d hh
    unfold sliceTo at he
    split at he
    ·cases he
    ·rename_i rows hrows
     simp only at he
     split at he
     ·rename_i id
      split at he
      ·rename_i E' s' rows' fz hid
       split at he
       ·rename_i hss
        cases he
        have hrr : rows = rows':=by simp only [rowsOf,hid,Option.some.injEq] at hrows;exact hrows.symm
        subst hrr
        subst hss
        obtain ⟨c0,c1,c2,c3⟩:=hcond
        have hR':=hR.freeze hid
        have hle:=le_freeze (g:=g) (m:=m) (w:=w) hid
        have hid' : upd st.σ id (some (.arr E' i.size rows true)) id = some (.arr E' i.size rows true):=by rw [upd_apply,if_pos rfl]
        have hrd:=osl_rd hR' hid' c3 (RC.le hle hxs) (fun b hb=>ok_frozen hR hid hb)
        have hsz:=(hR.ent id _ hid).2.1
        obtain ⟨v,hr,hv⟩:=run_slc_sl (P:=P) (st:={ st with σ:=upd st.σ id (some (.arr E' i.size rows true)) }) hu hinf hrd hsz bl (bh rows.length) c0 c1 c2
        simp only [execOp,ho,Option.map_none]
        exact ⟨.value v,v,m,w,by simp [hr],rfl,hR',hv.rc⟩
       ·cases he
      ·cases he
     ·cases he
     ·cases he
     ·cases he
      obtain ⟨c0,c1,c2,c3⟩:=hcond
      have hrd : RD (g.env m st w).h (g.env m st w).ok (.sl rows) (a.eval x):=by
       unfold rowsOf at hrows
       split at hrows
       ·cases hrows
        have hv:=rc_v hxs
        rw [hv];exact .nil
       ·exfalso;simp_all
       ·cases hrows
        exact hxs
       ·exfalso;simp_all
       ·exfalso;simp_all
       ·cases hrows
      obtain ⟨v,hr,hv⟩:=run_slc_sl (P:=P) hu hinf hrd c3 bl (bh rows.length) c0 c1 c2
      simp only [execOp,ho,Option.map_none]
      exact Out.quiet hR hr hv.rc
   ·cases he
 ·rename_i ax al ah hu hx hlo hhi
  cases hc
  have hpx : (ev st.sl ax).pre:=hp.1
  have hpm : ∀ y ∈ al.toList ++ ah.toList,(ev st.sl y).pre:=presOf_mem hp.2
  simp only [eff] at he
  split at he
  ·rename_i s h1
   split at he
   ·rename_i l h hl hh
    cases he
    have bl:=bound_of hR ha hlo (fun y hy=>hpm y (List.mem_append_left _ hy)) hl
    have bh:=bound_of hR ha hhi (fun y hy=>hpm y (List.mem_append_right _ hy)) hh
    simp only [execOp,ho,Option.map_none,one_v (ev_rsv hR ha hx) hpx h1]
    exact out_slcS hR hu bl bh hcond.1 hcond.2.1 hcond.2.2
   ·cases he
  ·cases he
 ·rename_i mx E ax al ah hu hx hlo hhi
  split at hc
  ·rename_i am hmx
   simp only [Option.map_eq_some_iff] at hc
   obtain ⟨i,hinf,rfl⟩:=hc
   have hpx : (ev st.sl ax).pre:=hp.1
   have hpmx : (ev st.sl am).pre:=hp.2.1
   have hpm : ∀ y ∈ al.toList ++ ah.toList,(ev st.sl y).pre:=presOf_mem hp.2.2
   simp only [eff] at he
   split at he
   ·rename_i rows l h k m h1 hl hh h4
    cases he
    have bl:=bound_of hR ha hlo (fun y hy=>hpm y (List.mem_append_left _ hy)) hl
    have bh : ∃ k,hi.map a.eval = some (.int k h):=by
     rcases bound_of' hR ha hhi (fun y hy=>hpm y (List.mem_append_right _ hy)) (h + 1) hh with ⟨_,h5⟩ | h5
     ·simp only [Option.getD_some] at h5;omega
     ·exact h5
    simp only [execOp,ho,Option.map_some,one_v (ev_rsv hR ha hmx) hpmx h4]
    exact out_slc3_sl hR hu hinf ((ev_rsv hR ha hx).one hpx h1) hcond.2.2.2.2 bl bh ⟨_,rfl⟩ hcond.1 hcond.2.1 hcond.2.2.1 hcond.2.2.2.1
   ·rename_i id l h k m h1 hl hh h4
    split at he
    ·rename_i E' s' rows fz hid
     split at he
     ·rename_i hs
      cases he
      subst hs
      have bl:=bound_of hR ha hlo (fun y hy=>hpm y (List.mem_append_left _ hy)) hl
      have bh : ∃ k,hi.map a.eval = some (.int k h):=by
       rcases bound_of' hR ha hhi (fun y hy=>hpm y (List.mem_append_right _ hy)) (h + 1) hh with ⟨_,h5⟩ | h5
       ·simp only [Option.getD_some] at h5;omega
       ·exact h5
      simp only [execOp,ho,Option.map_some,one_v (ev_rsv hR ha hmx) hpmx h4]
      exact out_slc3_osl hR hu hinf hid ((ev_rsv hR ha hx).one hpx h1) bl bh ⟨_,rfl⟩ hcond.1 hcond.2.1 hcond.2.2.1 hcond.2.2.2
     ·cases he
    ·cases he
   ·cases he
  ·cases hc
 ·cases hc

theorem snd_makeSlice (T : TypeId) (x y : Operand) : Snd P (.makeSlice T x y):=by
 intro g m st tmps w a o ao fr sv ups cond hR ha ho hc he hcond hp
 simp only [comp] at hc
 split at hc
 ·rename_i E ax ay hu hx hy
  split at hc
  ·rename_i z s b hz
   split at hc
   ·rename_i hsb
    cases hc
    obtain ⟨i,zv,hi,hzv,hone,hzs,rfl,rfl,rfl⟩:=czero_spec hz
    simp only [eff] at he
    split at he
    ·rename_i k n k' c hfr h1 h2
     cases he
     simp only [execOp,ho,one_v (ev_rsv hR ha hx) hp.1 h1,one_v (ev_rsv hR ha hy) hp.2.1 h2]
     exact out_mkS hR hu hi hzv hone hzs hsb.1 hsb.2 hfr hcond.1 hcond.2.1 hcond.2.2
    ·cases he
   ·cases hc
  ·cases hc
 ·cases hc

theorem snd_buildSlice (T : TypeId) (n : Nat) (parts : Array (Nat × Operand)) : Snd P (.buildSlice T n parts):=by
 intro g m st tmps w a o ao fr sv ups cond hR ha ho hc he hcond hp
 simp only [comp] at hc
 split at hc
 ·rename_i E ps hu hps
  split at hc
  ·rename_i z s b hz
   split at hc
   ·rename_i hsb
    cases hc
    obtain ⟨i,zv,hi,hzv,hone,hzs,rfl,rfl,rfl⟩:=czero_spec hz
    simp only [eff] at he
    split at he
    ·rename_i rows hfr h1
     cases he
     simp only [execOp,ho]
     exact out_bS hR (fun x ax hx=>ev_rsv hR ha hx) hu hi hzv hzs hsb.1 hfr hps h1 (presOf_mem hp) hsb.2.1 hsb.2.2
    ·cases he
   ·cases hc
  ·cases hc
 ·cases hc

theorem snd_build (T : TypeId) (parts : Array (Nat × Operand)) : Snd P (.build T parts):=by
 intro g m st tmps w a o ao fr sv ups cond hR ha ho hc he hcond hp
 simp only [comp] at hc
 split at hc
 ·rename_i fs z s b hu hz
  split at hc
  ·rename_i pl hpl
   simp only [Option.map_eq_some_iff] at hc
   obtain ⟨ps,hps,rfl⟩:=hc
   obtain ⟨i,zv,hi,hzv,hone,hzs,rfl,rfl,rfl⟩:=czero_spec hz
   simp only [eff,Option.map_eq_some_iff] at he
   obtain ⟨cs,hb,he⟩:=he
   cases he
   have hpre : ∀ p ∈ ps,(ev st.sl p.2.2).pre:=fun p hp'=>presOf_mem hp p.2.2 (List.mem_map_of_mem hp')
   obtain ⟨cells',h1,h2⟩:=fill_bld (e:=g.env m st w) (ev st.sl) a.eval (fun x ax hx=>ev_rsv hR ha hx) parts.toList ps _ cs zv.cells hps hb hpre (zero_rc hone)
   have hbt : P.built T (parts.map fun (i,x)=>(i,a.eval x)).toList = some cells':=by
    unfold Program.built
    simp only [hi,hu,hzv,hpl,Array.toList_map]
    exact h1
   simp only [execOp,ho]
   exact Out.quiet hR (run_build w T _ cells' hbt) ⟨cells',rfl,h2⟩
  ·cases hc
 ·rename_i len E z s b hu hz
  split at hc
  ·rename_i ie hie
   simp only [Option.map_eq_some_iff] at hc
   obtain ⟨ps,hps,rfl⟩:=hc
   obtain ⟨i,zv,hi,hzv,hone,hzs,rfl,rfl,rfl⟩:=czero_spec hz
   simp only [eff,Option.map_eq_some_iff] at he
   obtain ⟨cs,hb,he⟩:=he
   cases he
   have hpre : ∀ p ∈ ps,(ev st.sl p.2.2).pre:=fun p hp'=>presOf_mem hp p.2.2 (List.mem_map_of_mem hp')
   obtain ⟨cells',h1,h2⟩:=fill_bld (e:=g.env m st w) (ev st.sl) a.eval (fun x ax hx=>ev_rsv hR ha hx) parts.toList ps _ cs zv.cells hps hb hpre (zero_rc hone)
   have hbt : P.built T (parts.map fun (i,x)=>(i,a.eval x)).toList = some cells':=by
    unfold Program.built
    simp only [hi,hu,hzv,hie,Array.toList_map]
    exact h1
   simp only [execOp,ho]
   exact Out.quiet hR (run_build w T _ cells' hbt) ⟨cells',rfl,h2⟩
  ·cases hc
 ·cases hc

theorem snd_field (T : TypeId) (x : Operand) (f : Nat) : Snd P (.field T x f):=by
 intro g m st tmps w a o ao fr sv ups cond hR ha ho hc he hcond hp
 simp only [comp] at hc
 split at hc
 ·rename_i fs ax hu hx
  split at hc
  ·rename_i fd hf
   split at hc
   ·rename_i d i hd hi
    have hxs:=(ev_rsv hR ha hx).core
    split at hc <;> cases hc
    ·rename_i hg
     simp only [eff] at he
     split at he
     ·rename_i cs h1
      split at he
      ·cases he
       have:=hxs hp.1
       rw [h1] at this
       simp only [execOp,ho]
       exact out_fldn hR hu hf hd hg hi this
      ·cases he
     ·cases he
    ·rename_i hg
     simp only [eff] at he
     split at he
     ·rename_i cs h1
      simp only [Option.map_eq_some_iff] at he
      obtain ⟨c,hc',he⟩:=he
      cases he
      have:=hxs hp.1
      rw [h1] at this
      simp only [execOp,ho]
      exact out_fld1 hR hu hf hd (by simpa using hg) this hc'
     ·cases he
   ·cases hc
  ·cases hc
 ·cases hc

theorem snd_extract (x : Operand) (i : Nat) : Snd P (.extract x i):=by
 intro g m st tmps w a o ao fr sv ups cond hR ha ho hc he hcond hp
 simp only [comp,Option.map_eq_some_iff] at hc
 obtain ⟨ax,hx,rfl⟩:=hc
 simp only [eff] at he
 split at he
 ·rename_i vs h1
  simp only [Option.map_eq_some_iff] at he
  obtain ⟨s,hs,he⟩:=he
  cases he
  have:=(ev_rsv hR ha hx).core hp.1
  rw [h1] at this
  simp only [execOp,ho]
  exact out_ext hR this hs
 ·cases he

theorem snd_makeFunc (f : Fn) (first caps : Array Operand) : Snd P (.makeFunc f first caps):=by
 intro g m st tmps w a o ao fr sv ups cond hR ha ho hc he hcond hp
 cases f with
 | func f =>
  simp only [comp] at hc
  split at hc
  ·rename_i hf
   simp only [Option.map_eq_some_iff] at hc
   obtain ⟨axs,hx,rfl⟩:=hc
   simp only [eff,Option.map_eq_some_iff] at he
   obtain ⟨cs,hcs,he⟩:=he
   cases he
   have hrl:=caps1_rl (e:=g.env m st w) (ev st.sl) a.eval (fun x ax hx=>ev_rsv hR ha hx) caps.toList axs cs hx hcs (presOf_mem hp)
   simp only [execOp,ho]
   have hfe : first = #[]:=by simpa [Array.isEmpty_iff] using hf
   subst hfe
   refine Out.quiet hR (v:=.func (.func f) #[] (caps.map a.eval)) (by simp [Instr.makeFunc]) ⟨_,rfl,by rw [Array.toList_map];exact hrl⟩
  ·cases hc
 | _=>cases hc

theorem snd_makeMap (T : TypeId) (r : Option Operand) : Snd P (.makeMap T r):=by
 intro g m st tmps w a o ao fr sv ups cond hR ha ho hc he hcond hp
 simp only [comp] at hc
 split at hc
 ·rename_i K V hu
  simp only [Option.map_eq_some_iff] at hc
  obtain ⟨d,hd,rfl⟩:=hc
  simp only [eff] at he
  split at he
  ·rename_i hfr
   cases he
   simp only [execOp,ho,Option.map_none]
   exact out_mkM hR hfr _
  ·cases he
 ·cases hc

end
end Go.Abs

