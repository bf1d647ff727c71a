/- An abstract machine for the model, its soundness, part 3. No condition. -/
import Derived.Test.YtidooialknbgaaaGreatAbsb
import Derived.Deep.Slices
import Derived.Deep.Fields
import Derived.WalkKit
import Derived.ProofKit
import Derived.OpenShut
import Derived.WideShapes
import Derived.Below
set_option linter.unusedVariables false
set_option linter.unusedSimpArgs false
set_option linter.unnecessarySimpa false
namespace Go.Abs
open Go Go.Deep

def Arg (P : Program) (t : TypeId) {α : Type} (f : α→C) (ok : α→Prop) : Prop :=
 ∀ (H : Type) (enc : TypeId × Value→H) (w : World) (spare : Nat→Bool) (held : Bool) (fuel : Nat) (v : Value) (x : DataW H × List MemPlace),
  DataW.trod enc P w 0 spare held fuel t [v] = some x→∃ a,ok a∧RD w.heap (fun b=>b < w.heap.size) (f a) v

def ArgRow (P : Program) (t : TypeId) (s : Nat) {α : Type} (row : α→List C) (ok : α→Prop) : Prop :=
 ∀ (H : Type) (enc : TypeId × Value→H) (w : World) (spare : Nat→Bool) (held : Bool) (fuel : Nat) (cs : List Value) (x : DataW H × List MemPlace),
  cs.length = s→DataW.trod enc P w 0 spare held fuel t cs = some x→∃ a,ok a∧RL (RD w.heap (fun b=>b < w.heap.size)) (row a) cs

def ArgFs (P : Program) (fs : List Field) {α : Type} (row : α→List C) (ok : α→Prop) : Prop :=
 ∀ (H : Type) (enc : TypeId × Value→H) (w : World) (spare : Nat→Bool) (held : Bool) (fuel : Nat) (vs : List Value),vs.length = fs.length →
  (∀ (i : Nat) (f : Field) (v : Value),fs[i]? = some f→vs[i]? = some v→∃ x,DataW.trod enc P w 0 spare held fuel f.type [v] = some x)→∃ a,ok a∧RL (RD w.heap (fun b=>b < w.heap.size)) (row a) vs

theorem Arg.map {P : Program} {t : TypeId} {α β : Type} {f : α→C} {ok : α→Prop} (h : Arg P t f ok) (g : α→β) {f' : β→C} {ok' : β→Prop} (h1 : ∀ a,ok a→f' (g a) = f a) (h2 : ∀ a,ok a→ok' (g a)) : Arg P t f' ok':=by
 intro H enc w spare held fuel v x hx
 obtain ⟨a,ha,hr⟩:=h H enc w spare held fuel v x hx
 exact ⟨g a,h2 a ha,by rw [h1 a ha];exact hr⟩
theorem ArgRow.map {P : Program} {t : TypeId} {s : Nat} {α β : Type} {row : α→List C} {ok : α→Prop} (h : ArgRow P t s row ok) (g : α→β) {row' : β→List C} {ok' : β→Prop} (h1 : ∀ a,ok a→row' (g a) = row a) (h2 : ∀ a,ok a→ok' (g a)) : ArgRow P t s row' ok':=by
 intro H enc w spare held fuel v x hs hx
 obtain ⟨a,ha,hr⟩:=h H enc w spare held fuel v x hs hx
 exact ⟨g a,h2 a ha,by rw [h1 a ha];exact hr⟩

theorem Arg.int {P : Program} {t : TypeId} {k : IntKind} (ht : P.underlying t = some (.int k)) : Arg P t (fun n : Int=>.v (.int k n)) (fun n=>(Lit.int k n).wf = true):=by
 intro H enc w spare held fuel v x hx
 obtain ⟨n,h1,_,hw⟩:=DataW.trod_int ht hx
 simp only [List.cons.injEq,and_true] at h1
 subst h1
 exact ⟨n,hw,RD.v _ rfl⟩

theorem Arg.bool {P : Program} {t : TypeId} (ht : P.underlying t = some .bool) : Arg P t (fun b : Bool=>.v (.bool b)) (fun _=>True):=by
 intro H enc w spare held fuel v x hx
 cases fuel with
 | zero=>simp [DataW.trod] at hx
 | succ n =>
  rw [DataW.trod_step] at hx
  unfold DataW.trodStep at hx
  rw [ht] at hx
  cases v <;> simp at hx
  exact ⟨_,trivial,RD.v _ rfl⟩

theorem Arg.row {P : Program} {t : TypeId} {α : Type} {f : α→C} {ok : α→Prop} (h : Arg P t f ok) : ArgRow P t 1 (fun a=>[f a]) ok:=by
 intro H enc w spare held fuel cs x hs hx
 match cs,hs with
 | [v],_ =>
  obtain ⟨a,ha,hr⟩:=h H enc w spare held fuel v x hx
  refine ⟨a,ha,rfl,fun i c v hc hv=>?_⟩
  match i,hc,hv with
  | 0,hc,hv=>cases hc;cases hv;exact hr
  | i + 1,hc,hv=>cases hc

theorem ArgFs.nil {P : Program} : ArgFs P [] (fun _ : Unit=>[]) (fun _=>True):=by
 intro H enc w spare held fuel vs hl _
 obtain rfl : vs = []:=List.length_eq_zero_iff.1 hl
 exact ⟨(),trivial,rfl,fun i c v hc=>by cases hc⟩

theorem ArgFs.cons {P : Program} {f : Field} {fs : List Field} {α β : Type} {g : α→C} {ok : α→Prop} {row : β→List C} {ok' : β→Prop} (h : Arg P f.type g ok) (hs : ArgFs P fs row ok') :
  ArgFs P (f :: fs) (fun p : α × β=>g p.1 :: row p.2) (fun p=>ok p.1∧ok' p.2):=by
 intro H enc w spare held fuel vs hl hx
 match vs,hl with
 | v :: vs,hl =>
  obtain ⟨x,hx0⟩:=hx 0 f v rfl rfl
  obtain ⟨a,ha,hr⟩:=h H enc w spare held fuel v x hx0
  obtain ⟨b,hb,hrl,hrr⟩:=hs H enc w spare held fuel vs (by simpa using hl) (fun i f v h1 h2=>hx (i + 1) f v h1 h2)
  refine ⟨(a,b),⟨ha,hb⟩,by simp [hrl],fun i c v hc hv=>?_⟩
  match i,hc,hv with
  | 0,hc,hv=>cases hc;cases hv;exact hr
  | i + 1,hc,hv=>exact hrr i c v hc hv

theorem ArgRow.struct {P : Program} {t : TypeId} {fs : Array Field} {n : Nat} {α : Type} {row : α→List C} {ok : α→Prop} (ht : P.underlying t = some (.struct fs)) (hn : fs.size = n) (hone : oneCellFields P fs = true) (h : ArgFs P fs.toList row ok) : ArgRow P t n row ok:=by
 intro H enc w spare held fuel cs x hs hx
 obtain ⟨xs,m,_,_,hl,hlen,hf⟩:=DataW.trod_struct ht hx
 refine h H enc w spare held m cs (by rw [hs,← hn];simp) fun i f v h1 h2=>?_
 have h1' : fs[i]? = some f:=by simpa using h1
 obtain ⟨o1,o2⟩:=hone_of hone i f h1'
 have:=hf i f h1'
 rw [o1,o2] at this
 have hi : i < cs.length:=by
  rcases Nat.lt_or_ge i cs.length with h | h
  ·exact h
  ·rw [List.getElem?_eq_none h] at h2;cases h2
 have hd : (cs.drop i).take 1 = [v]:=by
  rw [List.getElem?_eq_getElem hi] at h2;cases h2
  rw [List.drop_eq_getElem_cons hi];rfl
 rw [hd] at this
 rw [this]
 have hi2 : i < xs.length:=by rw [hlen];exact (Array.getElem?_eq_some_iff.1 h1').1
 exact ⟨xs[i],by simp [hi2]⟩

theorem fin_choice {α : Type} {n : Nat} {p : Nat→α→Prop} (h : ∀ i,i < n→∃ a,p i a) : ∃ l : List α,l.length = n∧∀ i a,l[i]? = some a→p i a:=by
 induction n with
 | zero=>exact ⟨[],rfl,fun i a h=>by cases h⟩
 | succ n ih =>
  obtain ⟨l,h1,h2⟩:=ih fun i hi=>h i (by omega)
  obtain ⟨a,ha⟩:=h n (by omega)
  refine ⟨l ++ [a],by simp [h1],fun i b hb=>?_⟩
  rcases Nat.lt_trichotomy i n with h | h | h
  ·rw [List.getElem?_append_left (by omega)] at hb;exact h2 i b hb
  ·subst h;rw [List.getElem?_append_right (by omega),h1] at hb;simp at hb;subst hb;exact ha
  ·rw [List.getElem?_eq_none (by simp;omega)] at hb;cases hb

theorem ArgRow.array {P : Program} {t e : TypeId} {n : Nat} {α : Type} {f : α→C} {ok : α→Prop} (ht : P.underlying t = some (.array n e)) (hc : P.cellsOf e = 1) (h : Arg P e f ok) : ArgRow P t n (fun l : List α=>l.map f) (fun l=>l.length = n∧∀ a ∈ l,ok a):=by
 intro H enc w spare held fuel cs x hs hx
 obtain ⟨xs,m,_,_,hl,hlen,hf⟩:=DataW.trod_array ht hx
 obtain ⟨l,h1,h2⟩:=fin_choice (n:=n) (p:=fun i a=>ok a∧∀ v,cs[i]? = some v→RD w.heap (fun b=>b < w.heap.size) (f a) v) fun i hi=>by
  have:=hf i hi
  have hi' : i < cs.length:=by omega
  rw [hc,Nat.mul_one,List.drop_eq_getElem_cons hi',List.getElem?_eq_getElem (show i < xs.length by omega)] at this
  obtain ⟨a,ha,hr⟩:=h H enc w spare held m cs[i] _ this
  exact ⟨a,ha,fun v hv=>by rw [List.getElem?_eq_getElem hi'] at hv;cases hv;exact hr⟩
 refine ⟨l,⟨h1,fun a ha=>?_⟩,by simp [h1,hs],fun i c v hc hv=>?_⟩
 ·obtain ⟨i,hi,rfl⟩:=List.mem_iff_getElem.1 ha
  exact (h2 i _ (List.getElem?_eq_getElem hi)).1
 ·rw [List.getElem?_map] at hc
  cases hi : l[i]? with
  | none=>rw [hi] at hc;cases hc
  | some a=>rw [hi] at hc;cases hc;exact (h2 i a hi).2 v hv

theorem Arg.slice {P : Program} {t e : TypeId} {s : Nat} {α : Type} {row : α→List C} {ok : α→Prop} (ht : P.underlying t = some (.slice e)) (hC : P.cellsOf e = s) (hs : 0 < s) (h : ArgRow P e s row ok) : Arg P t (fun l : List α=>.sl (l.map row)) (fun l=>(∀ a ∈ l,ok a)∧l.length≤9223372036854775807):=by
 intro H enc w spare held fuel v x hx
 rcases open_slice ht hx with ⟨h1,_⟩ | ⟨ad,len,cap,m,n,D,Pl,h1,hb,hl,hm0,hmm,_,hcell⟩
 ·simp only [List.cons.injEq,and_true] at h1
  subst h1
  exact ⟨[],⟨by simp,by simp⟩,RD.nil⟩
 simp only [List.cons.injEq,and_true] at h1
 subst h1
 rcases Nat.eq_zero_or_pos len with h0 | h0
 ·subst h0;exact ⟨[],⟨by simp,by simp⟩,RD.emp ad cap⟩
 have hlm : len≤m:=by rw [hmm];split <;> omega
 have h00 : ∃ b off,ad = ⟨b,off,none⟩∧b < w.heap.size:=by
  obtain ⟨cs',g1,_⟩:=hcell 0 (by omega)
  rw [hC] at g1
  obtain ⟨_,g2,g3⟩:=World.cells?_some g1
  have:=g3 0 hs
  rw [Nat.zero_mul,List.getElem?_eq_getElem (by omega)] at this
  obtain ⟨b,off,spot⟩:=ad
  simp only [Addr.add,World.cell?,if_true] at this
  split at this
  ·rename_i c _ _ hh
   split at this
   ·cases this
   ·rename_i hsp
    have : spot = none:=by cases spot <;> simp_all
    subst this
    refine ⟨b,off,rfl,?_⟩
    rcases Nat.lt_or_ge b w.heap.size with h | h
    ·exact h
    ·rw [Array.getElem?_eq_none h] at hh;cases hh
  ·cases this
 obtain ⟨b,off,rfl,hbs⟩:=h00
 obtain ⟨l,h1,h2⟩:=fin_choice (n:=len) (p:=fun i a=>ok a∧(row a).length = s∧∀ j c,(row a)[j]? = some c→∃ v,cellAt w.heap b (off + i * s + j) = some v∧RD w.heap (fun b=>b < w.heap.size) c v) fun i hi=>by
  obtain ⟨cs',g1,g2⟩:=hcell i (by omega)
  rw [hC] at g1
  obtain ⟨_,g3,g4⟩:=World.cells?_some g1
  obtain ⟨a,ha,hrl,hrr⟩:=h H enc w spare held n cs' _ g3 g2
  refine ⟨a,ha,by rw [hrl,g3],fun j c hc=>?_⟩
  have hj : j < s:=by
   rcases Nat.lt_or_ge j (row a).length with h | h
   ·omega
   ·rw [List.getElem?_eq_none h] at hc;cases hc
  have hv : cs'[j]? = some cs'[j]:=List.getElem?_eq_getElem (by omega)
  refine ⟨cs'[j],?_,hrr j c _ hc hv⟩
  have:=g4 j hj
  rw [add_add,hv] at this
  rw [show (⟨b,off,none⟩ : Addr).add (i * s + j) = ⟨b,off + i * s + j,none⟩ from by
   unfold Addr.add;split
   ·rename_i h;rw [Nat.add_assoc,h];rfl
   ·rw [Nat.add_assoc],cell?_eq] at this
  exact this
 refine ⟨l,⟨fun a ha=>?_,by rw [h1];have : cap≤9223372036854775807:=hm0;omega⟩,?_⟩
 ·obtain ⟨i,hi,rfl⟩:=List.mem_iff_getElem.1 ha
  exact (h2 i _ (List.getElem?_eq_getElem hi)).1
 have hlen : (l.map row).length = len:=by simp [h1]
 have:=RD.sl (h:=w.heap) (ok:=fun b=>b < w.heap.size) (l.map row) s b off cap (fun i j=>(cellAt w.heap b (off + i * s + j)).getD undef) hbs (fun r hr=>by
   obtain ⟨a,ha,rfl⟩:=List.mem_map.1 hr
   obtain ⟨i,hi,rfl⟩:=List.mem_iff_getElem.1 ha
   exact (h2 i _ (List.getElem?_eq_getElem hi)).2.1)
  (fun i r j c k1 k2=>?_) (fun i r j c k1 k2=>?_) (by omega)
 ·rw [hlen] at this;exact this
 all_goals
  rw [List.getElem?_map] at k1
  cases hi : l[i]? with
  | none=>rw [hi] at k1;cases k1
  | some a =>
   rw [hi] at k1;cases k1
   obtain ⟨v,g1,g2⟩:=(h2 i a hi).2.2 j c k2
   rw [g1]
   first | rfl | exact g2

/-! ### Arguments -/

def ArgOk (w : World) (s : SV) (v : Value) : Prop:=RSV { h:=w.heap,ok:=fun b=>b < w.heap.size,m:=fun _=>none,σ:=fun _=>none } s v

theorem Arg.top {P : Program} {t : TypeId} {α : Type} {f : α→C} {ok : α→Prop} (h : Arg P t f ok) {H : Type} {enc : TypeId × Value→H} {w : World} {spare : Nat→Bool} {held : Bool} {r : Reach} {base : Nat} {v : Value} {d : DataW H} {p : List MemPlace}
  (hu : (match P.underlying t with | some (.slice _) | some (.int _) | some .bool=>true | _=>false) = true) (hv : Value.okWide P w r base t v) (ht : DataW.Trod enc P w 0 spare held t v d p) : ∃ a,ok a∧ArgOk w (.c (f a)) v:=by
 obtain ⟨fuel,ht⟩:=ht
 have hc : v.cells.toList = [v]:=by
  split at hu
  ·rename_i e he;obtain ⟨a,l,c,rfl⟩:=WideShapes.okWide_slice he hv;rfl
  ·rename_i e he;obtain ⟨n,rfl⟩:=WideShapes.okWide_int he hv;rfl
  ·rename_i he;obtain ⟨n,rfl⟩:=WideShapes.okWide_bool he hv;rfl
  ·cases hu
 rw [hc] at ht
 obtain ⟨a,ha,hr⟩:=h H enc w spare held fuel v _ ht
 exact ⟨a,ha,RD.rc hr⟩

theorem ArgRow.top {P : Program} {t : TypeId} {s : Nat} {α : Type} {row : α→List C} {ok : α→Prop} (h : ArgRow P t s row ok) {H : Type} {enc : TypeId × Value→H} {w : World} {spare : Nat→Bool} {held : Bool} {r : Reach} {base : Nat} {v : Value} {d : DataW H} {p : List MemPlace}
  (hu : (match P.underlying t with | some (.struct _) | some (.array _ _)=>true | _=>false) = true) (hC : P.cellsOf t = s) (hv : Value.okWide P w r base t v) (ht : DataW.Trod enc P w 0 spare held t v d p) : ∃ a,ok a∧ArgOk w (.agg (row a)) v:=by
 obtain ⟨fuel,ht⟩:=ht
 have hc : ∃ cs,v = .agg cs∧cs.size = P.cellsOf t:=by
  unfold Value.okWide at hv
  split at hu
  ·rename_i e he;rw [he] at hv;obtain ⟨cs,h1,h2,_⟩:=hv;exact ⟨cs,h1,h2⟩
  ·rename_i e he;rw [he] at hv;obtain ⟨cs,h1,h2,_⟩:=hv;exact ⟨cs,h1,h2⟩
  ·cases hu
 obtain ⟨cs,rfl,hcs⟩:=hc
 obtain ⟨a,ha,hrl,hrr⟩:=h H enc w spare held fuel cs.toList _ (by simp [hcs,hC]) ht
 exact ⟨a,ha,⟨cs,rfl,hrl,fun i c v hc hv=>RD.rc (hrr i c v hc hv)⟩⟩

end Go.Abs

namespace Go.Abs
open Go

section
variable {F A k b : Nat} {T T' : TypeId} {rows rows' : List (List C)} {xs xs' : List (Option Ent)} {r r' : EL} {e : Ent}

end

end Go.Abs

namespace Go.Abs
open Go

theorem nl {a b : Nat} (h : Nat.ble a b = true:=by rfl) : a≤b:=Nat.le_of_ble_eq_true h

section
variable {P : Program} {n fr fr' : Nat} {Q : Exit→St→Prop} {a b : AC} {c : AX} {ops ops' : List AO} {l l' : SL} {es es' : EL} {ks ks' : KL} {G : Prop} {K : SL→EL→KL→Prop}

theorem aS (fr : Nat) (h : ∀ Q : Nat→List AO→SL→EL→KL→Prop,(∀ {fr ks},Q fr [] l' es' ks)→RX fr ops l es [] Q)
  (k : G) (hG : Q .normal (mkSt l' es') = G:=by first | (simp only [zX];exact rfl) | simp only [zX] | exact rfl) : awp P n (.region ops false) Q (mkSt l es) :=
 aw_reg fr (RX.run ops (h _ (RG.nil (hG ▸ k))))
theorem aR (fr : Nat) (k : G) (h : ∀ Q : Nat→List AO→SL→EL→KL→Prop,(∀ {fr ks},Q fr [] l' es' ks)→RX fr ops l es [] Q:=by intro Q hQ;simp (disch:=intros;contradiction) only [zS,simprocAttr];exact hQ)
  (hG : Q .normal (mkSt l' es') = G:=by first | (simp only [zX];exact rfl) | simp only [zX] | exact rfl) : awp P n (.region ops false) Q (mkSt l es) :=
 aw_reg fr (RX.run ops (h _ (RG.nil (hG ▸ k))))
theorem aSD (fr : Nat) (h : ∀ Q : Nat→List AO→SL→EL→KL→Prop,(∀ {fr},Q fr [] l' es' ks')→RX fr ops l es [] Q)
  (k : G) (hd : drawOk ops ks'.reverse = true:=by decide +kernel) (hG : Q .normal (mkSt l' es') = G:=by first | (simp only [zX];exact rfl) | simp only [zX] | exact rfl) : awp P n (.region ops true) Q (mkSt l es) :=
 aw_draw fr (RX.run ops (h _ (RG.nil ⟨hd,hG ▸ k⟩)))
theorem aD (fr : Nat) (k : G) (h : ∀ Q : Nat→List AO→SL→EL→KL→Prop,(∀ {fr},Q fr [] l' es' ks')→RX fr ops l es [] Q:=by intro Q hQ;simp (disch:=intros;contradiction) only [zS,simprocAttr];exact hQ)
  (hd : drawOk ops ks'.reverse = true:=by decide +kernel) (hG : Q .normal (mkSt l' es') = G:=by first | (simp only [zX];exact rfl) | simp only [zX] | exact rfl) : awp P n (.region ops true) Q (mkSt l es) :=
 aw_draw fr (RX.run ops (h _ (RG.nil ⟨hd,hG ▸ k⟩)))
theorem aBs (fr : Nat) (h : ∀ Q : Nat→List AO→SL→EL→KL→Prop,Q fr' ops' l' es' ks'→RX fr ops l es [] Q) (k : RG P fr' ops' l' es' ks' fun l es _=>Q .normal (mkSt l es)) : awp P n (.region ops false) Q (mkSt l es) :=
 aw_reg fr (RX.run ops (h _ k))
theorem aB (fr : Nat) (k : RG P fr' ops' l' es' ks' fun l es _=>Q .normal (mkSt l es)) (h : ∀ Q : Nat→List AO→SL→EL→KL→Prop,Q fr' ops' l' es' ks'→RX fr ops l es [] Q:=by intro Q hQ;simp (disch:=intros;contradiction) only [zS,simprocAttr];exact hQ) : awp P n (.region ops false) Q (mkSt l es) :=
 aw_reg fr (RX.run ops (h _ k))
theorem aBDs (fr : Nat) (h : ∀ Q : Nat→List AO→SL→EL→KL→Prop,Q fr' ops' l' es' ks'→RX fr ops l es [] Q) (k : RG P fr' ops' l' es' ks' fun l es ks=>drawOk ops ks = true∧Q .normal (mkSt l es)) : awp P n (.region ops true) Q (mkSt l es) :=
 aw_draw fr (RX.run ops (h _ k))
theorem aBD (fr : Nat) (k : RG P fr' ops' l' es' ks' fun l es ks=>drawOk ops ks = true∧Q .normal (mkSt l es)) (h : ∀ Q : Nat→List AO→SL→EL→KL→Prop,Q fr' ops' l' es' ks'→RX fr ops l es [] Q:=by intro Q hQ;simp (disch:=intros;contradiction) only [zS,simprocAttr];exact hQ) : awp P n (.region ops true) Q (mkSt l es) :=
 aw_draw fr (RX.run ops (h _ k))
theorem aMs (h : ∀ Q : Nat→List AO→SL→EL→KL→Prop,Q fr' ops' l' es' ks'→RX fr ops l es ks Q) (k : RG P fr' ops' l' es' ks' K) : RG P fr ops l es ks K :=
 RX.run ops (h _ k)
theorem aM (k : RG P fr' ops' l' es' ks' K) (h : ∀ Q : Nat→List AO→SL→EL→KL→Prop,Q fr' ops' l' es' ks'→RX fr ops l es ks Q:=by intro Q hQ;simp (disch:=intros;contradiction) only [zS,simprocAttr];exact hQ) : RG P fr ops l es ks K :=
 RX.run ops (h _ k)
theorem aEs (h : ∀ Q : Nat→List AO→SL→EL→KL→Prop,(∀ {fr ks},Q fr [] l' es' ks)→RX fr ops l es ks Q)
  (k : G) (hG : Q .normal (mkSt l' es') = G:=by first | (simp only [zX];exact rfl) | simp only [zX] | exact rfl) : RG P fr ops l es ks fun l es _=>Q .normal (mkSt l es) :=
 RX.run ops (h _ (RG.nil (hG ▸ k)))
theorem aE (k : G) (h : ∀ Q : Nat→List AO→SL→EL→KL→Prop,(∀ {fr ks},Q fr [] l' es' ks)→RX fr ops l es ks Q:=by intro Q hQ;simp (disch:=intros;contradiction) only [zS,simprocAttr];exact hQ)
  (hG : Q .normal (mkSt l' es') = G:=by first | (simp only [zX];exact rfl) | simp only [zX] | exact rfl) : RG P fr ops l es ks fun l es _=>Q .normal (mkSt l es) :=
 RX.run ops (h _ (RG.nil (hG ▸ k)))
theorem aEDs (h : ∀ Q : Nat→List AO→SL→EL→KL→Prop,(∀ {fr},Q fr [] l' es' ks')→RX fr ops l es ks Q)
  (k : G) (hd : drawOk ops' ks'.reverse = true:=by decide +kernel) (hG : Q .normal (mkSt l' es') = G:=by first | (simp only [zX];exact rfl) | simp only [zX] | exact rfl) : RG P fr ops l es ks fun l es ks=>drawOk ops' ks = true∧Q .normal (mkSt l es) :=
 RX.run ops (h _ (RG.nil ⟨hd,hG ▸ k⟩))
theorem aED (k : G) (h : ∀ Q : Nat→List AO→SL→EL→KL→Prop,(∀ {fr},Q fr [] l' es' ks')→RX fr ops l es ks Q:=by intro Q hQ;simp (disch:=intros;contradiction) only [zS,simprocAttr];exact hQ)
  (hd : drawOk ops' ks'.reverse = true:=by decide +kernel) (hG : Q .normal (mkSt l' es') = G:=by first | (simp only [zX];exact rfl) | simp only [zX] | exact rfl) : RG P fr ops l es ks fun l es ks=>drawOk ops' ks = true∧Q .normal (mkSt l es) :=
 RX.run ops (h _ (RG.nil ⟨hd,hG ▸ k⟩))
theorem aF (k : G) (h1 : (ev (lk .dead l) c).one? = some (.v (.bool false)):=by rfl) (h2 : (ev (lk .dead l) c).pre:=by trivial)
  (hG : awp P n b Q (mkSt l es) = G:=by first | (simp only [zX];exact rfl) | simp only [zX] | exact rfl) : awp P n (.cond c a b) Q (mkSt l es) :=
 aw_cond false h1 h2 (fun h=>by cases h) fun _=>hG ▸ k
theorem aT (k : G) (h1 : (ev (lk .dead l) c).one? = some (.v (.bool true)):=by rfl) (h2 : (ev (lk .dead l) c).pre:=by trivial)
  (hG : awp P n a Q (mkSt l es) = G:=by first | (simp only [zX];exact rfl) | simp only [zX] | exact rfl) : awp P n (.cond c a b) Q (mkSt l es) :=
 aw_cond true h1 h2 (fun _=>hG ▸ k) fun h=>by cases h
theorem Le.l4 (fz : List Nat) (ren : List (Nat × Nat)) (hs : allL (fun p : Nat × SV=>WkSV (lkE (Abs.frzEs fz es)) (rlook ren) (fun k=>lkE es' k≠none) p.2 (lk .dead l p.1)) l')
  (he : allL (fun p : Nat × Ent=>∃ e,lkE (Abs.frzEs fz es) (rlook ren p.1) = some e∧WkEnt (lkE (Abs.frzEs fz es)) (rlook ren) (fun k=>lkE es' k≠none) p.2 e) es')
  (hi : (es'.map fun p=>rlook ren p.1).Nodup:=by simp [rlook]) (hn : ∀ k,k < n→rlook ren k = k∧k ∈ es'.map (·.1):=by first | (simp;done) | (intro k hk;simp [rlook];omega)) : Le n (mkSt l es) (mkSt l' es'):=Le.lit fz ren l' es' hs he hi hn
theorem Le.l5 (ren : List (Nat × Nat)) (hs : allL (fun p : Nat × SV=>WkSV (lkE (Abs.frzEs [] es)) (rlook ren) (fun k=>lkE es' k≠none) p.2 (lk .dead l p.1)) l')
  (he : allL (fun p : Nat × Ent=>∃ e,lkE (Abs.frzEs [] es) (rlook ren p.1) = some e∧WkEnt (lkE (Abs.frzEs [] es)) (rlook ren) (fun k=>lkE es' k≠none) p.2 e) es':=by simp only [zL,simprocAttr])
  (hi : (es'.map fun p=>rlook ren p.1).Nodup:=by simp [rlook]) (hn : ∀ k,k < n→rlook ren k = k∧k ∈ es'.map (·.1):=by first | (simp;done) | (intro k hk;simp [rlook];omega)) : Le n (mkSt l es) (mkSt l' es'):=Le.lit [] ren l' es' hs he hi hn
theorem Le.l6 (ren : List (Nat × Nat)) (hs : allL (fun p : Nat × SV=>WkSV (lkE (Abs.frzEs [] es)) (rlook ren) (fun k=>lkE es' k≠none) p.2 (lk .dead l p.1)) l':=by simp only [zL,simprocAttr])
  (he : allL (fun p : Nat × Ent=>∃ e,lkE (Abs.frzEs [] es) (rlook ren p.1) = some e∧WkEnt (lkE (Abs.frzEs [] es)) (rlook ren) (fun k=>lkE es' k≠none) p.2 e) es':=by simp only [zL,simprocAttr])
  (hi : (es'.map fun p=>rlook ren p.1).Nodup:=by simp [rlook]) (hn : ∀ k,k < n→rlook ren k = k∧k ∈ es'.map (·.1):=by first | (simp;done) | (intro k hk;simp [rlook];omega)) : Le n (mkSt l es) (mkSt l' es'):=Le.lit [] ren l' es' hs he hi hn
end

section
variable {P : Program} {fr gs : Nat} {want : Bool} {f : FuncId} {axs : List AX} {d : Option Nat} {af : List Nat} {ops : List AO} {l : SL} {es : EL} {ks : KL} {K : SL→EL→KL→Prop} {args : List SV} {objs : List Ent} {res : SV} {out : List Ent}

theorem rC (views : List Nat) (hcon : Con P f args [] res []) (k : RG P (fr + 16) ops (setD d res l) es ((views,[]) :: ks) K)
  (ht : TrL (TrSV (lkE es) [] views) (axs.map (ev (lk .dead l))) args:=by (repeat' (first | exact tr_nil | refine tr_cons ?_ ?_ | exact tr_v | exact tr_sl | exact tr_nils | exact tr_bp rfl | exact tr_osl rfl | exact tr_agg (by (repeat' (first | exact trivial | rfl | exact rfl | (refine ⟨by simp,_,_,_,rfl,?_⟩;(first | exact drows_brow _ | exact drows_nrow _ | exact drows_irow _ | exact drows_wrow _ | assumption | (simp [isDRows,brow,C.isD];done) | (rw [← List.map_append];first | exact drows_brow _ | exact drows_nrow _ | exact drows_irow _ | exact drows_wrow _))) | refine ⟨?_,?_⟩))) | exact tr_view (by simp) rfl (by (first | exact drows_brow _ | exact drows_nrow _ | exact drows_irow _ | exact drows_wrow _ | assumption | (simp [isDRows,brow,C.isD];done) | (rw [← List.map_append];first | exact drows_brow _ | exact drows_nrow _ | exact drows_irow _ | exact drows_wrow _)))))) (hv : Views es views:=by repeat' (first | exact trivial | refine views1 rfl ?_)) (hs : OkRes es views res:=by first | exact .inl trivial | exact .inr ⟨rfl,trivial⟩) : RG P fr (⟨.call f axs,d,none,af⟩ :: ops) l es ks K :=
 RG.call views hcon ht hv hs k
theorem rG (g t : Bool) (hcon : Con P f args [] res []) (k : RG P (fr + 16) ops (setD d (.opt (g && (t == want)) res) l) es (([],[]) :: ks) K)
  (hg : gval (lk .dead l gs) = some (g,t):=by rfl) (ht : (g && (t == want)) = true→TrL (TrSV (lkE es) [] []) (axs.map (ev (lk .dead l))) args:=by intro hg;(repeat' (first | exact tr_nil | refine tr_cons ?_ ?_ | exact tr_v | exact tr_sl | exact tr_nils | exact tr_agg (by repeat' (first | exact trivial | rfl | refine ⟨?_,?_⟩)) | exact tr_opt (by simpa using hg) tr_v | exact tr_opt (by simpa using hg) tr_sl | exact tr_opt (by simpa using hg) (tr_agg (by repeat' (first | exact trivial | rfl | refine ⟨?_,?_⟩)))))) (hs : OkRes es [] res:=by first | exact .inl trivial | exact .inr ⟨rfl,trivial⟩) : RG P fr (⟨.call f axs,d,some (gs,want),af⟩ :: ops) l es ks K :=
 RG.callg g t [] hg (fun hh=>⟨args,hcon,ht hh,trivial,hs⟩) k
theorem rO (ids views : List Nat) (hcon : Con P f args objs res out) (k : RG P (fr + 16) ops (setD d (renSV ids fr res) l) (setEs (backUps (lkE es) ids views fr out) es) ((ids ++ views ++ (List.range (out.length - ids.length)).map (fr + ·),(backUps (lkE es) ids views fr out).map (·.1)) :: ks) K)
  (h1 : TrL (TrSV (lkE es) ids views) (axs.map (ev (lk .dead l))) args:=by (repeat' (first | exact tr_nil | refine tr_cons ?_ ?_ | exact tr_v | exact tr_sl | exact tr_nils | exact tr_bp rfl | exact tr_osl rfl | exact tr_agg (by (repeat' (first | exact trivial | rfl | exact rfl | (refine ⟨by simp,_,_,_,rfl,?_⟩;(first | exact drows_brow _ | exact drows_nrow _ | exact drows_irow _ | exact drows_wrow _ | assumption | (simp [isDRows,brow,C.isD];done) | (rw [← List.map_append];first | exact drows_brow _ | exact drows_nrow _ | exact drows_irow _ | exact drows_wrow _))) | refine ⟨?_,?_⟩))) | exact tr_view (by simp) rfl (by (first | exact drows_brow _ | exact drows_nrow _ | exact drows_irow _ | exact drows_wrow _ | assumption | (simp [isDRows,brow,C.isD];done) | (rw [← List.map_append];first | exact drows_brow _ | exact drows_nrow _ | exact drows_irow _ | exact drows_wrow _))))))
  (h2 : TrL (fun id e'=>∃ e,lkE es id = some e∧TrEnt (lkE es) ids views e e') ids objs:=by first | trivial | (simp only [zT,simprocAttr];done) | (simp only [zT,simprocAttr];trivial) | (simp only [zT,simprocAttr];repeat' (first | (first | exact drows_brow _ | exact drows_nrow _ | exact drows_irow _ | exact drows_wrow _ | assumption | (simp [isDRows,brow,C.isD];done) | (rw [← List.map_append];first | exact drows_brow _ | exact drows_nrow _ | exact drows_irow _ | exact drows_wrow _)) | refine ⟨?_,?_⟩)))
  (h3 : ids.Nodup:=by simp) (h4 : ∀ id ∈ views,id ∉ ids:=by simp) (h5 : Views es views:=by repeat' (first | exact trivial | refine views1 rfl ?_))
  (h6 : ∀ j,j < out.length - ids.length→lkE es (fr + j) = none:=by first | (simp [lkE_cons,lkE_nil];done) | (intro j hj;simp at hj;simp only [setEs,setE_cons,setE_nil,lkE_cons,lkE_nil];repeat rw [if_neg (by omega)])) (h7 : ∀ e ∈ out,e.pure:=by first | (simp [Ent.pure];done) | (simp [Ent.pure];repeat' (first | (first | exact drows_brow _ | exact drows_nrow _ | exact drows_irow _ | exact drows_wrow _ | assumption | (simp [isDRows,brow,C.isD];done) | (rw [← List.map_append];first | exact drows_brow _ | exact drows_nrow _ | exact drows_irow _ | exact drows_wrow _)) | refine ⟨?_,?_⟩))) (h8 : ∀ b x,res≠.opt b x:=by simp) (h9 : out.length - ids.length≤16:=by simp) : RG P fr (⟨.call f axs,d,none,af⟩ :: ops) l es ks K :=
 RG.callo ids views hcon (.mk h1 h2 h3 h4 h5 h6 h7 h8 h9) k
end
end Go.Abs

