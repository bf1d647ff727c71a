/- An abstract machine for the model, its soundness, part 3. No condition. -/
import Derived.Test.YtnpiigcmedmifaaAbsb
set_option linter.unusedVariables false
set_option linter.unusedSimpArgs false
set_option linter.unnecessarySimpa false
namespace Go.Abs
open Go

theorem nl {a b : Nat} (h : Nat.ble a b = true:=by rfl) : a≤b:=Nat.le_of_ble_eq_true h

section
variable {P : Program} {n fr fr' : Nat} {Q : Exit→St→Prop} {a b : AC} {c : AX} {ops ops' : List AO} {l l' : SL} {es es' : EL} {ks ks' : KL} {G : Prop} {K : SL→EL→KL→Prop}

theorem aS (fr : Nat) (h : ∀ Q : Nat→List AO→SL→EL→KL→Prop,(∀ {fr ks},Q fr [] l' es' ks)→RX fr ops l es [] Q)
  (k : G) (hG : Q .normal (mkSt l' es') = G:=by first | (simp only [zX];exact rfl) | simp only [zX] | exact rfl) : awp P n (.region ops false) Q (mkSt l es) :=
 aw_reg fr (RX.run ops (h _ (RG.nil (hG ▸ k))))
theorem aR (fr : Nat) (k : G) (h : ∀ Q : Nat→List AO→SL→EL→KL→Prop,(∀ {fr ks},Q fr [] l' es' ks)→RX fr ops l es [] Q:=by intro Q hQ;simp (disch:=intros;contradiction) only [zS,simprocAttr];exact hQ)
  (hG : Q .normal (mkSt l' es') = G:=by first | (simp only [zX];exact rfl) | simp only [zX] | exact rfl) : awp P n (.region ops false) Q (mkSt l es) :=
 aw_reg fr (RX.run ops (h _ (RG.nil (hG ▸ k))))
theorem aSD (fr : Nat) (h : ∀ Q : Nat→List AO→SL→EL→KL→Prop,(∀ {fr},Q fr [] l' es' ks')→RX fr ops l es [] Q)
  (k : G) (hd : drawOk ops ks'.reverse = true:=by decide +kernel) (hG : Q .normal (mkSt l' es') = G:=by first | (simp only [zX];exact rfl) | simp only [zX] | exact rfl) : awp P n (.region ops true) Q (mkSt l es) :=
 aw_draw fr (RX.run ops (h _ (RG.nil ⟨hd,hG ▸ k⟩)))
theorem aD (fr : Nat) (k : G) (h : ∀ Q : Nat→List AO→SL→EL→KL→Prop,(∀ {fr},Q fr [] l' es' ks')→RX fr ops l es [] Q:=by intro Q hQ;simp (disch:=intros;contradiction) only [zS,simprocAttr];exact hQ)
  (hd : drawOk ops ks'.reverse = true:=by decide +kernel) (hG : Q .normal (mkSt l' es') = G:=by first | (simp only [zX];exact rfl) | simp only [zX] | exact rfl) : awp P n (.region ops true) Q (mkSt l es) :=
 aw_draw fr (RX.run ops (h _ (RG.nil ⟨hd,hG ▸ k⟩)))
theorem aBs (fr : Nat) (h : ∀ Q : Nat→List AO→SL→EL→KL→Prop,Q fr' ops' l' es' ks'→RX fr ops l es [] Q) (k : RG P fr' ops' l' es' ks' fun l es _=>Q .normal (mkSt l es)) : awp P n (.region ops false) Q (mkSt l es) :=
 aw_reg fr (RX.run ops (h _ k))
theorem aB (fr : Nat) (k : RG P fr' ops' l' es' ks' fun l es _=>Q .normal (mkSt l es)) (h : ∀ Q : Nat→List AO→SL→EL→KL→Prop,Q fr' ops' l' es' ks'→RX fr ops l es [] Q:=by intro Q hQ;simp (disch:=intros;contradiction) only [zS,simprocAttr];exact hQ) : awp P n (.region ops false) Q (mkSt l es) :=
 aw_reg fr (RX.run ops (h _ k))
theorem aBDs (fr : Nat) (h : ∀ Q : Nat→List AO→SL→EL→KL→Prop,Q fr' ops' l' es' ks'→RX fr ops l es [] Q) (k : RG P fr' ops' l' es' ks' fun l es ks=>drawOk ops ks = true∧Q .normal (mkSt l es)) : awp P n (.region ops true) Q (mkSt l es) :=
 aw_draw fr (RX.run ops (h _ k))
theorem aBD (fr : Nat) (k : RG P fr' ops' l' es' ks' fun l es ks=>drawOk ops ks = true∧Q .normal (mkSt l es)) (h : ∀ Q : Nat→List AO→SL→EL→KL→Prop,Q fr' ops' l' es' ks'→RX fr ops l es [] Q:=by intro Q hQ;simp (disch:=intros;contradiction) only [zS,simprocAttr];exact hQ) : awp P n (.region ops true) Q (mkSt l es) :=
 aw_draw fr (RX.run ops (h _ k))
theorem aMs (h : ∀ Q : Nat→List AO→SL→EL→KL→Prop,Q fr' ops' l' es' ks'→RX fr ops l es ks Q) (k : RG P fr' ops' l' es' ks' K) : RG P fr ops l es ks K :=
 RX.run ops (h _ k)
theorem aM (k : RG P fr' ops' l' es' ks' K) (h : ∀ Q : Nat→List AO→SL→EL→KL→Prop,Q fr' ops' l' es' ks'→RX fr ops l es ks Q:=by intro Q hQ;simp (disch:=intros;contradiction) only [zS,simprocAttr];exact hQ) : RG P fr ops l es ks K :=
 RX.run ops (h _ k)
theorem aEs (h : ∀ Q : Nat→List AO→SL→EL→KL→Prop,(∀ {fr ks},Q fr [] l' es' ks)→RX fr ops l es ks Q)
  (k : G) (hG : Q .normal (mkSt l' es') = G:=by first | (simp only [zX];exact rfl) | simp only [zX] | exact rfl) : RG P fr ops l es ks fun l es _=>Q .normal (mkSt l es) :=
 RX.run ops (h _ (RG.nil (hG ▸ k)))
theorem aE (k : G) (h : ∀ Q : Nat→List AO→SL→EL→KL→Prop,(∀ {fr ks},Q fr [] l' es' ks)→RX fr ops l es ks Q:=by intro Q hQ;simp (disch:=intros;contradiction) only [zS,simprocAttr];exact hQ)
  (hG : Q .normal (mkSt l' es') = G:=by first | (simp only [zX];exact rfl) | simp only [zX] | exact rfl) : RG P fr ops l es ks fun l es _=>Q .normal (mkSt l es) :=
 RX.run ops (h _ (RG.nil (hG ▸ k)))
theorem aEDs (h : ∀ Q : Nat→List AO→SL→EL→KL→Prop,(∀ {fr},Q fr [] l' es' ks')→RX fr ops l es ks Q)
  (k : G) (hd : drawOk ops' ks'.reverse = true:=by decide +kernel) (hG : Q .normal (mkSt l' es') = G:=by first | (simp only [zX];exact rfl) | simp only [zX] | exact rfl) : RG P fr ops l es ks fun l es ks=>drawOk ops' ks = true∧Q .normal (mkSt l es) :=
 RX.run ops (h _ (RG.nil ⟨hd,hG ▸ k⟩))
theorem aED (k : G) (h : ∀ Q : Nat→List AO→SL→EL→KL→Prop,(∀ {fr},Q fr [] l' es' ks')→RX fr ops l es ks Q:=by intro Q hQ;simp (disch:=intros;contradiction) only [zS,simprocAttr];exact hQ)
  (hd : drawOk ops' ks'.reverse = true:=by decide +kernel) (hG : Q .normal (mkSt l' es') = G:=by first | (simp only [zX];exact rfl) | simp only [zX] | exact rfl) : RG P fr ops l es ks fun l es ks=>drawOk ops' ks = true∧Q .normal (mkSt l es) :=
 RX.run ops (h _ (RG.nil ⟨hd,hG ▸ k⟩))
theorem aF (k : G) (h1 : (ev (lk .dead l) c).one? = some (.v (.bool false)):=by rfl) (h2 : (ev (lk .dead l) c).pre:=by trivial)
  (hG : awp P n b Q (mkSt l es) = G:=by first | (simp only [zX];exact rfl) | simp only [zX] | exact rfl) : awp P n (.cond c a b) Q (mkSt l es) :=
 aw_cond false h1 h2 (fun h=>by cases h) fun _=>hG ▸ k
theorem aT (k : G) (h1 : (ev (lk .dead l) c).one? = some (.v (.bool true)):=by rfl) (h2 : (ev (lk .dead l) c).pre:=by trivial)
  (hG : awp P n a Q (mkSt l es) = G:=by first | (simp only [zX];exact rfl) | simp only [zX] | exact rfl) : awp P n (.cond c a b) Q (mkSt l es) :=
 aw_cond true h1 h2 (fun _=>hG ▸ k) fun h=>by cases h
theorem Le.l4 (fz : List Nat) (ren : List (Nat × Nat)) (hs : allL (fun p : Nat × SV=>WkSV (lkE (Abs.frzEs fz es)) (rlook ren) (fun k=>lkE es' k≠none) p.2 (lk .dead l p.1)) l')
  (he : allL (fun p : Nat × Ent=>∃ e,lkE (Abs.frzEs fz es) (rlook ren p.1) = some e∧WkEnt (lkE (Abs.frzEs fz es)) (rlook ren) (fun k=>lkE es' k≠none) p.2 e) es')
  (hi : (es'.map fun p=>rlook ren p.1).Nodup:=by simp [rlook]) (hn : ∀ k,k < n→rlook ren k = k∧k ∈ es'.map (·.1):=by first | (simp;done) | (intro k hk;simp [rlook];omega)) : Le n (mkSt l es) (mkSt l' es'):=Le.lit fz ren l' es' hs he hi hn
theorem Le.l5 (ren : List (Nat × Nat)) (hs : allL (fun p : Nat × SV=>WkSV (lkE (Abs.frzEs [] es)) (rlook ren) (fun k=>lkE es' k≠none) p.2 (lk .dead l p.1)) l')
  (he : allL (fun p : Nat × Ent=>∃ e,lkE (Abs.frzEs [] es) (rlook ren p.1) = some e∧WkEnt (lkE (Abs.frzEs [] es)) (rlook ren) (fun k=>lkE es' k≠none) p.2 e) es':=by simp only [zL,simprocAttr])
  (hi : (es'.map fun p=>rlook ren p.1).Nodup:=by simp [rlook]) (hn : ∀ k,k < n→rlook ren k = k∧k ∈ es'.map (·.1):=by first | (simp;done) | (intro k hk;simp [rlook];omega)) : Le n (mkSt l es) (mkSt l' es'):=Le.lit [] ren l' es' hs he hi hn
theorem Le.l6 (ren : List (Nat × Nat)) (hs : allL (fun p : Nat × SV=>WkSV (lkE (Abs.frzEs [] es)) (rlook ren) (fun k=>lkE es' k≠none) p.2 (lk .dead l p.1)) l':=by simp only [zL,simprocAttr])
  (he : allL (fun p : Nat × Ent=>∃ e,lkE (Abs.frzEs [] es) (rlook ren p.1) = some e∧WkEnt (lkE (Abs.frzEs [] es)) (rlook ren) (fun k=>lkE es' k≠none) p.2 e) es':=by simp only [zL,simprocAttr])
  (hi : (es'.map fun p=>rlook ren p.1).Nodup:=by simp [rlook]) (hn : ∀ k,k < n→rlook ren k = k∧k ∈ es'.map (·.1):=by first | (simp;done) | (intro k hk;simp [rlook];omega)) : Le n (mkSt l es) (mkSt l' es'):=Le.lit [] ren l' es' hs he hi hn
end

section
variable {P : Program} {fr gs : Nat} {want : Bool} {f : FuncId} {axs : List AX} {d : Option Nat} {af : List Nat} {ops : List AO} {l : SL} {es : EL} {ks : KL} {K : SL→EL→KL→Prop} {args : List SV} {objs : List Ent} {res : SV} {out : List Ent}

theorem rC (views : List Nat) (hcon : Con P f args [] res []) (k : RG P (fr + 16) ops (setD d res l) es ((views,[]) :: ks) K)
  (ht : TrL (TrSV (lkE es) [] views) (axs.map (ev (lk .dead l))) args:=by (repeat' (first | exact tr_nil | refine tr_cons ?_ ?_ | exact tr_v | exact tr_sl | exact tr_nils | exact tr_bp rfl | exact tr_osl rfl | exact tr_agg (by (repeat' (first | exact trivial | rfl | exact rfl | (refine ⟨by simp,_,_,_,rfl,?_⟩;(first | exact drows_brow _ | exact drows_nrow _ | exact drows_irow _ | exact drows_wrow _ | assumption | (simp [isDRows,brow,C.isD];done) | (rw [← List.map_append];first | exact drows_brow _ | exact drows_nrow _ | exact drows_irow _ | exact drows_wrow _))) | refine ⟨?_,?_⟩))) | exact tr_view (by simp) rfl (by (first | exact drows_brow _ | exact drows_nrow _ | exact drows_irow _ | exact drows_wrow _ | assumption | (simp [isDRows,brow,C.isD];done) | (rw [← List.map_append];first | exact drows_brow _ | exact drows_nrow _ | exact drows_irow _ | exact drows_wrow _)))))) (hv : Views es views:=by repeat' (first | exact trivial | refine views1 rfl ?_)) (hs : OkRes es views res:=by first | exact .inl trivial | exact .inr ⟨rfl,trivial⟩) : RG P fr (⟨.call f axs,d,none,af⟩ :: ops) l es ks K :=
 RG.call views hcon ht hv hs k
theorem rG (g t : Bool) (hcon : Con P f args [] res []) (k : RG P (fr + 16) ops (setD d (.opt (g && (t == want)) res) l) es (([],[]) :: ks) K)
  (hg : gval (lk .dead l gs) = some (g,t):=by rfl) (ht : (g && (t == want)) = true→TrL (TrSV (lkE es) [] []) (axs.map (ev (lk .dead l))) args:=by intro hg;(repeat' (first | exact tr_nil | refine tr_cons ?_ ?_ | exact tr_v | exact tr_sl | exact tr_nils | exact tr_agg (by repeat' (first | exact trivial | rfl | refine ⟨?_,?_⟩)) | exact tr_opt (by simpa using hg) tr_v | exact tr_opt (by simpa using hg) tr_sl | exact tr_opt (by simpa using hg) (tr_agg (by repeat' (first | exact trivial | rfl | refine ⟨?_,?_⟩)))))) (hs : OkRes es [] res:=by first | exact .inl trivial | exact .inr ⟨rfl,trivial⟩) : RG P fr (⟨.call f axs,d,some (gs,want),af⟩ :: ops) l es ks K :=
 RG.callg g t [] hg (fun hh=>⟨args,hcon,ht hh,trivial,hs⟩) k
theorem rO (ids views : List Nat) (hcon : Con P f args objs res out) (k : RG P (fr + 16) ops (setD d (renSV ids fr res) l) (setEs (backUps (lkE es) ids views fr out) es) ((ids ++ views ++ (List.range (out.length - ids.length)).map (fr + ·),(backUps (lkE es) ids views fr out).map (·.1)) :: ks) K)
  (h1 : TrL (TrSV (lkE es) ids views) (axs.map (ev (lk .dead l))) args:=by (repeat' (first | exact tr_nil | refine tr_cons ?_ ?_ | exact tr_v | exact tr_sl | exact tr_nils | exact tr_bp rfl | exact tr_osl rfl | exact tr_agg (by (repeat' (first | exact trivial | rfl | exact rfl | (refine ⟨by simp,_,_,_,rfl,?_⟩;(first | exact drows_brow _ | exact drows_nrow _ | exact drows_irow _ | exact drows_wrow _ | assumption | (simp [isDRows,brow,C.isD];done) | (rw [← List.map_append];first | exact drows_brow _ | exact drows_nrow _ | exact drows_irow _ | exact drows_wrow _))) | refine ⟨?_,?_⟩))) | exact tr_view (by simp) rfl (by (first | exact drows_brow _ | exact drows_nrow _ | exact drows_irow _ | exact drows_wrow _ | assumption | (simp [isDRows,brow,C.isD];done) | (rw [← List.map_append];first | exact drows_brow _ | exact drows_nrow _ | exact drows_irow _ | exact drows_wrow _))))))
  (h2 : TrL (fun id e'=>∃ e,lkE es id = some e∧TrEnt (lkE es) ids views e e') ids objs:=by first | trivial | (simp only [zT,simprocAttr];done) | (simp only [zT,simprocAttr];trivial) | (simp only [zT,simprocAttr];repeat' (first | (first | exact drows_brow _ | exact drows_nrow _ | exact drows_irow _ | exact drows_wrow _ | assumption | (simp [isDRows,brow,C.isD];done) | (rw [← List.map_append];first | exact drows_brow _ | exact drows_nrow _ | exact drows_irow _ | exact drows_wrow _)) | refine ⟨?_,?_⟩)))
  (h3 : ids.Nodup:=by simp) (h4 : ∀ id ∈ views,id ∉ ids:=by simp) (h5 : Views es views:=by repeat' (first | exact trivial | refine views1 rfl ?_))
  (h6 : ∀ j,j < out.length - ids.length→lkE es (fr + j) = none:=by first | (simp [lkE_cons,lkE_nil];done) | (intro j hj;simp at hj;simp only [setEs,setE_cons,setE_nil,lkE_cons,lkE_nil];repeat rw [if_neg (by omega)])) (h7 : ∀ e ∈ out,e.pure:=by first | (simp [Ent.pure];done) | (simp [Ent.pure];repeat' (first | (first | exact drows_brow _ | exact drows_nrow _ | exact drows_irow _ | exact drows_wrow _ | assumption | (simp [isDRows,brow,C.isD];done) | (rw [← List.map_append];first | exact drows_brow _ | exact drows_nrow _ | exact drows_irow _ | exact drows_wrow _)) | refine ⟨?_,?_⟩))) (h8 : ∀ b x,res≠.opt b x:=by simp) (h9 : out.length - ids.length≤16:=by simp) : RG P fr (⟨.call f axs,d,none,af⟩ :: ops) l es ks K :=
 RG.callo ids views hcon (.mk h1 h2 h3 h4 h5 h6 h7 h8 h9) k
end
end Go.Abs

