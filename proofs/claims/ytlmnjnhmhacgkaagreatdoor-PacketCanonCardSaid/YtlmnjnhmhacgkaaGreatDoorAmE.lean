/-
  Regions, templates and code are sound.
-/
import Derived.Test.YtlmnjnhmhacgkaaGreatDoorAmD
import Derived.Test.YtlmnjnhmhacgkaaGreatDoorAmH
import Derived.Test.YtlmnjnhmhacgkaaGreatDoorAmI
import Derived.LoopN
import Derived.Scope
import Derived.Recover
section
set_option linter.unusedVariables false
set_option linter.unusedSimpArgs false
namespace Go.Am
open Go.RowKit
section
variable {C:Ctx} {S S' : St} {θ θ' : Nm->Option Value} {a:Act} {w w' : World} {n:Rp} {ok:Nat->Prop} {P:Program} {o:Oper}
theorem Does.wp (h:Does P C S' o a w) (K:Act->World->Prop) (Q:Exit->Act->World->Prop) (hK:∀ a' w' θ',Rel C S' θ' a' w'->a'.defers=a.defers->K a' w'):o.wp P a w K Q:=by
 obtain ⟨nx,w',hr,h⟩:=h;unfold Oper.wp;rw [hr]
 rcases h with ⟨v,rfl,θ',hrel⟩ | ⟨rfl,θ',hrel⟩
 ·exact hK _ _ θ' hrel (wc _ _ _)
 ·exact hK _ _ θ' hrel (wc _ _ _)
theorem bj {x:Operand} {u:AV} (ho:o.op=.nilCheck x) (h:Rel C S θ a w) (hu:CV w (qx C w S θ) θ u (a.eval x)) (hh:(fU o u).exe n S=some S'):Does P C S' o a w:=by
 unfold fU at hh
 have fin:∀ u',(∃ p,a.eval x=.pointer (some p))\/(∃ f us,a.eval x=.func (.func f) #[] us)->CV w (qx C w S θ) θ u' (a.eval x)->(put o u').exe n S=some S'->Does P C S' o a w:=by
  intro u' hp hc hk;refine Does.value (v:=a.eval x) ?_ (qu hk h hc)
  rcases hp with ⟨p,hp⟩ | ⟨f,us,hp⟩ <;> simp only [execOp,ho,hp,Sem.run_pure]
 split at hh
 ·have hu':=hu;obtain ⟨g,h1,h2⟩:=hu'; exact fin _ (.inl ⟨_,h2⟩) hu hh
 ·have hu':=hu;obtain ⟨h0,g,h1,h2⟩:=hu'; exact fin _ (.inl ⟨_,h2⟩) hu hh
 ·have hu':=hu;obtain ⟨g,m,c,h1,h0,h2⟩:=hu'; exact fin _ (.inl ⟨_,h2⟩) hu hh
 ·have hu':=hu;obtain ⟨p,v,h1,h2⟩:=hu'; exact fin _ (.inl ⟨_,h1⟩) hu hh
 ·rename_i f;have hu' : a.eval x=.func (.func f) #[] #[]:=hu;exact fin _ (.inr ⟨f,_,hu'⟩) hu hh
 ·have hu':=hu;obtain ⟨us,h1,_⟩:=hu'; exact fin _ (.inr ⟨_,_,h1⟩) hu hh
 ·rename_i f q;obtain ⟨hs,hh⟩:=qX hh
  cases q with
  | none=>cases hs
  | some i=>
   obtain ⟨h1,g,h2⟩:=hu;exact fin (.ref (.mem f i) 0) (.inl ⟨_,h2⟩) ⟨g,by rw [<-h2]; exact h1,h2⟩ hh
 ·exact (qw hh).elim
theorem oV {t:TypeId} {x:Operand} {u:AV} (ho:o.op=.sliceToArrayPointer t x) (h:Rel C S θ a w) (hu:CV w (qx C w S θ) θ u (a.eval x)) (hh:(Qj P o t u).exe n S=some S'):Does P C S' o a w:=by
 unfold Qj at hh
 split at hh <;> first | exact (qw hh).elim | skip
 rename_i m e ht
 split at hh <;> first | exact (qw hh).elim | skip
 ·rename_i d oo nn off len;obtain ⟨h1,hh⟩:=qy hh;obtain ⟨h2,hh⟩:=qX hh;have h1:=Nat.le_of_ble_eq_true h1;have h2:=Nat.le_of_ble_eq_true h2;obtain ⟨A,c,hx,hc,hle,hl⟩:=hu;obtain ⟨g,hd,rfl⟩:=hl (by omega);refine Does.value (v:=.pointer (some ⟨g,oo+off,none⟩)) ?_ (qu hh h ⟨by omega,g,hd,rfl⟩);simp only [execOp,ho,Instr.arrayAt,Sem.run_bind,run_underlying ht,Result.andThen_ok,hx,Sem.run_pure,if_neg (show ¬ len<m by omega)]
 ·rename_i k xs;obtain ⟨h1,hh⟩:=qy hh;obtain ⟨h2,hh⟩:=qX hh;have h1:=Nat.le_of_ble_eq_true h1;have h2:=Nat.le_of_ble_eq_true h2;obtain ⟨A,c,hx,hc,hA⟩:=hu;obtain ⟨ad,rfl,hok,hcell⟩:=hA (by omega);refine Does.value (v:=.pointer (some ad)) ?_ (qu hh h ⟨ad,.agg (qr k (xs.take m)).toArray,rfl,hok,⟨by rw [List.length_take]; omega,rfl⟩,?_⟩)
  ·simp only [execOp,ho,Instr.arrayAt,Sem.run_bind,run_underlying ht,Result.andThen_ok,hx,Sem.run_pure,if_neg (show ¬ xs.length<m by omega)]
  ·have e:qr k xs=qr k (xs.take m)++qr k (xs.drop m):=by
    unfold qr;rw [<-List.map_append,List.take_append_drop]
   rw [e] at hcell;exact zV hcell
theorem Qr {x y:Operand} {ats:Array TypeId} {u v:AV} (ho:o.op=.call { callee:=.builtin .min,args:=#[x,y],argTypes:=ats }) (h:Rel C S θ a w) (hu:CV w (qx C w S θ) θ u (a.eval x)) (hv:CV w (qx C w S θ) θ v (a.eval y)) (hh:(oI o u v).exe n S=some S'):Does P C S' o a w:=by
 unfold oI at hh
 split at hh
 ·rename_i k p k' q;have h1:a.eval x=.int k p:=hu;have h2:a.eval y=.int k' q:=hv;refine Does.value (v:=.int k (match decide (q<p) with | true=>q | false=>p)) ?_ (qu hh h rfl);simp only [execOp,ho,resolve,invoke,builtin,Sem.run_bind,Sem.run_pure,Result.andThen_ok,List.map_toArray,List.map_cons,List.map_nil,Builtin.min_,List.foldlM_cons,List.foldlM_nil,h1,h2,Builtin.min2]
  by_cases hq:q<p <;> simp [hq]
 ·exact (qw hh).elim
theorem Zx {x y:Operand} {ats:Array TypeId} {u v:AV} (ho:o.op=.call { callee:=.builtin .max,args:=#[x,y],argTypes:=ats }) (h:Rel C S θ a w) (hu:CV w (qx C w S θ) θ u (a.eval x)) (hv:CV w (qx C w S θ) θ v (a.eval y)) (hh:(Zz o u v).exe n S=some S'):Does P C S' o a w:=by
 unfold Zz at hh
 split at hh
 ·rename_i k p k' q;have h1:a.eval x=.int k p:=hu;have h2:a.eval y=.int k' q:=hv;refine Does.value (v:=.int k (match decide (q > p) with | true=>q | false=>p)) ?_ (qu hh h rfl);simp only [execOp,ho,resolve,invoke,builtin,Sem.run_bind,Sem.run_pure,Result.andThen_ok,List.map_toArray,List.map_cons,List.map_nil,Builtin.max_,List.foldlM_cons,List.foldlM_nil,h1,h2,Builtin.max2]
  by_cases hq:q > p <;> simp [hq]
 ·exact (qw hh).elim
theorem dH {ok:Nat->Prop} {us us' : List AV} {vs vs' : List Value} (h:CVt w ok θ us vs) (h' : CVt w ok θ us' vs'):CVt w ok θ (us++us') (vs++vs'):=by
 induction us generalizing vs with
 | nil=>have h:vs=[]:=h; subst h; exact h'
 | cons u us ih=>
  obtain ⟨v,rest,rfl,h1,h2⟩:=h;exact ⟨v,rest++vs',rfl,h1,ih h2⟩
theorem sH {cal:FuncId->Option Cal} (hcal:∀ f c,cal f=some c->qU P C.E f c) {c:Call} (ho:o.op=.call c) (h:Rel C S θ a w) (hh:(ng P C.E cal o c).exe n S=some S') (K:Act->World->Prop) (Q:Exit->Act->World->Prop)
  (hK:∀ a' w' θ',Rel C S' θ' a' w'->a'.defers=a.defers->K a' w'):o.wp P a w K Q:=by
 obtain ⟨cl,args,ats⟩:=c;unfold ng at hh;dsimp only at hh
 split at hh
 ·split at hh
  ·rename_i x t e1 e2;have e3:args = #[x]:=by rw [<-Array.toList_inj,e1]
   have e4:ats = #[t]:=by rw [<-Array.toList_inj,e2]
   subst e3 e4;obtain ⟨u,hu,hk⟩:=zz h hh
   split at hk
   ·exact (lu ho h hu hk).wp K Q hK
   ·exact (oP ho h hu hk).wp K Q hK
  ·exact (qw hh).elim
 ·split at hh
  ·rename_i s x ts tx e1 e2;have e3:args = #[s,x]:=by rw [<-Array.toList_inj,e1]
   have e4:ats = #[ts,tx]:=by rw [<-Array.toList_inj,e2]
   subst e3 e4;obtain ⟨u,hu,h1⟩:=zz h hh;obtain ⟨uy,hy,h2⟩:=zz h h1
   split at h2
   ·rename_i kn hkn; exact (tE ho hkn h hu hy h2).wp K Q hK
   ·exact (ln ho h hu hy h2).wp K Q hK
  ·exact (qw hh).elim
 ·split at hh
  ·rename_i d s td ts e1 e2;have e3:args = #[d,s]:=by rw [<-Array.toList_inj,e1]
   have e4:ats = #[td,ts]:=by rw [<-Array.toList_inj,e2]
   subst e3 e4;obtain ⟨u,hu,h1⟩:=zz h hh;obtain ⟨uy,hy,h2⟩:=zz h h1;exact (aV ho h hu hy h2).wp K Q hK
  ·exact (qw hh).elim
 ·split at hh
  ·rename_i x y e1;have e3:args = #[x,y]:=by rw [<-Array.toList_inj,e1]
   subst e3;obtain ⟨u,hu,h1⟩:=zz h hh;obtain ⟨uy,hy,h2⟩:=zz h h1;exact (Qr ho h hu hy h2).wp K Q hK
  ·exact (qw hh).elim
 ·split at hh
  ·rename_i x y e1;have e3:args = #[x,y]:=by rw [<-Array.toList_inj,e1]
   subst e3;obtain ⟨u,hu,h1⟩:=zz h hh;obtain ⟨uy,hy,h2⟩:=zz h h1;exact (Zx ho h hu hy h2).wp K Q hK
  ·exact (qw hh).elim
 ·split at hh
  ·rename_i x y t ts e1 e2;have e3:args = #[x,y]:=by rw [<-Array.toList_inj,e1]
   subst e3;obtain ⟨u,hu,h1⟩:=zz h hh;obtain ⟨uy,hy,h2⟩:=zz h h1;exact (lK ho e2 h hu hy h2).wp K Q hK
  ·exact (qw hh).elim
 ·rename_i q;obtain ⟨uq,hq,h1⟩:=zz h hh
  split at h1 <;> first | exact (qw h1).elim | skip
  ·rename_i f;have hq:a.eval q=.func (.func f) #[] #[]:=hq;obtain ⟨us,hu,hk⟩:=pW h h1;refine bG hcal (f:=f) (args:=args.map a.eval) (fun hc=>?_) h (by simpa using hu) hk K Q hK;simp only [execOp,ho,resolve,hq,Deferred.ofValue,Sem.run_bind,Sem.run_pure,Result.andThen_ok,invoke,Array.append_empty,Array.empty_append];exact hc
  ·rename_i f caps;obtain ⟨uc,hq,hcc⟩:=hq;obtain ⟨us,hu,hk⟩:=pW h h1;refine bG hcal (f:=f) (args:=args.map a.eval++uc) (fun hc=>?_) h (by simpa using dH hu hcc) hk K Q hK;simp only [execOp,ho,resolve,hq,Deferred.ofValue,Sem.run_bind,Sem.run_pure,Result.andThen_ok,invoke,Array.empty_append];exact hc
 ·exact (qw hh).elim
theorem WO {t:TypeId} {x y:Operand} {u uv:AV} (h:Rel C S θ a w) (hu:CV w (qx C w S θ) θ u (a.eval x)) (hv:CV w (qx C w S θ) θ uv (a.eval y)) (hh:(stD P C.E t u uv).exe n S=some S') :
  ∃ w',(Instr.storeAt t (a.eval x) (a.eval y)).run P w=.ok () w'/\Rel C S' θ a w':=by
 unfold stD at hh
 split at hh
 ·split at hh
  ·split at hh
   ·obtain ⟨S1,u',h1,_,h3,h4,h5,_⟩:=nd h hv hh;exact Qg h1 (qE (ww h5) _ _ hu) h3 h4
   ·exact (qw hh).elim
  ·exact Qg h hu hv hh
 ·exact Qg h hu hv hh
theorem Wp {cal:FuncId->Option Cal} (hcal:∀ f c,cal f=some c->qU P C.E f c) (hnx:∀ x,o.op≠.next x false) (hni:∀ op t x y ty,o.op=.binOp op t x y ty->pP op y=none) (h:Rel C S θ a w) (hh:(aop P C.E cal o).exe n S=some S') (K:Act->World->Prop) (Q:Exit->Act->World->Prop)
  (hK:∀ a' w' θ',Rel C S' θ' a' w'->a'.defers=a.defers->K a' w'):o.wp P a w K Q:=by
 unfold aop at hh
 split at hh
 ·rename_i x ho;obtain ⟨u,hu,hk⟩:=zz h hh;exact Does.wp (Does.value (v:=a.eval x) (by simp only [execOp,ho,Sem.run_pure]) (qu hk h hu)) K Q hK
 ·rename_i x ho;obtain ⟨u,hu,hk⟩:=zz h hh;exact Does.wp (Does.value (v:=a.eval x) (by simp only [execOp,ho,Sem.run_pure]) (qu hk h hu)) K Q hK
 ·rename_i c x y ho;obtain ⟨uc,hc,h1⟩:=zz h hh;obtain ⟨ux,hx,h2⟩:=zz h h1;obtain ⟨uy,hy,h3⟩:=zz h h2;exact (aw ho h hc hx hy h3).wp K Q hK
 ·rename_i e x ho;obtain ⟨u,hu,hk⟩:=zz h hh;exact (oK ho h hu hk).wp K Q hK
 ·rename_i e ho;exact (sG ho h hh).wp K Q hK
 ·rename_i t x ho;obtain ⟨u,hu,hk⟩:=zz h hh;obtain ⟨r,v,hr,hrun,hk2⟩:=VG h hu hk;exact Does.wp (Does.value (v:=v) (by simp only [execOp,ho,Sem.run_bind,hrun,Result.andThen_ok,Sem.run_pure]) (qu hk2 h hr)) K Q hK
 ·rename_i t x y ho
  split at hh
  ·rename_i hd;obtain ⟨u,hu,h1⟩:=zz h hh;obtain ⟨uv,hv,h2⟩:=zz h h1;obtain ⟨w',hrun,hrel⟩:=WO h hu hv h2;refine Does.wp ⟨.skip,w',by simp only [execOp,ho,Sem.run_bind,hrun,Result.andThen_ok,Sem.run_pure],.inr ⟨rfl,θ,?_⟩⟩ K Q hK;rw [hd];exact hrel
  ·exact (qw hh).elim
 ·rename_i s x f ho;obtain ⟨u,hu,hk⟩:=zz h hh;exact (dT ho h hu hk).wp K Q hK
 ·rename_i s x f ho;obtain ⟨u,hu,hk⟩:=zz h hh;exact (sD ho h hu hk).wp K Q hK
 ·rename_i t x y ho;obtain ⟨u,hu,h1⟩:=zz h hh;obtain ⟨uy,hy,h2⟩:=zz h h1;exact (cJ ho h hu hy h2).wp K Q hK
 ·rename_i t x y ho;obtain ⟨u,hu,h1⟩:=zz h hh;obtain ⟨uy,hy,h2⟩:=zz h h1;exact (sZ ho h hu hy h2).wp K Q hK
 ·rename_i x i ho;obtain ⟨u,hu,hk⟩:=zz h hh;exact (nH ho h hu hk).wp K Q hK
 ·rename_i t parts ho;obtain ⟨us,hu,hk⟩:=pW h hh;exact (sy ho h hu hk).wp K Q hK
 ·rename_i t len parts ho;obtain ⟨us,hu,hk⟩:=pW h hh;exact (ua ho h hu hk).wp K Q hK
 ·rename_i t x lo hi mx ho;obtain ⟨u,hu,h1⟩:=zz h hh;obtain ⟨ul,hl,h2⟩:=sx h h1;obtain ⟨uh,hhi,h3⟩:=sx h h2;obtain ⟨um,hm,h4⟩:=sx h h3;exact (lT ho h hu hl hhi hm h4).wp K Q hK
 ·rename_i s d x ho;obtain ⟨u,hu,hk⟩:=zz h hh;exact (nX ho h hu hk).wp K Q hK
 ·rename_i uo t x ho;obtain ⟨u,hu,hk⟩:=zz h hh;exact (Wx ho h hu hk).wp K Q hK
 ·rename_i op t x y ty ho;rw [hni _ _ _ _ _ ho] at hh;obtain ⟨u,hu,h1⟩:=zz h hh;obtain ⟨uy,hy,h2⟩:=zz h h1;exact (QP ho h hu hy h2).wp K Q hK
 ·rename_i t l c ho;obtain ⟨u,hu,h1⟩:=zz h hh;obtain ⟨uy,hy,h2⟩:=zz h h1
  split at h2
  ·exact (aK ho h hu hy h2).wp K Q hK
  ·exact (sV ho h hu hy h2).wp K Q hK
 ·rename_i c ho;exact sH hcal ho h hh K Q hK
 ·rename_i x ho;obtain ⟨u,hu,hk⟩:=zz h hh;exact (bj ho h hu hk).wp K Q hK
 ·rename_i t x ho;obtain ⟨u,hu,hk⟩:=zz h hh;exact (oV ho h hu hk).wp K Q hK
 ·rename_i t x i two ho;obtain ⟨u,hu,h1⟩:=zz h hh;obtain ⟨uy,hy,h2⟩:=zz h h1;exact (rN ho h hu hy h2).wp K Q hK
 ·rename_i t x y z ho
  split at hh
  ·rename_i hd;obtain ⟨u,hu,h1⟩:=zz h hh;obtain ⟨uy,hy,h2⟩:=zz h h1;obtain ⟨uz,hz,h3⟩:=zz h h2;exact (dq ho hd h hu hy hz h3).wp K Q hK
  ·exact (qw hh).elim
 ·rename_i t x y ho;obtain ⟨u,hu,h1⟩:=zz h hh;obtain ⟨uy,hy,h2⟩:=zz h h1;exact (dA ho h hu hy h2).wp K Q hK
 ·rename_i t x y z ho
  split at hh
  ·rename_i hd;obtain ⟨u,hu,h1⟩:=zz h hh;obtain ⟨uy,hy,h2⟩:=zz h h1;obtain ⟨uz,hz,h3⟩:=zz h h2;exact (uV ho hd h hu hy hz h3).wp K Q hK
  ·exact (qw hh).elim
 ·rename_i t ho;exact (nb ho h hh).wp K Q hK
 ·rename_i t x ho;obtain ⟨u,hu,hk⟩:=zz h hh;exact (sL ho h hu hk).wp K Q hK
 ·rename_i x ho;exact (hnx x ho).elim
 ·rename_i x ho;obtain ⟨u,hu,hk⟩:=zz h hh;exact (lA ho h hu hk).wp K Q hK
 ·rename_i fn first caps ho
  obtain ⟨us,hu,h1⟩:=pW h hh;obtain ⟨uc,hc,h2⟩:=pW h h1;exact (Qc ho h hu hc h2).wp K Q hK
 ·exact (qw hh).elim
theorem WN (h:Rel C S θ a w) {x:Operand} {k:AV->Pg} {N:Nat} {c:Nat} (hh:(ev C.E x k).exe ⟨N,c⟩ S=some S'):∃ u,CV w (qx C w S θ) θ u (a.eval x)/\∀ c',(ev C.E x k).exe ⟨N,c'⟩ S=(k u).exe ⟨N,c'⟩ S:=by
 cases x with
 | tmp t=>
  refine ⟨S.slot t,?_,fun c'=>rfl⟩;simp only [Act.eval]
  cases ht:a.tmps[t]? with
  | some v=>
   have:=h.slots t v ht;simpa [Array.getD_eq_getD_getElem?,ht] using this
  | none=>
   have hl:a.tmps.size<=t:=by simpa using ht
   have:S.slot t=.undef:=by
    have hl' : S.tm.length<=t:=by rw [<-h.len]; exact hl
    simp [St.slot,List.getD_eq_getElem?_getD,List.getElem?_eq_none hl']
   rw [this];trivial
 | const v=>
  simp only [ev] at hh ⊢
  split at hh
  ·rename_i u hu;exact ⟨u,sk hu,fun c'=>rfl⟩
  ·exact (qw hh).elim
 | global g=>
  simp only [ev] at hh ⊢
  split at hh
  ·rename_i t ht;exact ⟨.fp t,h.globs g t ht,fun c'=>rfl⟩
  ·exact (qw hh).elim
 | func f=>exact ⟨.fn f,rfl,fun c'=>rfl⟩
theorem oG {x:Operand} {k:AV->Pg} (h:Rel C S θ a w) (N:Nat) (hk:∀ u,CV w (qx C w S θ) θ u (a.eval x)->∃ c,∀ S',(k u).exe ⟨N,c⟩ S=some S'->Does P C S' o a w) :
  ∃ c,∀ S',(ev C.E x k).exe ⟨N,c⟩ S=some S'->∀ (K:Act->World->Prop) (Q:Exit->Act->World->Prop),(∀ a' w' θ',Rel C S' θ' a' w'->a'.defers=a.defers->K a' w')->o.wp P a w K Q:=by
 by_cases hP:∃ c S',(ev C.E x k).exe ⟨N,c⟩ S=some S'
 ·obtain ⟨c0,S0,h0⟩:=hP;obtain ⟨u,hu,he⟩:=WN h h0;obtain ⟨c,hc⟩:=hk u hu;refine ⟨c,fun S' hh K Q hK=>(hc S' ?_).wp K Q hK⟩;rw [<-he c];exact hh
 ·exact ⟨0,fun S' hh=>(hP ⟨0,S',hh⟩).elim⟩
theorem WE {cal:FuncId->Option Cal} (hcal:∀ f c,cal f=some c->qU P C.E f c) (h:Rel C S θ a w) (N:Nat):∃ c,∀ S',(aop P C.E cal o).exe ⟨N,c⟩ S=some S'->∀ (K:Act->World->Prop) (Q:Exit->Act->World->Prop),
  (∀ a' w' θ',Rel C S' θ' a' w'->a'.defers=a.defers->K a' w')->o.wp P a w K Q:=by
 by_cases hx:∃ x,o.op=.next x false
 ·obtain ⟨x,ho⟩:=hx;have e:aop P C.E cal o=ev C.E x (si o):=by unfold aop; rw [ho]
  rw [e];exact oG h N fun u hu=>aW (P:=P) (N:=N) ho h hu
 ·by_cases hy:∃ op t x y ty neg,o.op=.binOp op t x y ty/\pP op y=some neg
  ·obtain ⟨op,t,x,y,ty,neg,ho,hn⟩:=hy
   have e:aop P C.E cal o=ev C.E x (my P o t neg):=by
    unfold aop;rw [ho];simp only;rw [hn]
   rw [e];exact oG h N fun u hu=>eq ho hn h hu
  ·refine ⟨0,fun S' hh K Q hK=>Wp hcal (fun x e=>hx ⟨x,e⟩) (fun op t x y ty e=>?_) h hh K Q hK⟩
   cases hn:pP op y with
   | none=>rfl
   | some neg=>exact (hy ⟨op,t,x,y,ty,neg,e,hn⟩).elim
end
end Go.Am
end
section
set_option linter.unusedVariables false
set_option linter.unusedSimpArgs false
namespace Go.Am
open Go.RowKit
def Nm.code:Nm->Nat
 | .top d=>4 * d+1
 | .mem f _=>4 * f+3
def Pg.runL (n:Nat) {R:Type}:Pg->List Nat->List Nat->St->(List Nat->List Nat->St->Option R)->Option R
 | .done,rs,ws,S,K=>K rs ws S
 | .fail,_,_,_,_=>none
 | .slot i k,rs,ws,S,K=>(k (S.slot i)).runL n ((2 * i)::rs) ws S K
 | .obj d k,rs,ws,S,K=>(k (S.obj d)).runL n (d.code::rs) ws S K
 | .qe i v k,rs,ws,S,K=>k.runL n rs ((2 * i)::ws) (S.qe i v) K
 | .qW d o k,rs,ws,S,K=>k.runL n ((4 * d+1)::rs) ((4 * d+1)::ws) (S.qW d o) K
 | .chk b k,rs,ws,S,K=>brO b (k.runL n rs ws S K) none
 | .call c x k,rs,ws,S,K=>(c.F n x).bind fun r=>(k r).runL n rs ws S K
 | .fam f k,rs,ws,S,K=>(k (S.fam f)).runL n ((4 * f+3)::rs) ws S K
 | .setFam f l k,rs,ws,S,K=>k.runL n ((4 * f+3)::rs) ((4 * f+3)::ws) (S.setFam f l) K
 | .ask _ _,_,_,_,_=>none
 | .br b p q,rs,ws,S,K=>brO b (p.runL n rs ws S K) (q.runL n rs ws S K)
def WV (ops:List Oper) (g:Nat):Option Nat:=(ops[g]?).bind (·.dst)
def gop (P:Program) (E:Env) (cal:FuncId->Option Cal) (ops:List Oper) (o:Oper):Pg:=
 match o.guard with
 | none=>aop P E cal o
 | some (g,want)=>match WV ops g with
  | some t=>.slot t fun v=>match v with
   | .bool b=>match b,want with
    | true,true=>aop P E cal o
    | false,false=>aop P E cal o
    | true,false=>put o (.tup [])
    | false,true=>put o (.tup [])
   | .tup []=>put o (.tup [])
   | _=>.fail
  | none=>.fail
def Wg (ops:List Oper) (i:Nat):Bool:=ops.any fun o=>match o.guard with | some (g,_)=>Nat.beq g i | none=>false
def split {R:Type} (ops:List Oper) (i:Nat) (o:Oper) (S:St) (K:St->Option R):Option R:=
 match Wg ops i,o.dst with
 | true,some d=>match S.slot d with
  | .bool b=>brO b (K (S.qe d (.bool true))) (K (S.qe d (.bool false)))
  | _=>K S
 | _,_=>K S
def sE (n:Nat) (P:Program) (E:Env) (cal:FuncId->Option Cal) (ops:List Oper) {R:Type}:Nat->List Oper->List (List Nat × List Nat)->St->(List (List Nat × List Nat)->St->Option R)->Option R
 | _,[],lg,S,K=>K lg S
 | i,o::os,lg,S,K=>(gop P E cal ops o).runL n [] [] S fun rs ws S'=>split ops i o S' fun S''=>sE n P E cal ops (i+1) os ((rs,ws)::lg) S'' K
def meets (xs ys:List Nat):Bool:=xs.any fun x=>ys.any fun y=>Nat.beq x y
def mV (x y:List Nat × List Nat):Bool:=meets x.2 y.1 || (meets x.2 y.2 || meets y.2 x.1)
def dp (acc:List Nat) (es:List Edge):Nat:=es.foldr (fun e m=>match Region.binds .any e with | true=>(2 ^ e.on ||| acc.getD e.on 0) ||| m | false=>m) 0
def oA:List Oper->List Nat->List Nat
 | [],acc=>acc
 | o::os,acc=>oA os (acc++[dp acc o.after.toList])
def gY (ms:List Nat) (x:List Nat × List Nat) (j m:Nat):Nat->List (List Nat × List Nat)->Bool
 | _,[]=>true
 | i,y::ys=>(match Nat.blt i j with | true=>(match mV y x with | true=>m.testBit i | false=>true) | false=>true) && gY ms x j m (i+1) ys
def yk (ms:List Nat) (all:List (List Nat × List Nat)):Nat->List (List Nat × List Nat)->Bool
 | _,[]=>true
 | j,x::xs=>gY ms x j (ms.getD j 0) 0 all && yk ms all (j+1) xs
def eN:Nat->List Oper->Bool
 | _,[]=>true
 | j,o::os=>o.after.toList.all (fun e=>match Region.binds .any e with | true=>Nat.blt e.on j | false=>true) && eN (j+1) os
def nW (ops:List Oper) (lg:List (List Nat × List Nat)):Bool:=eN 0 ops && yk (oA ops []) lg 0 lg
noncomputable def kI (n:Nat) (P:Program) (E:Env) (cal:FuncId->Option Cal) (ops:List Oper) {R:Type}:Nat->List Oper->St->(St->Option R)->Option R
 | _,[],S,K=>K S
 | i,o::os,S,K=>(gop P E cal ops o).run n S fun S'=>split ops i o S' fun S''=>kI n P E cal ops (i+1) os S'' K
noncomputable def QH (n:Nat) (P:Program) (E:Env) (cal:FuncId->Option Cal) (ops:List Oper) (draw:Bool) {R:Type} (S:St) (K:St->Option R):Option R:=
 match draw with
 | false=>kI n P E cal ops 0 ops S K
 | true=>sE n P E cal ops 0 ops [] S fun lg S'=>match nW ops lg.reverse with
   | true=>K S'
   | false=>none
def St.val (S:St) (p:Nat):AV × (Option Ob × Option Fam):=
 if p % 2=0 then (S.slot (p / 2),none,none) else if p % 4=1 then (.undef,S.obj (.top (p / 4)),none) else (.undef,none,S.fam (p / 4))
theorem wR (S:St) (i:Nat):S.val (2 * i)=(S.slot i,none,none):=by simp [St.val]
theorem jO (S:St) (d:Nat):S.val (4 * d+1)=(.undef,S.obj (.top d),none):=by
 have h1:(4 * d+1) % 2=1:=by omega
 have h2:(4 * d+1) / 4=d:=by omega
 have h3:(4 * d+1) % 4=1:=by omega
 simp [St.val,h1,h2,h3]
theorem jB (S:St) (f:Nat):S.val (4 * f+3)=(.undef,none,S.fam f):=by
 have h1:(4 * f+3) % 2=1:=by omega
 have h2:(4 * f+3) / 4=f:=by omega
 have h3:(4 * f+3) % 4=3:=by omega
 simp [St.val,h1,h2,h3]
theorem place (p:Nat):(∃ i,p=2 * i)\/(∃ d,p=4 * d+1)\/∃ f,p=4 * f+3:=by
 have h:p % 4=0\/p % 4=1\/p % 4=2\/p % 4=3:=by omega
 rcases h with h | h | h | h
 ·exact .inl ⟨p / 2,by omega⟩
 ·exact .inr (.inl ⟨p / 4,by omega⟩)
 ·exact .inl ⟨p / 2,by omega⟩
 ·exact .inr (.inr ⟨p / 4,by omega⟩)
theorem xt {S T:St} {f:Nat} (h:T.val (4 * f+3)=S.val (4 * f+3)):T.fam f=S.fam f:=by
 rw [jB,jB] at h;exact (Prod.mk.inj (Prod.mk.inj h).2).2
theorem JE {S T:St} {f i:Nat} (h:T.fam f=S.fam f):T.obj (.mem f i)=S.obj (.mem f i):=by
 have h:zu T.fm f=zu S.fm f:=h;simp only [St.obj,h]
theorem ca {S T:St} {d:Nm} (h:T.val d.code=S.val d.code):T.obj d=S.obj d:=by
 cases d with
 | top d=>
  rw [Nm.code,jO,jO] at h;exact (Prod.mk.inj (Prod.mk.inj h).2).1
 | mem f i=>exact JE (xt h)
def Loc (n:Rp) (p:Pg) (S S' : St) (R W:List Nat):Prop:=
 S'.tm.length=S.tm.length/\(∀ q,q ∉ W->S'.val q=S.val q)/\
 ∀ T:St,T.tm.length=S.tm.length->(∀ q∈R,T.val q=S.val q)->∃ T',p.exe n T=some T'/\T'.tm.length=T.tm.length/\(∀ q∈W,T'.val q=S'.val q)/\∀ q,q ∉ W->T'.val q=T.val q
theorem yf {S:St} {i:Nat} {v:AV} {q:Nat} (h:q≠2 * i):(S.qe i v).val q=S.val q:=by
 rcases place q with ⟨j,rfl⟩ | ⟨d,rfl⟩ | ⟨f,rfl⟩
 ·rw [wR,wR,wH _ _ _ _ (by omega)]
 ·rw [jO,jO]; rfl
 ·rw [jB,jB]; rfl
theorem yX {S T:St} {i:Nat} {v:AV} (h:T.tm.length=S.tm.length):(T.qe i v).val (2 * i)=(S.qe i v).val (2 * i):=by
 rw [wR,wR]
 by_cases hi:i<S.tm.length
 ·rw [wx _ _ _ hi,wx _ _ _ (by rw [h]; exact hi)]
 ·have h1:S.tm.length<=i:=by omega
  have h2:T.tm.length<=i:=by omega
  simp [St.slot,St.qe,List.getD_eq_getElem?_getD,h1,h2]
theorem xh {S:St} {d:Nat} {o:Ob} {q:Nat} (h:q≠4 * d+1):(S.qW d o).val q=S.val q:=by
 rcases place q with ⟨j,rfl⟩ | ⟨e,rfl⟩ | ⟨f,rfl⟩
 ·rw [wR,wR]; rfl
 ·have hne:Nm.top e≠.top d:=fun he=>h (by cases he; rfl)
  rw [jO,jO,qt _ _ _ _ hne]
 ·rw [jB,jB]; rfl
theorem xJ {S T:St} {d:Nat} {o:Ob}:(T.qW d o).val (4 * d+1)=(S.qW d o).val (4 * d+1):=by
 rw [jO,jO,qZ,qZ]
theorem yL {S:St} {f:Nat} {l:List AV} {q:Nat} (h:q≠4 * f+3):(S.setFam f l).val q=S.val q:=by
 rcases place q with ⟨j,rfl⟩ | ⟨e,rfl⟩ | ⟨g,rfl⟩
 ·rw [wR,wR]; rfl
 ·rw [jO,jO]; rfl
 ·rw [jB,jB,Js (fun e=>h (by rw [e]))]
theorem xZ {l:List (Nat × Fam)} {f:Nat} {x:List AV} (h:zu l f=none):zu (rp l f x) f=none:=by
 induction l with
 | nil=>rfl
 | cons y r ih=>
  simp only [zu] at h;simp only [rp]
  cases hb:Nat.beq f y.1 with
  | true=>rw [hb] at h; cases h
  | false=>rw [hb] at h; simp only [zu,hb]; exact ih h
theorem xV {S T:St} {f:Nat} {l:List AV} (h:T.val (4 * f+3)=S.val (4 * f+3)):(T.setFam f l).val (4 * f+3)=(S.setFam f l).val (4 * f+3):=by
 have h1:=xt h;rw [jB,jB]
 cases hF:S.fam f with
 | none=>
  have e1:(T.setFam f l).fam f=none:=xZ (h1.trans hF);have e2:(S.setFam f l).fam f=none:=xZ hF;rw [e1,e2]
 | some F=>rw [wT (h1.trans hF),wT hF]
theorem kg (S:St) (i:Nat) (v:AV):(S.qe i v).tm.length=S.tm.length:=by simp [St.qe]
theorem wY {n:Nat} {R:Type}:∀ (p:Pg) (rs ws:List Nat) (S:St) (K:List Nat->List Nat->St->Option R) (x:R),p.runL n rs ws S K=some x->
  ∃ rs' ws' S',K (rs'++rs) (ws'++ws) S' = some x/\∀ c,Loc ⟨n,c⟩ p S S' rs' ws'
 | .done,rs,ws,S,K,x,h=>⟨[],[],S,h,fun c=>⟨rfl,fun _ _=>rfl,fun T hl _=>⟨T,rfl,rfl,by simp,fun _ _=>rfl⟩⟩⟩
 | .fail,rs,ws,S,K,x,h=>by cases h
 | .ask m k,rs,ws,S,K,x,h=>by cases h
 | .slot i k,rs,ws,S,K,x,h=>by
  obtain ⟨rs',ws',S',hk,hl⟩:=wY (k (S.slot i)) _ _ S K x h;refine ⟨rs'++[2 * i],ws',S',by simpa using hk,fun c=>?_⟩;obtain ⟨hl,hf,hc⟩:=hl c;refine ⟨hl,hf,fun T hT hR=>?_⟩
  have e:T.slot i=S.slot i:=by
   have:=hR (2 * i) (by simp);rw [wR,wR] at this;exact (Prod.mk.inj this).1
  obtain ⟨T',h1,h2⟩:=hc T hT (fun q hq=>hR q (by simp [hq]));exact ⟨T',by show (k (T.slot i)).exe ⟨n,c⟩ T=_; rw [e]; exact h1,h2⟩
 | .obj d k,rs,ws,S,K,x,h=>by
  obtain ⟨rs',ws',S',hk,hl⟩:=wY (k (S.obj d)) _ _ S K x h;refine ⟨rs'++[d.code],ws',S',by simpa using hk,fun c=>?_⟩;obtain ⟨hl,hf,hc⟩:=hl c;refine ⟨hl,hf,fun T hT hR=>?_⟩;have e:T.obj d=S.obj d:=ca (hR d.code (by simp));obtain ⟨T',h1,h2⟩:=hc T hT (fun q hq=>hR q (by simp [hq]));exact ⟨T',by show (k (T.obj d)).exe ⟨n,c⟩ T=_; rw [e]; exact h1,h2⟩
 | .fam f k,rs,ws,S,K,x,h=>by
  obtain ⟨rs',ws',S',hk,hl⟩:=wY (k (S.fam f)) _ _ S K x h;refine ⟨rs'++[4 * f+3],ws',S',by simpa using hk,fun c=>?_⟩;obtain ⟨hl,hf,hc⟩:=hl c;refine ⟨hl,hf,fun T hT hR=>?_⟩;have e:T.fam f=S.fam f:=xt (hR (4 * f+3) (by simp));obtain ⟨T',h1,h2⟩:=hc T hT (fun q hq=>hR q (by simp [hq]));exact ⟨T',by show (k (T.fam f)).exe ⟨n,c⟩ T=_; rw [e]; exact h1,h2⟩
 | .qe i v k,rs,ws,S,K,x,h=>by
  obtain ⟨rs',ws',S',hk,hl⟩:=wY k _ _ (S.qe i v) K x h;refine ⟨rs',ws'++[2 * i],S',by simpa using hk,fun c=>?_⟩;obtain ⟨hl,hf,hc⟩:=hl c;rw [kg] at hl;refine ⟨hl,fun q hq=>?_,fun T hT hR=>?_⟩
  ·simp only [List.mem_append,List.mem_singleton,not_or] at hq;rw [hf q hq.1,yf hq.2]
  ·obtain ⟨T',h1,h2,h3,h4⟩:=hc (T.qe i v) (by rw [kg,kg]; exact hT) (fun q hq=>by
    by_cases hqi:q=2 * i
    ·subst hqi; exact yX hT
    ·rw [yf hqi,yf hqi,hR q hq])
   refine ⟨T',h1,by rw [h2,kg],fun q hq=>?_,fun q hq=>?_⟩
   ·by_cases hw:q∈ws'
    ·exact h3 q hw
    ·simp only [List.mem_append,hw,List.mem_singleton,false_or] at hq;subst hq;rw [h4 _ hw,hf _ hw];exact yX hT
   ·simp only [List.mem_append,List.mem_singleton,not_or] at hq;rw [h4 q hq.1,yf hq.2]
 | .qW d o k,rs,ws,S,K,x,h=>by
  obtain ⟨rs',ws',S',hk,hl⟩:=wY k _ _ (S.qW d o) K x h;refine ⟨rs'++[4 * d+1],ws'++[4 * d+1],S',by simpa using hk,fun c=>?_⟩;obtain ⟨hl,hf,hc⟩:=hl c;refine ⟨hl,fun q hq=>?_,fun T hT hR=>?_⟩
  ·simp only [List.mem_append,List.mem_singleton,not_or] at hq;rw [hf q hq.1,xh hq.2]
  ·obtain ⟨T',h1,h2,h3,h4⟩:=hc (T.qW d o) hT (fun q hq=>by
    by_cases hqi:q=4 * d+1
    ·subst hqi; exact xJ
    ·rw [xh hqi,xh hqi,hR q (by simp [hq])])
   refine ⟨T',h1,h2,fun q hq=>?_,fun q hq=>?_⟩
   ·by_cases hw:q∈ws'
    ·exact h3 q hw
    ·simp only [List.mem_append,hw,List.mem_singleton,false_or] at hq;subst hq;rw [h4 _ hw,hf _ hw];exact xJ
   ·simp only [List.mem_append,List.mem_singleton,not_or] at hq;rw [h4 q hq.1,xh hq.2]
 | .setFam f l k,rs,ws,S,K,x,h=>by
  obtain ⟨rs',ws',S',hk,hl⟩:=wY k _ _ (S.setFam f l) K x h;refine ⟨rs'++[4 * f+3],ws'++[4 * f+3],S',by simpa using hk,fun c=>?_⟩;obtain ⟨hl,hf,hc⟩:=hl c;refine ⟨hl,fun q hq=>?_,fun T hT hR=>?_⟩
  ·simp only [List.mem_append,List.mem_singleton,not_or] at hq;rw [hf q hq.1,yL hq.2]
  ·have hTd:=hR (4 * f+3) (by simp)
   obtain ⟨T',h1,h2,h3,h4⟩:=hc (T.setFam f l) hT (fun q hq=>by
    by_cases hqi:q=4 * f+3
    ·subst hqi; exact xV hTd
    ·rw [yL hqi,yL hqi,hR q (by simp [hq])])
   refine ⟨T',h1,h2,fun q hq=>?_,fun q hq=>?_⟩
   ·by_cases hw:q∈ws'
    ·exact h3 q hw
    ·simp only [List.mem_append,hw,List.mem_singleton,false_or] at hq;subst hq;rw [h4 _ hw,hf _ hw];exact xV hTd
   ·simp only [List.mem_append,List.mem_singleton,not_or] at hq;rw [h4 q hq.1,yL hq.2]
 | .chk b k,rs,ws,S,K,x,h=>by
  cases b with
  | false=>cases h
  | true=>
   obtain ⟨rs',ws',S',hk,hl⟩:=wY k _ _ S K x h;exact ⟨rs',ws',S',hk,hl⟩
 | .br b p q,rs,ws,S,K,x,h=>by
  cases b with
  | false=>
   obtain ⟨rs',ws',S',hk,hl⟩:=wY q _ _ S K x h;exact ⟨rs',ws',S',hk,hl⟩
  | true=>
   obtain ⟨rs',ws',S',hk,hl⟩:=wY p _ _ S K x h;exact ⟨rs',ws',S',hk,hl⟩
 | .call c y k,rs,ws,S,K,x,h=>by
  simp only [Pg.runL] at h
  cases hF:c.F n y with
  | none=>rw [hF] at h; cases h
  | some r=>
   rw [hF] at h;obtain ⟨rs',ws',S',hk,hl⟩:=wY (k r) _ _ S K x h;refine ⟨rs',ws',S',hk,fun cc=>?_⟩;obtain ⟨hl,hf,hc⟩:=hl cc;refine ⟨hl,hf,fun T hT hR=>?_⟩;obtain ⟨T',h1,h2⟩:=hc T hT hR;exact ⟨T',by simp only [Pg.exe,hF,Option.bind_some]; exact h1,h2⟩
theorem mZ (S:St) (d:Nat):S.qe d (S.slot d)=S:=by
 obtain ⟨tm,ob,fm⟩:=S;simp only [St.qe,St.slot,St.mk.injEq,and_true];apply List.ext_getElem?;intro i
 by_cases h:d=i
 ·subst h
  by_cases hi:d<tm.length
  ·simp [hi]
  ·simp [Nat.le_of_not_lt hi]
 ·rw [List.getElem?_set_ne h]
theorem fZ {R:Type} {ops:List Oper} {i:Nat} {o:Oper} {S:St} {K:St->Option R} {x:R} (h:split ops i o S K=some x):K S=some x:=by
 unfold split at h
 split at h
 ·rename_i d _ hd
  split at h
  ·rename_i b hb
   cases b with
   | true=>rw [<-hb,mZ] at h; exact h
   | false=>simp only [brO] at h; rw [<-hb,mZ] at h; exact h
  ·exact h
 ·exact h
theorem uk {n:Nat} {P:Program} {E:Env} {cal:FuncId->Option Cal} {ops:List Oper} {R:Type}:∀ (os:List Oper) (i:Nat) (lg:List (List Nat × List Nat)) (S:St) (K:List (List Nat × List Nat)->St->Option R) (x:R),
  sE n P E cal ops i os lg S K=some x->∃ (Ss:Nat->St) (lgs:List (List Nat × List Nat)),K (lgs.reverse++lg) (Ss os.length)=some x/\lgs.length=os.length/\Ss 0=S/\
   ∀ k o,os[k]? = some o->∃ R W,lgs[k]? = some (R,W)/\∀ c,Loc ⟨n,c⟩ (gop P E cal ops o) (Ss k) (Ss (k+1)) R W
 | [],i,lg,S,K,x,h=>⟨fun _=>S,[],h,rfl,rfl,fun k o hk=>by simp at hk⟩
 | o::os,i,lg,S,K,x,h=>by
  obtain ⟨rs,ws,S',h1,hloc⟩:=wY _ _ _ _ _ _ h;have h2:=fZ h1;obtain ⟨Ss,lgs,h3,h4,h5,h6⟩:=uk os (i+1) _ S' K x h2;refine ⟨fun k=>match k with | 0=>S | k+1=>Ss k,(rs,ws)::lgs,by simpa using h3,by simp [h4],rfl,fun k o' hk=>?_⟩
  cases k with
  | zero=>
   simp only [List.getElem?_cons_zero,Option.some.injEq] at hk;subst hk;exact ⟨rs,ws,rfl,by simpa [h5] using hloc⟩
  | succ k=>
   simp only [List.getElem?_cons_succ] at hk;exact h6 k o' hk
theorem Loc.self {n:Rp} {p:Pg} {S S' : St} {R W:List Nat} (h:Loc n p S S' R W):∃ T',p.exe n S=some T'/\T'.tm.length=S'.tm.length/\∀ q,T'.val q=S'.val q:=by
 obtain ⟨h1,h2,h3⟩:=h;obtain ⟨T',k1,k2,k3,k4⟩:=h3 S rfl (fun _ _=>rfl);refine ⟨T',k1,k2.trans h1.symm,fun q=>?_⟩
 by_cases hq:q∈W
 ·exact k3 q hq
 ·rw [k4 q hq,h2 q hq]
section
variable {C:Ctx} {S S' T:St} {θ θ' : Nm->Option Value} {a:Act} {w w' : World} {n:Rp} {P:Program} {o:Oper}
theorem Rel.congr (h:Rel C S θ a w) (hl:T.tm.length=S.tm.length) (hv:∀ q,T.val q=S.val q):Rel C T θ a w:=by
 have hs:∀ i,T.slot i=S.slot i:=fun i=>by
  have:=hv (2 * i);rw [wR,wR] at this;exact (Prod.mk.inj this).1
 have ho:∀ d,T.obj d=S.obj d:=fun d=>ca (hv d.code)
 have hF:∀ f,T.fam f=S.fam f:=fun f=>xt (hv (4 * f+3))
 have hh:∀ d,T.has d↔S.has d:=fun d=>by
  cases d with
  | top d=>show T.obj (.top d)≠none↔S.obj (.top d)≠none; rw [ho]
  | mem f i=>simp only [St.has,hF]
 have hB:∀ b,jm T θ b↔jm S θ b:=fun b=>by simp only [jm,ho]
 have hk:qx C w T θ=qx C w S θ:=by funext b; simp only [qx,hB]
 refine ⟨by rw [hl]; exact h.len,fun i v hi=>?_,fun d o hd1 hd=>?_,fun d hd=>?_,fun d d' o o' v v' b h1 h2=>?_,h.os,h.tape,h.output,h.size,h.frame,fun g t hg=>?_,h.base,h.pin⟩
 ·rw [hs,hk]; exact h.slots i v hi
 ·rw [hk]; rw [ho] at hd; exact h.objs d o ((hh d).1 hd1) hd
 ·exact h.fresh d (fun hx=>hd ((hh d).2 hx))
 ·rw [ho] at h1 h2; exact h.sep d d' o o' v v' b h1 h2
 ·rw [hk]; exact h.globs g t hg
theorem nv (hh:(put o (.tup [])).exe n S=some S') (h:Rel C S θ a w):Rel C S' θ (a.put o.dst undef) w:=
 qu hh h ⟨#[],rfl,rfl⟩
theorem WM {cal:FuncId->Option Cal} (hcal:∀ f c,cal f=some c->qU P C.E f c) {ops:Array Oper} (h:Rel C S θ a w) (N:Nat):∃ c,∀ S',(gop P C.E cal ops.toList o).exe ⟨N,c⟩ S=some S'->∀ (K:Act->World->Prop) (Q:Exit->Act->World->Prop),
  (∀ a' w' θ',Rel C S' θ' a' w'->a'.defers=a.defers->K a' w')->
  (Region.wanted o (yielded ops a.tmps)=true/\o.wp P a w K Q)\/(Region.wanted o (yielded ops a.tmps)=false/\K (a.put o.dst undef) w):=by
 obtain ⟨c,hc⟩:=WE (o:=o) hcal h N;refine ⟨c,fun S' hh K Q hK=>?_⟩;unfold gop at hh;unfold Region.wanted
 split at hh
 ·rename_i hg;rw [hg];exact .inl ⟨rfl,hc S' hh K Q hK⟩
 ·rename_i g want hg;rw [hg]
  split at hh
  ·rename_i t ht;have hh:=mG hh
   have hy:yielded ops a.tmps g=match a.tmps[t]? with | some (.bool b)=>some b | _=>none:=by
    unfold yielded WV at *;rw [Array.getElem?_toList] at ht;rw [ht];rfl
   dsimp only at hh ⊢
   split at hh
   ·rename_i b hb
    have hlt:t<a.tmps.size:=by
     rw [h.len]
     rcases Nat.lt_or_ge t S.tm.length with h1 | h1
     ·exact h1
     ·simp [St.slot,List.getD_eq_getElem?_getD,h1] at hb
    have hv:=h.slots t _ (Array.getElem?_eq_getElem hlt);rw [hb] at hv;have hv:a.tmps[t]=.bool b:=hv;rw [Array.getElem?_eq_getElem hlt,hv] at hy;dsimp only at hy;rw [hy]
    cases b <;> cases want
    ·exact .inl ⟨rfl,hc S' hh K Q hK⟩
    ·exact .inr ⟨rfl,hK _ _ θ (nv hh h) (wc _ _ _)⟩
    ·exact .inr ⟨rfl,hK _ _ θ (nv hh h) (wc _ _ _)⟩
    ·exact .inl ⟨rfl,hc S' hh K Q hK⟩
   ·rename_i hb
    have:yielded ops a.tmps g=none:=by
     rw [hy]
     cases ht' : a.tmps[t]? with
     | none=>rfl
     | some v=>
      have hv:=h.slots t v ht';rw [hb] at hv;obtain ⟨us,rfl,_⟩:=hv;rfl
    rw [this];exact .inr ⟨by cases want <;> rfl,hK _ _ θ (nv hh h) (wc _ _ _)⟩
   ·exact (qw hh).elim
  ·exact (qw hh).elim
theorem cC {cal:FuncId->Option Cal} (hcal:∀ f c,cal f=some c->qU P C.E f c) {ops:Array Oper} {i:Nat} (hi:ops[i]? = some o) (h:Rel C S θ a w) (N:Nat):∃ c,∀ S',(gop P C.E cal ops.toList o).exe ⟨N,c⟩ S=some S'->∀ (K:Act->World->Prop) (Q:Exit->Act->World->Prop),
  (∀ a' w' θ',Rel C S' θ' a' w'->a'.defers=a.defers->K a' w')->wpOp P ops Q i K a w:=by
 obtain ⟨c,hc⟩:=WM (o:=o) (ops:=ops) hcal h N;refine ⟨c,fun S' hh K Q hK=>?_⟩;unfold wpOp;rw [hi];dsimp only
 rcases hc S' hh K Q hK with ⟨h1,h2⟩ | ⟨h1,h2⟩
 ·rw [if_pos h1]; exact .inl h2
 ·rw [if_neg (by simp [h1])]; exact h2
theorem pm {l r:List Nat} {i:Nat} (h:i<l.length):(l++r).getD i 0=l.getD i 0:=by
 simp [List.getD_eq_getElem?_getD,List.getElem?_append_left h]
theorem de {acc:List Nat} {b:Nat->Prop} (hacc:∀ k i,b k->(acc.getD k 0).testBit i=true->b i):∀ (es:List Edge),(∀ e∈es,Region.binds .any e=true->b e.on)->∀ i,(dp acc es).testBit i=true->b i
 | [],_,i,h=>by simp [dp] at h
 | e::es,he,i,h=>by
  have ih:=de hacc es (fun e' h'=>he e' (by simp [h'])) i;simp only [dp,List.foldr_cons] at h
  split at h
  ·rename_i hb;have hon:=he e (by simp) hb;simp only [Nat.testBit_or,Bool.or_eq_true,Nat.testBit_two_pow,decide_eq_true_eq] at h
   rcases h with (h | h) | h
   ·exact h ▸ hon
   ·exact hacc _ _ hon h
   ·exact ih h
  ·exact ih h
theorem dy {b:Nat->Prop}:∀ (os:List Oper) (acc:List Nat),(∀ (k:Nat) (o:Oper),os[k]? = some o->b (acc.length+k)->∀ e∈o.after,Region.binds .any e=true->b e.on)->
  (∀ k i,b k->(acc.getD k 0).testBit i=true->b i)->∀ k i,b k->((oA os acc).getD k 0).testBit i=true->b i
 | [],acc,_,hacc=>hacc
 | o::os,acc,hos,hacc=>by
  refine dy os (acc++[dp acc o.after.toList]) (fun k o' hk hb=>?_) (fun k i hk hi=>?_)
  ·refine hos (k+1) o' hk ?_;simpa [Nat.add_assoc,Nat.add_comm 1 k] using hb
  ·rcases Nat.lt_trichotomy k acc.length with h | h | h
   ·rw [pm h] at hi;exact hacc k i hk hi
   ·subst h;simp only [List.getD_eq_getElem?_getD,List.getElem?_concat_length,Option.getD_some] at hi;exact de hacc _ (fun e he hb=>hos 0 o rfl hk e (by simpa using he) hb) i hi
   ·simp [List.getD_eq_getElem?_getD,List.getElem?_append_right (Nat.le_of_lt h),show ¬ (k - acc.length=0) by omega] at hi
theorem lZ {xs ys:List Nat} (h:meets xs ys=false) {q:Nat} (h1:q∈xs) (h2:q∈ys):False:=by
 simp only [meets,List.any_eq_false] at h;have:=h q h1;simp only [List.any_eq_true,not_exists,not_and,Nat.beq_eq] at this;exact this q h2 rfl
theorem gh {ms:List Nat} {x:List Nat × List Nat} {j m:Nat}:∀ (ys:List (List Nat × List Nat)) (i:Nat),gY ms x j m i ys=true->∀ k y,ys[k]? = some y->i+k<j->mV y x=true->m.testBit (i+k)=true
 | [],i,_,k,y,hk,_,_=>by simp at hk
 | z::ys,i,h,k,y,hk,hlt,hc=>by
  simp only [gY,Bool.and_eq_true] at h
  cases k with
  | zero=>
   simp only [List.getElem?_cons_zero,Option.some.injEq] at hk;subst hk;have h1:Nat.blt i j=true:=by simpa using hlt
   have h2:=h.1;rw [h1,hc] at h2;simpa using h2
  | succ k=>
   have:=gh ys (i+1) h.2 k y hk (by omega) hc
   rwa [show i+1+k=i+(k+1) by omega] at this
theorem yJ {ms:List Nat} {all:List (List Nat × List Nat)}:∀ (xs:List (List Nat × List Nat)) (j:Nat),yk ms all j xs=true->∀ k x,xs[k]? = some x->∀ i y,all[i]? = some y->i<j+k->mV y x=true->(ms.getD (j+k) 0).testBit i=true
 | [],j,_,k,x,hk=>by simp at hk
 | z::xs,j,h,k,x,hk=>by
  simp only [yk,Bool.and_eq_true] at h
  cases k with
  | zero=>
   simp only [List.getElem?_cons_zero,Option.some.injEq] at hk;subst hk;intro i y hi hlt hc;have:=gh all 0 h.1 i y hi (by simpa using hlt) hc;simpa using this
  | succ k=>
   intro i y hi hlt hc;have:=yJ xs (j+1) h.2 k x hk i y hi (by omega) hc
   rwa [show j+1+k=j+(k+1) by omega] at this
theorem dL:∀ (os:List Oper) (j:Nat),eN j os=true->∀ (k:Nat) (o:Oper),os[k]? = some o->∀ e∈o.after,Region.binds .any e=true->e.on<j+k
 | [],j,_,k,o,hk=>by simp at hk
 | z::os,j,h,k,o,hk=>by
  simp only [eN,Bool.and_eq_true] at h
  cases k with
  | zero=>
   simp only [List.getElem?_cons_zero,Option.some.injEq] at hk;subst hk;intro e he hb;have:=List.all_eq_true.1 h.1 e (by simpa using he);rw [hb] at this;simpa using this
  | succ k=>
   intro e he hb;have:=dL os (j+1) h.2 k o hk e he hb;omega
theorem VA {p:Nat->Prop}:∀ n,p n->∃ m,p m/\∀ k,k<m->¬ p k:=by
 intro n
 induction n using Nat.strongRecOn with
 | _ n ih=>
  intro h
  by_cases hk:∃ k,k<n/\p k
  ·obtain ⟨k,h1,h2⟩:=hk;exact ih k h1 h2
  ·exact ⟨n,h,fun k h1 h2=>hk ⟨k,h1,h2⟩⟩
def vAt (Ss:Nat->St) (W:Nat->List Nat) (b:Nat->Bool) (q:Nat):Nat->AV × (Option Ob × Option Fam)
 | 0=>(Ss 0).val q
 | k+1=>if b k=true/\q∈W k then (Ss (k+1)).val q else vAt Ss W b q k
section
variable {Ss:Nat->St} {W:Nat->List Nat} {b b' : Nat->Bool} {q:Nat}
theorem tH {N:Nat} (hf:∀ k,k<N->∀ q,q ∉ W k->(Ss (k+1)).val q=(Ss k).val q):∀ k,k<=N->(∀ j,j<k->q∈W j->b j=true)->vAt Ss W b q k=(Ss k).val q
 | 0,_,_=>rfl
 | k+1,hk,h=>by
  simp only [vAt]
  split
  ·rfl
  ·rename_i hc;have hq:q ∉ W k:=fun hq=>hc ⟨h k (by omega) hq,hq⟩
   rw [tH hf k (by omega) (fun j hj=>h j (by omega)),hf k (by omega) q hq]
theorem md {i:Nat}:∀ k,i<=k->(∀ j,i<=j->j<k->q∈W j->b j=false)->vAt Ss W b q k=vAt Ss W b q i
 | 0,hk,_=>by rw [show i=0 by omega]
 | k+1,hk,h=>by
  by_cases e:i=k+1
  ·rw [e]
  ·simp only [vAt]
   split
   ·rename_i hc;rw [h k (by omega) (by omega) hc.2] at hc
    cases hc.1
   ·exact md k (by omega) (fun j h1 h2=>h j h1 (by omega))
theorem bX:∀ k,(∀ j,j<k->q∈W j->b j=b' j)->vAt Ss W b q k=vAt Ss W b' q k
 | 0,_=>rfl
 | k+1,h=>by
  simp only [vAt];rw [bX k (fun j hj=>h j (by omega))]
  by_cases hq:q∈W k
  ·rw [h k (by omega) hq]
  ·simp [hq]
end
theorem Vw {N:Nat} {cal:FuncId->Option Cal} (hcal:∀ f c,cal f=some c->qU P C.E f c) {ops:Array Oper} {Q:Exit->Act->World->Prop} {Ss:Nat->St} {lgs:List (List Nat × List Nat)}
  (hlen:lgs.length=ops.size) (hord:nW ops.toList lgs=true)
  (hp:∀ (k:Nat) (o:Oper),ops[k]? = some o->∃ R W,lgs[k]? = some (R,W)/\∀ c,Loc ⟨N,c⟩ (gop P C.E cal ops.toList o) (Ss k) (Ss (k+1)) R W)
  {df:List Deferred} (hQ:∀ a' w' θ',Rel C (Ss ops.size) θ' a' w'->a'.defers=df->Q .normal a' w') :
  ∀ (fuel:Nat) (l:List Nat) (listed:Array Bool) (T:St) (θ:Nm->Option Value) (a:Act) (w:World),l.Nodup->l.length=fuel->listed.size=ops.size->(∀ j,j∈l↔j<ops.size/\listed.getD j true=false)->
   (∀ (j:Nat) (o:Oper),ops[j]? = some o->listed.getD j false=true->∀ e∈o.after,Region.binds .any e=true->listed.getD e.on false=true)->
   T.tm.length=(Ss 0).tm.length->(∀ q,T.val q=vAt Ss (fun k=>(lgs.getD k ([],[])).2) (fun j=>listed.getD j false) q ops.size)->
   Rel C T θ a w->a.defers=df->wpAny P .any ops Q fuel listed a w:=by
 unfold nW at hord;rw [Bool.and_eq_true] at hord;obtain ⟨hback,hord⟩:=hord
 have hR:∀ (k:Nat) (o:Oper),ops[k]? = some o->∀ c,Loc ⟨N,c⟩ (gop P C.E cal ops.toList o) (Ss k) (Ss (k+1)) (lgs.getD k ([],[])).1 (lgs.getD k ([],[])).2:=by
  intro k o hk;obtain ⟨R,W,h1,h2⟩:=hp k o hk;simpa [List.getD_eq_getElem?_getD,h1] using h2
 have hLen:∀ k,k<=ops.size->(Ss k).tm.length=(Ss 0).tm.length:=by
  intro k
  induction k with
  | zero=>intro _; rfl
  | succ k ih=>
   intro hk;rw [(hR k _ (Array.getElem?_eq_getElem (by omega)) 0).1];exact ih (by omega)
 have hFr:∀ k,k<ops.size->∀ q,q ∉ (lgs.getD k ([],[])).2->(Ss (k+1)).val q=(Ss k).val q:=fun k hk q hq=>(hR k _ (Array.getElem?_eq_getElem hk) 0).2.1 q hq
 have getDtf:∀ (listed:Array Bool) (j:Nat),j<listed.size->listed.getD j true=listed.getD j false:=fun listed j hj=>by simp [hj]
 have hcl:∀ (listed:Array Bool),(∀ (j:Nat) (o:Oper),ops[j]? = some o->listed.getD j false=true->∀ e∈o.after,Region.binds .any e=true->listed.getD e.on false=true)->
   ∀ i j,i<j->j<ops.size->mV (lgs.getD i ([],[])) (lgs.getD j ([],[]))=true->(listed.getD j false=true\/∃ o,ops[j]? = some o/\∀ e∈o.after,Region.binds .any e=true->listed.getD e.on false=true)->listed.getD i false=true:=by
  intro listed hclosed i j hij hj hc hor;have hi:i<lgs.length:=by omega
  have hjl:j<lgs.length:=by omega
  have hx:=yJ lgs 0 hord j _ (List.getElem?_eq_getElem hjl) i _ (List.getElem?_eq_getElem hi) (by omega) (by simpa [List.getD_eq_getElem?_getD,hi,hjl] using hc);rw [Nat.zero_add] at hx
  have hb:(fun k=>listed.getD k false=true\/k=j) i:=by
   refine dy (b:=fun k=>listed.getD k false=true\/k=j) ops.toList [] (fun k o hk hb e he hbd=>?_) (fun k i _ hi=>by simp at hi) j i (.inr rfl) hx;rw [Array.getElem?_toList] at hk;simp only [List.length_nil,Nat.zero_add] at hb
   rcases hb with hb | rfl
   ·exact .inl (hclosed k o hk hb e he hbd)
   ·rcases hor with h1 | ⟨o',h1,h2⟩
    ·exact .inl (hclosed k o hk h1 e he hbd)
    ·rw [hk] at h1
     cases h1
     exact .inl (h2 e he hbd)
  rcases hb with hb | hb
  ·exact hb
  ·omega
 intro fuel
 induction fuel with
 | zero=>
  intro l listed T θ a w hnd hll hsz hl hclosed hTl hTv hrel hd;have hl0:l=[]:=List.length_eq_zero_iff.1 hll;subst hl0
  have hall:∀ j,j<ops.size->listed.getD j false=true:=fun j hj=>by
   have:=mt (hl j).2 (by simp);simp only [hj,true_and,Bool.not_eq_false] at this;rw [getDtf listed j (by omega)] at this;exact this
  refine ⟨?_,hQ a w θ (hrel.congr ?_ ?_) hd⟩
  ·rw [List.eq_nil_iff_forall_not_mem];intro j hj;obtain ⟨h1,o,ho,_⟩:=mem_ready.1 hj;have hjlt:=(Array.getElem?_eq_some_iff.1 ho).1;have:=(hl j).2 ⟨hjlt,h1⟩;simp at this
  ·rw [hLen _ (Nat.le_refl _),hTl]
  ·intro q;rw [hTv q];exact (tH hFr _ (Nat.le_refl _) (fun j hj _=>hall j hj)).symm
 | succ fuel ih=>
  intro l listed T θ a w hnd hll hsz hl hclosed hTl hTv hrel hd;refine ⟨fun hnil=>?_,fun i hi=>?_⟩
  ·
   exfalso
   have hex:∃ j,j<ops.size/\listed.getD j false=false:=by
    cases l with
    | nil=>simp at hll
    | cons j l=>
     obtain ⟨h1,h2⟩:=(hl j).1 (by simp);exact ⟨j,h1,by rw [getDtf listed j (by omega)] at h2; exact h2⟩
   obtain ⟨j₀,hj₀⟩:=hex;obtain ⟨j,⟨h1,h2⟩,h3⟩:=VA (p:=fun j=>j<ops.size/\listed.getD j false=false) j₀ hj₀
   have:j∈Region.ready .any ops listed:=by
    refine mem_ready.2 ⟨by rw [getDtf listed j (by omega)]; exact h2,_,Array.getElem?_eq_getElem h1,fun e he hbd=>?_⟩;have hlt:=dL ops.toList 0 hback j _ (by rw [Array.getElem?_toList]; exact Array.getElem?_eq_getElem h1) e he hbd;rw [Nat.zero_add] at hlt
    cases hon:listed.getD e.on false with
    | true=>rfl
    | false=>exact (h3 e.on hlt ⟨by omega,hon⟩).elim
   rw [hnil] at this
   cases this
  ·obtain ⟨h1,o,ho,haf⟩:=mem_ready.1 hi;have hilt:=(Array.getElem?_eq_some_iff.1 ho).1;have hil:i∈l:=(hl i).2 ⟨hilt,h1⟩;have hif:listed.getD i false=false:=by rw [getDtf listed i (by omega)] at h1; exact h1
   obtain ⟨cc,hcc⟩:=cC hcal ho hrel N;have hloc:=hR i o ho cc;have hahead:∀ j,j<i->mV (lgs.getD j ([],[])) (lgs.getD i ([],[]))=true->listed.getD j false=true:=fun j hj hc=>hcl listed hclosed j i hj hilt hc (.inr ⟨o,ho,haf⟩)
   have hbehind:∀ j,i<j->j<ops.size->mV (lgs.getD i ([],[])) (lgs.getD j ([],[]))=true->listed.getD j false=false:=fun j hj hjs hc=>by
    cases hb:listed.getD j false with
    | false=>rfl
    | true=>rw [hcl listed hclosed i j hj hjs hc (.inl hb)] at hif; cases hif
   have meet:∀ (xs ys:List Nat) (q:Nat),q∈xs->q∈ys->meets xs ys=true:=fun xs ys q h1 h2=>by
    cases hm:meets xs ys with
    | true=>rfl
    | false=>exact (lZ hm h1 h2).elim
   have hagree:∀ q∈(lgs.getD i ([],[])).1,T.val q=(Ss i).val q:=fun q hq=>by
    rw [hTv q,md (i:=i) _ (by omega) (fun j hj hjs hw=>?_)]
    ·refine tH hFr i (by omega) (fun j hj hw=>hahead j hj ?_);unfold mV;rw [meet _ _ q hw hq];rfl
    ·rcases Nat.lt_or_ge i j with h2 | h2
     ·refine hbehind j h2 hjs ?_;unfold mV;rw [meet _ _ q hw hq]
      cases meets (lgs.getD i ([],[])).2 (lgs.getD j ([],[])).1 <;> cases meets (lgs.getD i ([],[])).2 (lgs.getD j ([],[])).2 <;> rfl
     ·rw [show j=i by omega]; exact hif
   obtain ⟨T',k1,k2,k3,k4⟩:=hloc.2.2 T (by rw [hTl,hLen i (by omega)]) hagree;refine hcc T' k1 _ Q (fun a' w' θ' hrel' hd'=>?_)
   have hset:∀ j,j<ops.size->(listed.setIfInBounds i true).getD j false=if j=i then true else listed.getD j false:=fun j hj=>by
    by_cases e:j=i
    ·subst e; simp [hsz,hj]
    ·rw [getD_set_ne false (fun h=>e h.symm),if_neg e]
   have hset' : ∀ j,(listed.setIfInBounds i true).getD j false=true↔j=i\/listed.getD j false=true:=fun j=>by
    by_cases e:j=i
    ·subst e; simp [hsz,hilt]
    ·rw [getD_set_ne false (fun h=>e h.symm)]; simp [e]
   refine ih (l.erase i) (listed.setIfInBounds i true) T' θ' a' w' (hnd.erase i) ?_ (by simp [hsz]) (fun j=>?_) (fun j o' hj hb e he hbd=>?_) (by rw [k2,hTl]) (fun q=>?_) hrel' (hd'.trans hd)
   ·rw [List.length_erase_of_mem hil,hll]; rfl
   ·rw [hnd.mem_erase_iff,hl j];constructor
    ·rintro ⟨h2,h3,h4⟩
     exact ⟨h3,by rw [getD_set_ne true (fun h=>h2 h.symm)]; exact h4⟩
    ·rintro ⟨h3,h4⟩
     have h2:j≠i:=fun e=>by subst e; simp [hsz,hilt] at h4
     rw [getD_set_ne true (fun h=>h2 h.symm)] at h4;exact ⟨h2,h3,h4⟩
   ·rw [hset'] at hb ⊢
    rcases hb with rfl | hb
    ·rw [ho] at hj
     cases hj
     exact .inr (haf e he hbd)
    ·exact .inr (hclosed j o' hj hb e he hbd)
   ·by_cases hq:q∈(lgs.getD i ([],[])).2
    ·rw [k3 q hq];rw [md (i:=i+1) _ (by omega) (fun j hj hjs hw=>?_)]
     ·simp only [vAt];rw [if_pos ⟨(hset' i).2 (.inl rfl),hq⟩]
     ·rw [hset j hjs,if_neg (by omega)];refine hbehind j (by omega) hjs ?_;unfold mV;rw [meet (lgs.getD i ([],[])).2 (lgs.getD j ([],[])).2 q hq hw]
      cases meets (lgs.getD i ([],[])).2 (lgs.getD j ([],[])).1 <;> rfl
    ·rw [k4 q hq,hTv q];refine bX _ (fun j hj hw=>?_);rw [hset j hj]
     split
     ·rename_i e;subst e;exact (hq hw).elim
     ·rfl
theorem tJ {cal:FuncId->Option Cal} (hcal:∀ f c,cal f=some c->qU P C.E f c) {ops:Array Oper} {Q:Exit->Act->World->Prop} {N:Nat} {R:Type} {K:St->Option R} {x:R} {df:List Deferred}
  (hQ:∀ S' a' w' θ',K S' = some x->Rel C S' θ' a' w'->a'.defers=df->Q .normal a' w') :
  ∀ (os:List Oper) (k:Nat) (S:St) (θ:Nm->Option Value) (a:Act) (w:World),(∀ j o,os[j]? = some o->ops[k+j]? = some o)->kI N P C.E cal ops.toList k os S K=some x->Rel C S θ a w->a.defers=df->wpOps P ops Q (List.range' k os.length) a w
 | [],k,S,θ,a,w,hk,hh,hrel,hd=>hQ S a w θ hh hrel hd
 | o::os,k,S,θ,a,w,hk,hh,hrel,hd=>by
  rw [List.length_cons,List.range'_succ,wpOps_cons];have hi:=hk 0 o rfl;rw [Nat.add_zero] at hi;obtain ⟨c,hc⟩:=cC hcal hi hrel N;obtain ⟨S',h1,h2⟩:=vk c _ _ _ hh;have h3:=fZ h2;refine hc S' h1 _ Q (fun a' w' θ' hrel' hd'=>?_)
  exact tJ hcal hQ os (k+1) S' θ' a' w' (fun j o' hj=>by
   have:=hk (j+1) o' (by simpa using hj)
   rwa [show k+(j+1)=k+1+j by omega] at this) h3 hrel' (hd'.trans hd)
theorem ak {cal:FuncId->Option Cal} (hcal:∀ f c,cal f=some c->qU P C.E f c) (hm:P.follows .mixedOrders=true) {N:Nat} {id:Nat} {ops:Array Oper} {draw:Bool} {R:Type} {K:St->Option R} {x:R} (h:Rel C S θ a w)
  (hh:QH N P C.E cal ops.toList draw S K=some x) (Q:Exit->Act->World->Prop) (hQ:∀ S' a' w' θ',K S' = some x->Rel C S' θ' a' w'->a'.defers=a.defers->Q .normal a' w'):(Code.region id ops draw).wp P Q a w:=by
 cases draw with
 | false=>
  refine wp_region ?_;rw [List.range_eq_range',<-Array.length_toList];exact tJ hcal hQ ops.toList 0 S θ a w (fun j o hj=>by simpa using hj) hh h rfl
 | true=>
  obtain ⟨Ss,lgs,hk,hlen,h0,hp⟩:=uk _ _ _ _ _ _ hh;rw [Array.length_toList] at hk hlen;simp only [List.append_nil,List.reverse_reverse] at hk
  split at hk
  ·rename_i hord;refine wp_region_any hm ?_;refine Vw hcal hlen hord (fun k o hko=>hp k o (by rw [Array.getElem?_toList]; exact hko)) (fun a' w' θ' hr hd=>hQ _ a' w' θ' hk hr hd) _ (List.range ops.size) _ S θ a _ List.nodup_range (by simp) (by simp) (fun j=>?_) (fun j o _ hj=>?_) (by rw [h0]) (fun q=>?_) (h.world rfl rfl rfl ⟨rfl,.inr trivial⟩) rfl
   ·rw [List.mem_range];constructor
    ·intro hj; exact ⟨hj,by simp [hj]⟩
    ·exact fun hj=>hj.1
   ·rw [show (Array.replicate ops.size false).getD j false=false by by_cases hj' : j<ops.size <;> simp [hj']] at hj
    cases hj
   ·rw [md (i:=0) _ (by omega) (fun j _ hj _=>by simp [hj])];simp only [vAt,h0]
  ·cases hk
end
end Go.Am
end
section
set_option linter.unusedVariables false
set_option linter.unusedSimpArgs false
namespace Go.Am
open Go.RowKit
inductive Ok where
 | box (s:Sh)
 | row (e:TypeId) (k:IntKind)
 | rows (e:TypeId) (s:Sh)
 | iter (f:Nat)
def Ok.isRow:Ok->Bool
 | .row _ _=>true
 | .rows _ _=>true
 | _=>false
def Ok.ins (fs:List zZ):Ok->Bool
 | .box s=>inF fs s
 | .row _ _=>true
 | .rows _ s=>inF fs s
 | .iter f=>inF fs (.mp f)
inductive Tk where
 | val (s:Sh)
 | obj (k:Ok)
 | keep (k:Ok)
 | keepR (k:Ok)
 | keepP (l:List Sh) (p:Nat) (k:Ok)
abbrev Tes:=List (Nat × Tk)
structure Tpl where
 fs:List zZ
 es:Tes
 fx:List (Nat × AV)
def Tk.ins (fs:List zZ):Tk->Bool
 | .val s=>inF fs s
 | .obj k=>k.ins fs
 | .keep k=>k.ins fs
 | .keepR k=>k.ins fs
 | .keepP l _ k=>ur fs l && k.ins fs
def wj:Tes->List Nat
 | []=>[]
 | (i,.keep _)::r=>i::wj r
 | (i,.keepR _)::r=>i::wj r
 | (i,.keepP _ _ _)::r=>i::wj r
 | _::r=>wj r
def QR (ks:List Nat):AV->Bool
 | .ref (.top d) _=>zS ks d
 | .fn _=>true
 | _=>false
def Zn (ks:List Nat):AV->Bool
 | .clo _ caps=>caps.all (QR ks)
 | v=>QR ks v
def eq1:AV->AV->Bool
 | .ref (.top d) o,.ref (.top d') o'=>Nat.beq d d' && Nat.beq o o'
 | .fn f,.fn g=>Nat.beq f g
 | _,_=>false
def eq1s:List AV->List AV->Bool
 | [],[]=>true
 | a::as,b::bs=>eq1 a b && eq1s as bs
 | _,_=>false
def eqF:AV->AV->Bool
 | .clo f as,.clo g bs=>Nat.beq f g && eq1s as bs
 | a,b=>eq1 a b
def Tpl.ok (T:Tpl):Bool:=(T.fs.all fun D=>tq T.fs D) && (xm T.fs && ((T.es.all fun p=>p.2.ins T.fs) && T.fx.all fun p=>Zn (wj T.es) p.2))
def okV (b:Bool) (x:AV):Option AV:=match b with | true=>some x | false=>none
def kU (x:AV) (l:Option (List AV)):Option (List AV):=match l with | some l=>some (x::l) | none=>none
def kb (b:Bool) (l:Option (List AV)):Option (List AV):=match b with | true=>none | false=>l
def kG (S:St) (s:Sh) (v:AV):Option AV:=
 match s,v with
 | .fs k,.own d=>match S.obj d with
  | some (.row false _ k' xs)=>okV (k == k') (.fs k xs)
  | _=>none
 | .fv s,.own d=>match S.obj d with
  | some (.rows false _ s' xs)=>okV (vZ s s') (.fv s xs)
  | _=>none
 | s,v=>okV (jP s (nrm s v)) (nrm s v)
def jk (S:St) (d:Nat):Ok->Option AV
 | .box s=>match S.obj (.top d) with
  | some (.box t)=>okV (jP s (nrm s t)) (nrm s t)
  | _=>none
 | .row e k=>match S.obj (.top d) with
  | some o=>match fq k o with
   | some (e',xs)=>okV (Nat.beq e e') (.fs k xs)
   | none=>none
  | none=>none
 | .rows e s=>match S.obj (.top d) with
  | some o=>match Jr s o with
   | some (e',xs)=>okV (Nat.beq e e') (.fv s xs)
   | none=>none
  | none=>none
 | .iter f=>match S.obj (.top d) with
  | some (.iter g i since seen c0)=>okV (Nat.beq f g) (.tup [.int .i64 i,.int .i64 since,.fs .i64 seen,.int .i64 c0])
  | _=>none
def ko:Ok->AV->Ob
 | .box s,x=>.box (eta s x)
 | .row e k,x=>.row true e k x.qq
 | .rows e s,x=>.rows true e s x.qz
 | .iter f,x=>.iter f (getE x.qz 0).toInt.toNat (getE x.qz 1).toInt (getE x.qz 2).qq (getE x.qz 3).toInt
def nm (i:Nat):Nat:=200000+i
def ry (k:Ok) (d:Nat):AV:=match k.isRow with | true=>.own (.top d) | false=>.ref (.top d) 0
def yb (S:St) (i:Nat) (k:Ok):Option (AV × Option Nat):=
 match S.slot i with
 | .nils=>match k with
  | .row _ kd=>some (.fs kd [],none)
  | .rows _ s=>some (.fv s [],none)
  | _=>none
 | .own d=>match d with
  | .top d=>match k.isRow with
   | true=>match jk S d k with
    | some x=>some (x,some d)
    | none=>none
   | false=>none
  | .mem _ _=>none
 | .ref d off=>match d with
  | .top d=>match Nat.beq off 0 && !k.isRow with
   | true=>match jk S d k with
    | some x=>some (x,some d)
    | none=>none
   | false=>none
  | .mem _ _=>none
 | _=>none
def xF (S:St) (k:Ok) (t:AV):Option (AV × Option Nat):=match t with
 | .nils=>match k with
  | .row _ kd=>some (.fs kd [],none)
  | .rows _ s=>some (.fv s [],none)
  | _=>none
 | .own d=>match d with
  | .top d=>match k.isRow with
   | true=>match jk S d k with
    | some x=>some (x,some d)
    | none=>none
   | false=>none
  | .mem _ _=>none
 | _=>none
def kW (S:St):Tes->List Nat->List Nat->Option (List AV)
 | [],_,_=>some []
 | (i,t)::r,ns,ds=>match t with
  | .val s=>match kG S s (S.slot i) with
   | some x=>kU x (kW S r ns ds)
   | none=>none
  | .obj k=>match yb S i k with
   | some (x,none)=>kb (zS ns (nm i)) (kU x (kW S r (nm i::ns) ds))
   | some (x,some d)=>kb (zS ns (nm i) || zS ds d) (kU x (kW S r (nm i::ns) (d::ds)))
   | none=>none
  | .keep k=>match jk S i k with
   | some x=>kb (zS ns i || zS ds i) (kU x (kW S r (i::ns) (i::ds)))
   | none=>none
  | .keepR k=>match S.obj (.top i) with
   | some (.box t)=>match xF S k t with
    | some (x,none)=>kb (zS ns i || (zS ns (nm i) || zS ds i)) (kU x (kW S r (i::nm i::ns) (i::ds)))
    | some (x,some d)=>kb (zS ns i || (zS ns (nm i) || (zS (d::ds) i || zS ds d))) (kU x (kW S r (i::nm i::ns) (i::d::ds)))
    | none=>none
   | _=>none
  | .keepP l p k=>match S.obj (.top i) with
   | some (.box t)=>match t with
    | .agg cs=>match cs[p]? with
     | some c=>match xF S k c with
      | some (x,none)=>match okV (jP (.agg l) (nrm (.agg l) (.agg (cs.set p x)))) (nrm (.agg l) (.agg (cs.set p x))) with
       | some y=>kb (zS ns i || (zS ns (nm i) || zS ds i)) (kU y (kW S r (i::nm i::ns) (i::ds)))
       | none=>none
      | some (x,some d)=>match okV (jP (.agg l) (nrm (.agg l) (.agg (cs.set p x)))) (nrm (.agg l) (.agg (cs.set p x))) with
       | some y=>kb (zS ns i || (zS ns (nm i) || (zS (d::ds) i || zS ds d))) (kU y (kW S r (i::nm i::ns) (i::d::ds)))
       | none=>none
      | none=>none
     | none=>none
    | _=>none
   | _=>none
def iI (S:St):List zZ->Option (List AV)
 | []=>some []
 | D::r=>match S.fam D.f with
  | some F=>match Nat.beq F.e D.e && (vZ F.s D.s && Qw F.ks D.ks) with
   | true=>kU (.tup F.l) (iI S r)
   | false=>none
  | none=>none
def se (x:AV) (p:Nat) (y:AV):AV:=match x with | .agg cs=>.agg (cs.set p y) | x=>x
def VY (i:Nat) (x:AV) (S:St):Tk->St
 | .val s=>S.qe i (eta s x)
 | .obj k=>(S.qW (nm i) (ko k x)).qe i (ry k (nm i))
 | .keep k=>S.qW i (ko k x)
 | .keepR k=>(S.qW (nm i) (ko k x)).qW i (.box (.own (.top (nm i))))
 | .keepP l p k=>(S.qW (nm i) (ko k (x.item p))).qW i (.box (se (eta (.agg l) x) p (.own (.top (nm i)))))
def xK:Tes->List AV->St->St
 | [],_,S=>S
 | (i,t)::r,d,S=>xK r d.tail (VY i (d.headD .undef) S t)
def Zm:Tes->List AV->Nat->St->St
 | [],_,_,S=>S
 | (i,t)::r,d,j,S=>Zm r d (j+1) (VY i (getE d j) S t)
def cg:List zZ->List AV->Nat->List (Nat × Fam)
 | [],_,_=>[]
 | D::r,d,j=>(D.f,⟨D.e,D.s,D.ks,(getE d j).qz⟩)::cg r d (j+1)
def Qm:List (Nat × AV)->St->St
 | [],S=>S
 | (i,v)::r,S=>Qm r (S.qe i v)
def dI (m:Nat) (fs:List zZ) (d:List AV):St:=⟨List.replicate m .undef,[],vj fs d⟩
def con (m:Nat) (T:Tpl) (d:List AV):St:=Qm T.fx (Zm T.es d T.fs.length ⟨List.replicate m .undef,[],cg T.fs d 0⟩)
structure Pn where
 tops:List Nat
 fams:List Nat
def Pn.ok (pn:Pn) (T:Tpl):Bool:=(pn.tops.all fun d=>zS (wj T.es) d) && pn.fams.all fun f=>T.fs.any fun D=>Nat.beq f D.f
def Qi (m:Nat) (pn:Pn) (T:Tpl) (S:St):Option (List AV):=match Nat.beq S.tm.length m && (T.ok && (pn.ok T && T.fx.all fun p=>eqF p.2 (S.slot p.1))) with
 | true=>match iI S T.fs with
  | some f=>match kW S T.es [] [] with
   | some l=>some (f++l)
   | none=>none
  | none=>none
 | false=>none
theorem ir:∀ (tp:Tes) (d:List AV) (j:Nat) (S:St),Zm tp d j S=xK tp (d.drop j) S
 | [],d,j,S=>rfl
 | (i,t)::r,d,j,S=>by
  simp only [Zm,xK];rw [ir r d (j+1),List.tail_drop]
  congr 2
  rw [List.headD_eq_head?_getD,List.head?_drop,getE,List.getD_eq_getElem?_getD]
theorem be:∀ (fs:List zZ) (p l:List AV),fs.length<=l.length->cg fs (p++l) p.length=vj fs l
 | [],p,l,h=>rfl
 | D::r,p,[],h=>by simp at h
 | D::r,p,x::l,h=>by
  have ih:=be r (p++[x]) l (by simpa using h);simp only [List.append_assoc,List.length_append,List.length_cons,List.length_nil,Nat.zero_add,List.cons_append,List.nil_append] at ih;simp [cg,vj,ih,getE]
theorem zK {b:Bool} {x y:AV} (h:okV b x=some y):b=true/\x=y:=by
 cases b with
 | true=>cases h; exact ⟨rfl,rfl⟩
 | false=>cases h
theorem zO {x:AV} {l:Option (List AV)} {y:List AV} (h:kU x l=some y):∃ r,l=some r/\y=x::r:=by
 cases l with
 | none=>cases h
 | some r=>cases h; exact ⟨r,rfl,rfl⟩
theorem wF {b:Bool} {l:Option (List AV)} {y:List AV} (h:kb b l=some y):b=false/\l=some y:=by
 cases b with
 | true=>cases h
 | false=>exact ⟨rfl,h⟩
theorem eq1_eq {a b:AV} (h:eq1 a b=true):a=b:=by
 unfold eq1 at h
 split at h
 ·rw [Bool.and_eq_true] at h;rw [Nat.eq_of_beq_eq_true h.1,Nat.eq_of_beq_eq_true h.2]
 ·rw [Nat.eq_of_beq_eq_true h]
 ·cases h
theorem eq1s_eq:∀ {a b:List AV},eq1s a b=true->a=b
 | [],[],_=>rfl
 | a::as,b::bs,h=>by
  have h:(eq1 a b && eq1s as bs)=true:=h;rw [Bool.and_eq_true] at h;rw [eq1_eq h.1,eq1s_eq h.2]
 | [],_::_,h=>by cases (show false=true from h)
 | _::_,[],h=>by cases (show false=true from h)
theorem Vo {a b:AV} (h:eqF a b=true):a=b:=by
 unfold eqF at h
 split at h
 ·rw [Bool.and_eq_true] at h;rw [Nat.eq_of_beq_eq_true h.1,eq1s_eq h.2]
 ·exact eq1_eq h
theorem oz {a b:Option Sh} (h:Qw a b=true):a=b:=by
 cases a with
 | none=>cases b with
  | none=>rfl
  | some t=>cases h
 | some s=>cases b with
  | none=>cases h
  | some t=>rw [wD (show vZ s t=true from h)]
section
variable {C:Ctx} {S S' T:St} {θ θ' η:Nm->Option Value} {a:Act} {w w' : World} {n:Nat} {P:Program} {o:Oper} {fs:List zZ}
theorem gB (h:Rel C S θ a w) {s:Sh} {v x:AV} {u:Value} (hv:CV w (qx C w S θ) θ v u) (hd:kG S s v=some x):WT s x/\CV w (qx C w S θ) θ x u:=by
 unfold kG at hd
 split at hd
 ·rename_i k d'
  split at hd <;> first | (cases hd; done) | skip
  rename_i e' k' xs ho;obtain ⟨h2,rfl⟩:=zK hd;have hk:k=k':=by simpa using h2
  subst hk;obtain ⟨h5,_⟩:=hv;obtain ⟨v',h3,_,h4⟩:=h.ob ho h5;rw [h3] at h5
  cases h5
  exact ⟨⟨xs,rfl⟩,h4 rfl⟩
 ·rename_i k d'
  split at hd <;> first | (cases hd; done) | skip
  rename_i e' k' xs ho;obtain ⟨h2,rfl⟩:=zK hd;have hk:=wD h2;subst hk;obtain ⟨h5,_⟩:=hv;obtain ⟨v',h3,_,_,h4⟩:=h.ob ho h5;rw [h3] at h5
  cases h5
  exact ⟨⟨xs,rfl⟩,h4 rfl⟩
 ·obtain ⟨h2,rfl⟩:=zK hd;exact ⟨jd _ _ h2,kF _ _ _ hv⟩
theorem ma (h:Rel C S θ a w) {d:Nat} {k:Ok} {x:AV} (hx:jk S d k=some x) :
  ∃ o v,S.obj (.top d)=some o/\o.isOwn=true/\θ (.top d)=some v/\(ko k x).isOwn=true/\
   ∀ (ok' : Nat->Prop) (η:Nm->Option Value) (n:Nm),(∀ b,qx C w S θ b->ok' b)->jV fs θ η->k.ins fs=true->η n=some v->OV C w ok' η n (ko k x):=by
 cases k with
 | box s=>
  simp only [jk] at hx
  split at hx <;> first | (cases hx; done) | skip
  rename_i t ho;obtain ⟨h2,rfl⟩:=zK hx;have hov:=h.obT ho;obtain ⟨g,e,fr,v,h3,_,_,_,_,h6⟩:=id hov;refine ⟨_,_,ho,rfl,h3,rfl,fun ok' η n hok hθ hi hn=>?_⟩;refine yu (C':=C) (A:=fun s=>inF fs s=true) (fun s x v hA hw hc=>ja hθ hok s x v hw hA hc) (s:=s) hi hov rfl (jd _ _ h2) (fun v hv=>?_) (fun g' hg'=>?_)
  ·rw [h3] at hv; cases hv; exact hn
  ·rw [h3] at hg'; cases hg'; exact h6
 | row e k=>
  simp only [jk] at hx
  split at hx <;> first | (cases hx; done) | skip
  rename_i ob ho
  split at hx <;> first | (cases hx; done) | skip
  rename_i e' xs has;obtain ⟨h2,rfl⟩:=zK hx;have h2:e=e':=by simpa using h2
  subst h2;obtain ⟨hisO,v,h3,h4⟩:=kv h ho (wM ho) has;exact ⟨_,v,ho,hisO,h3,rfl,fun ok' η n hok hθ hi hn=>⟨v,hn,fun _=>h4,fun h=>by cases h⟩⟩
 | rows e s=>
  simp only [jk] at hx
  split at hx <;> first | (cases hx; done) | skip
  rename_i ob ho
  split at hx <;> first | (cases hx; done) | skip
  rename_i e' xs has;obtain ⟨h2,rfl⟩:=zK hx;have h2:e=e':=by simpa using h2
  subst h2;obtain ⟨hisO,v,cs,h3,hw,h4,h5⟩:=ph h ho (wM ho) has;exact ⟨_,v,ho,hisO,h3,rfl,fun ok' η n hok hθ hi hn=>⟨v,hn,hw,fun _=>⟨cs,fe hθ hok hi hw h4,h5⟩,fun h=>by cases h⟩⟩
 | iter f=>
  simp only [jk] at hx
  split at hx <;> first | (cases hx; done) | skip
  rename_i g i since seen c0 ho;obtain ⟨h2,rfl⟩:=zK hx;have h2:f=g:=by simpa using h2
  subst h2;obtain ⟨g,b,sn,sq,cn,h3,h4,h5,h6⟩:=h.obT ho;refine ⟨_,_,ho,rfl,h3,rfl,fun ok' η n hok hθ hi hn=>?_⟩;obtain ⟨D,hD,rfl⟩:=gR (show (fs.any fun D=>Nat.beq f D.f)=true from hi);exact ⟨g,b,sn,sq,cn,hn,h4,hθ D hD _ _ h5,h6⟩
structure RelK (C:Ctx) (ok:Nat->Prop) (S:St) (θ:Nm->Option Value) (a:Act) (w:World):Prop where
 len:a.tmps.size=S.tm.length
 slots:∀ (i:Nat) v,a.tmps[i]? = some v->CV w ok θ (S.slot i) v
 objs:∀ d o,S.has d->S.obj d=some o->OV C w ok θ d o
 fresh:∀ d,¬ S.has d->θ d=none
 sep:∀ d d' o o' v v' b,S.obj d=some o->S.obj d' = some o'->o.isOwn=true->o'.isOwn=true->d≠d'->θ d=some v->θ d' = some v'->blk v=some b->blk v'≠some b
 globs:∀ g t,C.E.glob g=some t->CV w ok θ (.fp t) (.pointer (some ⟨g,0,none⟩))
 base:∀ d v,θ d=some v->vi v
theorem RelK.fill {ok:Nat->Prop} (h:RelK C ok S θ a w) {i:Nat} {x:AV} (hx:∀ v,a.tmps[i]? = some v->CV w ok θ x v):RelK C ok (S.qe i x) θ a w:=by
 refine ⟨by rw [kg]; exact h.len,fun j v hj=>?_,fun d o hh ho=>h.objs d o ((jj _ _ _ _).1 hh) ho,fun d hd=>h.fresh d (fun hh=>hd ((jj _ _ _ _).2 hh)),h.sep,h.globs,h.base⟩
 by_cases e:i=j
 ·subst e;rw [wx _ _ _ (by rw [<-h.len]; exact (Array.getElem?_eq_some_iff.1 hj).1)];exact hx v hj
 ·rw [wH _ _ _ _ e];exact h.slots j v hj
theorem RelK.add {ok:Nat->Prop} (h:RelK C ok S θ a w) {d:Nat} {v:Value} {o:Ob} (hd:S.obj (.top d)=none) (ho:OV C w ok (upd θ (.top d) v) (.top d) o) (hb:vi v)
  (hsep:o.isOwn=true->∀ d' o' v' b,S.obj d' = some o'->o'.isOwn=true->θ d' = some v'->blk v=some b->blk v'≠some b):RelK C ok (S.qW d o) (upd θ (.top d) v) a w:=by
 have hnh:¬ S.has (.top d):=fun hh=>hh hd
 have hk:vY w w ok ok θ (upd θ (.top d) v):=⟨fun _ h=>h,fun _ _=>rfl,fun e x he=>by
  by_cases hed:e=.top d
  ·subst hed; rw [h.fresh _ hnh] at he; cases he
  ·rw [zP _ _ hed]; exact he⟩
 refine ⟨h.len,fun i v' hi=>qE hk _ _ (h.slots i v' hi),fun e o' hh he=>?_,fun e he=>?_,fun e e' o1 o2 v1 v2 b h1 h2 h3 h4 hne h5 h6 h7=>?_,fun g t hg=>qE hk _ _ (h.globs g t hg),fun e v' he=>?_⟩
 ·by_cases hed:e=.top d
  ·subst hed; rw [qZ] at he; cases he; exact ho
  ·rw [qt _ _ _ _ hed] at he;exact (h.objs e o' ((zw _ _ _ _ hed).1 hh) he).mono hk (fun _ _ _ _ _=>rfl)
 ·by_cases hed:e=.top d
  ·subst hed; exact (he (za _ _ _)).elim
  ·rw [zP _ _ hed];exact h.fresh e (fun hh=>he ((zw _ _ _ _ hed).2 hh))
 ·by_cases e1:e=.top d
  ·subst e1;have hne' : e'≠.top d:=fun h=>hne h.symm
   rw [qZ] at h1; cases h1;rw [qt _ _ _ _ hne'] at h2;rw [qb] at h5; cases h5;rw [zP _ _ hne'] at h6;exact hsep h3 e' o2 v2 b h2 h4 h6 h7
  ·rw [qt _ _ _ _ e1] at h1;rw [zP _ _ e1] at h5
   by_cases e2:e' = .top d
   ·subst e2;rw [qZ] at h2; cases h2;rw [qb] at h6; cases h6;intro h8;exact hsep h4 e o1 v1 b h1 h3 h5 h8 h7
   ·rw [qt _ _ _ _ e2] at h2;rw [zP _ _ e2] at h6;exact h.sep e e' o1 o2 v1 v2 b h1 h2 h3 h4 hne h5 h6 h7
 ·by_cases hed:e=.top d
  ·subst hed; rw [qb] at he; cases he; exact hb
  ·rw [zP _ _ hed] at he; exact h.base e v' he
structure pe (S:St) (θ:Nm->Option Value) (fs:List zZ) (ns ds ks:List Nat) (T:St) (η:Nm->Option Value):Prop where
 names:∀ e,T.obj (.top e)≠none->e∈ns
 from_:∀ d o v b,T.obj d=some o->o.isOwn=true->η d=some v->blk v=some b->∃ e o',S.obj e=some o'/\o'.isOwn=true/\θ e=some v/\((∃ e'∈ds,e=.top e')\/∃ f i,e=.mem f i)
 mems:jV fs θ η
 kept:∀ d∈ks,∃ v,θ (.top d)=some v/\η (.top d)=some v
 sub:∀ d∈ks,d∈ns
theorem ig {w:World} {ok ok' : Nat->Prop} {θ η:Nm->Option Value}:∀ {cs cs' : List AV} {vs:List Value},CVs w ok θ cs vs->cs'.length=cs.length->
  (∀ (j:Nat) (c c' : AV) (v:Value),cs[j]? = some c->cs'[j]? = some c'->v.cells.size=c.width->CV w ok θ c v->CV w ok' η c' v/\v.cells.size=c'.width)->CVs w ok' η cs' vs
 | [],[],vs,h,_,_=>h
 | [],_::_,vs,h,hl,_=>by simp at hl
 | _::_,[],vs,h,hl,_=>by simp at hl
 | c::cs,c'::cs',vs,h,hl,hf=>by
  obtain ⟨v,rest,rfl,hs,h1,h2⟩:=h;obtain ⟨k1,k2⟩:=hf 0 c c' v rfl rfl hs h1;exact ⟨v,rest,rfl,k2,k1,ig h2 (by simpa using hl) (fun j a b v h3 h4=>hf (j+1) a b v (by simpa using h3) (by simpa using h4))⟩
theorem cM:∀ (l:List Sh) (cs:List AV) (j:Nat) (s:Sh) (c:AV),l[j]? = some s->cs[j]? = some c->(yl l cs)[j]? = some (nrm s c)
 | [],cs,j,s,c,h,_=>by simp at h
 | s'::l,[],j,s,c,_,h=>by simp at h
 | s'::l,c'::cs,0,s,c,h1,h2=>by
  simp only [List.getElem?_cons_zero,Option.some.injEq] at h1 h2;subst h1 h2;rfl
 | s'::l,c'::cs,j+1,s,c,h1,h2=>by
  simpa [yl] using cM l cs j s c (by simpa using h1) (by simpa using h2)
theorem ec:∀ (l:List Sh) (cs:List AV),WTs l cs->l.length=cs.length/\∀ (j:Nat) (s:Sh) (c:AV),l[j]? = some s->cs[j]? = some c->WT s c
 | [],cs,h=>by simp only [WTs] at h; subst h; exact ⟨rfl,fun j s c h=>by simp at h⟩
 | s'::l,cs,h=>by
  obtain ⟨c',r,rfl,h1,h2⟩:=h;obtain ⟨k1,k2⟩:=ec l r h2;refine ⟨by simp [k1],fun j s c h3 h4=>?_⟩
  cases j with
  | zero=>
   simp only [List.getElem?_cons_zero,Option.some.injEq] at h3 h4;subst h3 h4;exact h1
  | succ j=>exact k2 j s c (by simpa using h3) (by simpa using h4)
theorem rR {fs:List zZ}:∀ (l:List Sh),ur fs l=true->∀ (j:Nat) (s:Sh),l[j]? = some s->inF fs s=true
 | [],_,j,s,h=>by simp at h
 | s'::l,hi,j,s,h=>by
  have hi:(inF fs s' && ur fs l)=true:=hi;rw [Bool.and_eq_true] at hi
  cases j with
  | zero=>
   simp only [List.getElem?_cons_zero,Option.some.injEq] at h;subst h;exact hi.1
  | succ j=>exact rR l hi.2 j s (by simpa using h)
theorem ym:∀ (l:List Sh) (cs:List AV),(yl l cs).length=cs.length
 | [],cs=>by simp [yl]
 | s::l,[]=>by simp [yl]
 | s::l,c::cs=>by simp [yl,ym l cs]
theorem oX (s:Sh) (k:IntKind) (xs:List Int):nrm s (.fs k xs)=.fs k xs:=by cases s <;> rfl
theorem QK (s s' : Sh) (xs:List AV):nrm s (.fv s' xs)=.fv s' xs:=by cases s <;> rfl
theorem aZ {S:St} {k:Ok} {c x:AV} {d:Option Nat} (h:xF S k c=some (x,d)) (s:Sh):nrm s x=x:=by
 have hob:∀ d x,k.isRow=true->jk S d k=some x->nrm s x=x:=by
  intro d x hk hx
  cases k with
  | row e kd=>
   simp only [jk] at hx
   split at hx <;> first | (cases hx; done) | skip
   split at hx <;> first | (cases hx; done) | skip
   rw [<-(zK hx).2,oX]
  | rows e s'=>
   simp only [jk] at hx
   split at hx <;> first | (cases hx; done) | skip
   split at hx <;> first | (cases hx; done) | skip
   rw [<-(zK hx).2,QK]
  | box s'=>cases hk
  | iter f=>cases hk
 unfold xF at h
 split at h
 ·split at h <;> first | (cases h; done) | skip
  ·cases h; exact oX _ _ _
  ·cases h; exact QK _ _ _
 ·split at h <;> first | (cases h; done) | skip
  split at h <;> first | (cases h; done) | skip
  rename_i hk
  split at h <;> first | (cases h; done) | skip
  rename_i hx
  cases h
  exact hob _ _ hk hx
 ·cases h
theorem dV (h:Rel C S θ a w) {ns ds ks:List Nat} {T:St} {η:Nm->Option Value} (hk:RelK C (qx C w S θ) T η a w) (hm:pe S θ fs ns ds ks T η):∀ (n:Nat) (ob:Ob) (v:Value) (ks1 ds1:List Nat),n ∉ ns->(jV fs θ (upd η (.top n) v)->OV C w (qx C w S θ) (upd η (.top n) v) (.top n) ob)->vi v->
    (blk v=none/\ds1=ds\/∃ d o',ds1=d::ds/\d ∉ ds/\S.obj (.top d)=some o'/\o'.isOwn=true/\θ (.top d)=some v)->(ks1=ks\/ks1=n::ks/\θ (.top n)=some v)->
    RelK C (qx C w S θ) (T.qW n ob) (upd η (.top n) v) a w/\pe S θ fs (n::ns) ds1 ks1 (T.qW n ob) (upd η (.top n) v):=by
 intro n ob v ks1 ds1 hn hov hb hor hks
 have hfreeN:T.obj (.top n)=none:=by
  cases hT:T.obj (.top n) with
  | none=>rfl
  | some o=>exact (hn (hm.names n (by rw [hT]; simp))).elim
 have hml:jV fs θ (upd η (.top n) v):=fun D hD j x hx=>by
  rw [zP _ _ (by simp)];exact hm.mems D hD j x hx
 refine ⟨hk.add hfreeN (hov hml) hb (fun ho d' o' v' b h1 h2 h3 h4 h5=>?_),⟨fun e he=>?_,fun d o v' b h1 h2 h3 h4=>?_,hml,fun d hd=>?_,fun d hd=>?_⟩⟩
 ·obtain ⟨e,o'',h6,h7,h8,h9⟩:=hm.from_ d' o' v' b h1 h2 h3 h5
  rcases hor with ⟨h10,_⟩ | ⟨d,o1,_,hnd,h10,h11,h12⟩
  ·rw [h10] at h4; cases h4
  ·have hne:Nm.top d≠e:=by
    rcases h9 with ⟨e',he',rfl⟩ | ⟨f,i,rfl⟩
    ·intro q; cases q; exact hnd he'
    ·simp
   exact h.sep _ e o1 o'' v v' b h10 h6 h11 h7 hne h12 h8 h4 h5
 ·by_cases hdi:e=n
  ·simp [hdi]
  ·rw [qt _ _ _ _ (by simpa using hdi)] at he;simp [hm.names e he]
 ·by_cases hdi:d=.top n
  ·subst hdi;rw [qb] at h3
   cases h3
   rcases hor with ⟨h9,_⟩ | ⟨d,o1,rfl,hnd,h9,h10,h11⟩
   ·rw [h9] at h4; cases h4
   ·exact ⟨.top d,o1,h9,h10,h11,.inl ⟨d,by simp,rfl⟩⟩
  ·rw [qt _ _ _ _ hdi] at h1;rw [zP _ _ hdi] at h3;obtain ⟨e,o',q1,q2,q3,q4⟩:=hm.from_ d o v' b h1 h2 h3 h4;refine ⟨e,o',q1,q2,q3,?_⟩
   rcases q4 with ⟨e',he',rfl⟩ | q4
   ·rcases hor with ⟨_,rfl⟩ | ⟨d,o1,rfl,_⟩
    ·exact .inl ⟨e',he',rfl⟩
    ·exact .inl ⟨e',by simp [he'],rfl⟩
   ·exact .inr q4
 ·have old:d∈ks->∃ u,θ (.top d)=some u/\upd η (.top n) v (.top d)=some u:=fun hd=>by
   obtain ⟨u,h1,h2⟩:=hm.kept d hd;refine ⟨u,h1,?_⟩;have:d≠n:=fun e=>hn (e ▸ hm.sub d hd)
   rw [zP _ _ (by simpa using this)];exact h2
  rcases hks with rfl | ⟨rfl,hv⟩
  ·exact old hd
  ·rcases List.mem_cons.1 hd with rfl | hd
   ·exact ⟨v,hv,qb _ _ _⟩
   ·exact old hd
 ·rcases hks with rfl | ⟨rfl,hv⟩
  ·simp [hm.sub d hd]
  ·rcases List.mem_cons.1 hd with rfl | hd
   ·simp
   ·simp [hm.sub d hd]
theorem fX (h:Rel C S θ a w):∀ (tp:Tes) (ns ds ks:List Nat) (l:List AV) (T:St) (η:Nm->Option Value),kW S tp ns ds=some l->(tp.all fun p=>p.2.ins fs)=true->RelK C (qx C w S θ) T η a w->pe S θ fs ns ds ks T η->
  ∃ η' ns' ds',RelK C (qx C w S θ) (xK tp l T) η' a w/\pe S θ fs ns' ds' (wj tp++ks) (xK tp l T) η'
 | [],ns,ds,ks,l,T,η,hl,hi,hk,hm=>⟨η,ns,ds,hk,hm⟩
 | (i,t)::r,ns,ds,ks,l,T,η,hl,hi,hk,hm=>by
  rw [List.all_cons,Bool.and_eq_true] at hi;obtain ⟨hi1,hi2⟩:=hi;have hsl:=h.slots i;have addG:=dV h hk hm
  cases t with
  | val s=>
   simp only [kW] at hl
   split at hl <;> first | (cases hl; done) | skip
   rename_i x hx;obtain ⟨l',hl',rfl⟩:=zO hl;refine fX h r ns ds ks l' _ η hl' hi2 (hk.fill fun v hv=>?_) ⟨hm.names,hm.from_,hm.mems,hm.kept,hm.sub⟩;obtain ⟨hw,hc⟩:=gB h (hsl v hv) hx;dsimp only [List.headD_cons];rw [zE s x hw];exact ja hm.mems (fun _ h=>h) s x v hw hi1 hc
  | obj k=>
   simp only [kW] at hl;have nilB:vi (.slice none 0 0):=fun ad n c e=>by cases e
   have some_:∀ (d:Nat) (x:AV) (l:List AV),jk S d k=some x->kb (zS ns (nm i) || zS ds d) (kU x (kW S r (nm i::ns) (d::ds)))=some l->(∀ v u,a.tmps[i]? = some u->θ (.top d)=some v->∀ η' : Nm->Option Value,η' (.top (nm i))=some v->CV w (qx C w S θ) η' (ry k (nm i)) u)->
     ∃ η' ns' ds',RelK C (qx C w S θ) (xK ((i,.obj k)::r) l T) η' a w/\pe S θ fs ns' ds' (wj ((i,.obj k)::r)++ks) (xK ((i,.obj k)::r) l T) η':=by
    intro d x l hob hll hsv;obtain ⟨hh,hl'⟩:=wF hll;rw [Bool.or_eq_false_iff] at hh;obtain ⟨l',hl2,rfl⟩:=zO hl';obtain ⟨o,v,h1,h2,h3,h4,h5⟩:=ma (fs:=fs) h hob;obtain ⟨k1,k2⟩:=addG (nm i) (ko k x) v ks (d::ds) (zp hh.1) (fun hml=>h5 _ _ _ (fun _ h=>h) hml hi1 (qb _ _ _)) (h.base _ _ h3) (.inr ⟨d,o,rfl,zp hh.2,h1,h2,h3⟩) (.inl rfl);exact fX h r _ _ ks l' _ _ hl2 hi2 (k1.fill fun u hu=>hsv v u hu h3 _ (qb _ _ _)) ⟨k2.names,k2.from_,k2.mems,k2.kept,k2.sub⟩
   have none_:∀ (x:AV) (l:List AV),S.slot i=.nils->ry k (nm i)=.own (.top (nm i))->kb (zS ns (nm i)) (kU x (kW S r (nm i::ns) ds))=some l->(∀ η' : Nm->Option Value,η' (.top (nm i))=some (.slice none 0 0)->OV C w (qx C w S θ) η' (.top (nm i)) (ko k x))->
     ∃ η' ns' ds',RelK C (qx C w S θ) (xK ((i,.obj k)::r) l T) η' a w/\pe S θ fs ns' ds' (wj ((i,.obj k)::r)++ks) (xK ((i,.obj k)::r) l T) η':=by
    intro x l hs hsv hll hov;obtain ⟨hh,hl'⟩:=wF hll;obtain ⟨l',hl2,rfl⟩:=zO hl';obtain ⟨k1,k2⟩:=addG (nm i) (ko k x) (.slice none 0 0) ks ds (zp hh) (fun _=>hov _ (qb _ _ _)) nilB (.inl ⟨rfl,rfl⟩) (.inl rfl);refine fX h r _ _ ks l' _ _ hl2 hi2 (k1.fill fun u hu=>?_) ⟨k2.names,k2.from_,k2.mems,k2.kept,k2.sub⟩;have:=hsl u hu;rw [hs] at this;have:u=.slice none 0 0:=this;subst this;rw [hsv];exact ⟨qb _ _ _,none,0,0,rfl⟩
   split at hl
   ·rename_i x hx;unfold yb at hx
    split at hx
    ·rename_i hs
     split at hx <;> first | (cases hx; done) | skip
     ·cases hx
      exact none_ _ l hs rfl hl (fun η' hη=>⟨_,hη,fun _=>⟨rfl,.inl ⟨rfl,rfl⟩⟩,fun h=>by cases h⟩)
     ·cases hx
      exact none_ _ l hs rfl hl (fun η' hη=>⟨_,hη,by simp [AV.qz],fun _=>⟨[],rfl,by simp [AV.qz],.inl ⟨rfl,rfl⟩⟩,fun h=>by cases h⟩)
    ·split at hx <;> first | (cases hx; done) | skip
     split at hx <;> first | (cases hx; done) | skip
     split at hx <;> cases hx
    ·split at hx <;> first | (cases hx; done) | skip
     split at hx <;> first | (cases hx; done) | skip
     split at hx <;> cases hx
    ·cases hx
   ·rename_i x d hx;unfold yb at hx
    split at hx
    ·split at hx <;> cases hx
    ·rename_i d' hs
     split at hx <;> first | (cases hx; done) | skip
     rename_i e
     split at hx <;> first | (cases hx; done) | skip
     rename_i hr
     split at hx <;> first | (cases hx; done) | skip
     rename_i x' hob
     cases hx
     refine some_ d x l hob hl (fun v u hu hv η' hη=>?_);have:=hsl u hu;rw [hs] at this;obtain ⟨q1,q2⟩:=this;rw [hv] at q1
     cases q1
     unfold ry;rw [hr];exact ⟨hη,q2⟩
    ·rename_i d' off hs
     split at hx <;> first | (cases hx; done) | skip
     rename_i e
     split at hx <;> first | (cases hx; done) | skip
     rename_i hr
     split at hx <;> first | (cases hx; done) | skip
     rename_i x' hob
     cases hx
     rw [Bool.and_eq_true,Bool.not_eq_true'] at hr;have h0:=Nat.eq_of_beq_eq_true hr.1;subst h0;refine some_ d x l hob hl (fun v u hu hv η' hη=>?_);have:=hsl u hu;rw [hs] at this;obtain ⟨g,q1,q2⟩:=this;rw [hv] at q1
     cases q1
     unfold ry;rw [hr.2];exact ⟨g,hη,q2⟩
    ·cases hx
   ·cases hl
  | keep k=>
   simp only [kW] at hl
   split at hl <;> first | (cases hl; done) | skip
   rename_i x hob;obtain ⟨hh,hl'⟩:=wF hl;rw [Bool.or_eq_false_iff] at hh;obtain ⟨l',hl2,rfl⟩:=zO hl';obtain ⟨o,v,h1,h2,h3,h4,h5⟩:=ma (fs:=fs) h hob;obtain ⟨k1,k2⟩:=addG i (ko k x) v (i::ks) (i::ds) (zp hh.1) (fun hml=>h5 _ _ _ (fun _ h=>h) hml hi1 (qb _ _ _)) (h.base _ _ h3) (.inr ⟨i,o,rfl,zp hh.2,h1,h2,h3⟩) (.inr ⟨rfl,h3⟩);obtain ⟨η',ns',ds',q1,q2⟩:=fX h r _ _ (i::ks) l' _ _ hl2 hi2 k1 k2
   refine ⟨η',ns',ds',q1,⟨q2.names,q2.from_,q2.mems,fun d hd=>q2.kept d ?_,fun d hd=>q2.sub d ?_⟩⟩ <;>
   ·simp only [wj,List.cons_append,List.mem_cons,List.mem_append] at hd ⊢
    rcases hd with hd | hd | hd
    ·exact .inr (.inl hd)
    ·exact .inl hd
    ·exact .inr (.inr hd)
  | keepR k=>
   simp only [kW] at hl
   split at hl <;> first | (cases hl; done) | skip
   rename_i t hot;obtain ⟨g,eb,fr,vb,b1,b2,b3,b4,b5,b6⟩:=h.obT hot;have hne:nm i≠i:=by unfold nm; omega
   have hne' : Nm.top (nm i)≠Nm.top i:=by simpa using hne
   have nilB:vi (.slice none 0 0):=fun ad n c e=>by cases e
   have box_:∀ (v:Value) (ds1:List Nat) (l' : List AV) (T1:St) (η1:Nm->Option Value),RelK C (qx C w S θ) T1 η1 a w->pe S θ fs (nm i::ns) ds1 ks T1 η1->i ∉ nm i::ns->i ∉ ds1->kW S r (i::nm i::ns) (i::ds1)=some l'->
     (∀ η' : Nm->Option Value,η' (.top (nm i))=some v->CV w (qx C w S θ) η' (.own (.top (nm i))) vb)->η1 (.top (nm i))=some v->vb.cells.size=1->
     ∃ η' ns' ds',RelK C (qx C w S θ) (xK r l' (T1.qW i (.box (.own (.top (nm i)))))) η' a w/\pe S θ fs ns' ds' (wj ((i,.keepR k)::r)++ks) (xK r l' (T1.qW i (.box (.own (.top (nm i)))))) η':=by
    intro v ds1 l' T1 η1 k1 m1 hi3 hi4 hl2 hcv hη hsz;obtain ⟨k2,m2⟩:=dV h k1 m1 i (.box (.own (.top (nm i)))) (.pointer (some ⟨g,0,none⟩)) (i::ks) (i::ds1) hi3 (fun _=>⟨g,eb,fr,vb,qb _ _ _,b2,b3,hcv _ (by rw [zP _ _ hne']; exact hη),hsz,b6⟩)
     (fun ad n c e=>by cases e) (.inr ⟨i,_,rfl,hi4,hot,rfl,b1⟩) (.inr ⟨rfl,b1⟩)
    obtain ⟨η',ns',ds',q1,q2⟩:=fX h r _ _ (i::ks) l' _ _ hl2 hi2 k2 m2
    refine ⟨η',ns',ds',q1,⟨q2.names,q2.from_,q2.mems,fun d hd=>q2.kept d ?_,fun d hd=>q2.sub d ?_⟩⟩ <;>
    ·simp only [wj,List.cons_append,List.mem_cons,List.mem_append] at hd ⊢
     rcases hd with hd | hd | hd
     ·exact .inr (.inl hd)
     ·exact .inl hd
     ·exact .inr (.inr hd)
   have nil_:∀ (x:AV) (l:List AV),t=.nils->kb (zS ns i || (zS ns (nm i) || zS ds i)) (kU x (kW S r (i::nm i::ns) (i::ds)))=some l->(∀ η' : Nm->Option Value,η' (.top (nm i))=some (.slice none 0 0)->OV C w (qx C w S θ) η' (.top (nm i)) (ko k x))->
     ∃ η' ns' ds',RelK C (qx C w S θ) (xK ((i,.keepR k)::r) l T) η' a w/\pe S θ fs ns' ds' (wj ((i,.keepR k)::r)++ks) (xK ((i,.keepR k)::r) l T) η':=by
    intro x l ht hll hov;subst ht;obtain ⟨hh,hl'⟩:=wF hll;rw [Bool.or_eq_false_iff,Bool.or_eq_false_iff] at hh;obtain ⟨l',hl2,rfl⟩:=zO hl';have hvb:vb=.slice none 0 0:=b4;obtain ⟨k1,m1⟩:=addG (nm i) (ko k x) (.slice none 0 0) ks ds (zp hh.2.1) (fun _=>hov _ (qb _ _ _)) nilB (.inl ⟨rfl,rfl⟩) (.inl rfl);refine box_ _ ds l' _ _ k1 m1 (fun hm=>?_) (zp hh.2.2) hl2 (fun η' hη=>⟨by rw [hvb]; exact hη,none,0,0,hvb⟩) (qb _ _ _) (by rw [hvb]; rfl)
    rcases List.mem_cons.1 hm with hm | hm
    ·exact hne hm.symm
    ·exact zp hh.1 hm
   split at hl <;> first | (cases hl; done) | skip
   ·rename_i x hx;unfold xF at hx
    split at hx
    ·split at hx <;> first | (cases hx; done) | skip
     ·cases hx
      exact nil_ _ l rfl hl (fun η' hη=>⟨_,hη,fun _=>⟨rfl,.inl ⟨rfl,rfl⟩⟩,fun h=>by cases h⟩)
     ·cases hx
      exact nil_ _ l rfl hl (fun η' hη=>⟨_,hη,by simp [AV.qz],fun _=>⟨[],rfl,by simp [AV.qz],.inl ⟨rfl,rfl⟩⟩,fun h=>by cases h⟩)
    ·split at hx <;> first | (cases hx; done) | skip
     split at hx <;> first | (cases hx; done) | skip
     split at hx <;> cases hx
    ·cases hx
   ·rename_i x d hx;unfold xF at hx
    split at hx
    ·split at hx <;> cases hx
    ·split at hx <;> first | (cases hx; done) | skip
     rename_i e
     split at hx <;> first | (cases hx; done) | skip
     split at hx <;> first | (cases hx; done) | skip
     rename_i x' hob
     cases hx
     obtain ⟨hh,hl'⟩:=wF hl;rw [Bool.or_eq_false_iff,Bool.or_eq_false_iff,Bool.or_eq_false_iff] at hh;obtain ⟨h1,h2,h3,h4⟩:=hh;obtain ⟨l',hl2,rfl⟩:=zO hl';obtain ⟨c1,c2⟩:=b4;obtain ⟨o,v,p1,p2,p3,p4,p5⟩:=ma (fs:=fs) h hob;rw [p3] at c1
     cases c1
     obtain ⟨k1,m1⟩:=addG (nm i) (ko k x) vb ks (d::ds) (zp h2) (fun hml=>p5 _ _ _ (fun _ h=>h) hml hi1 (qb _ _ _)) (h.base _ _ p3) (.inr ⟨d,o,rfl,zp h4,p1,p2,p3⟩) (.inl rfl);refine box_ vb (d::ds) l' _ _ k1 m1 (fun hm=>?_) (zp h3) hl2 (fun η' hη=>⟨hη,c2⟩) (qb _ _ _) ?_
     ·rcases List.mem_cons.1 hm with hm | hm
      ·exact hne hm.symm
      ·exact zp h1 hm
     ·obtain ⟨A,m,c,rfl⟩:=c2;rfl
    ·cases hx
  | keepP sl p k=>
   simp only [kW] at hl
   split at hl <;> first | (cases hl; done) | skip
   rename_i t hot
   split at hl <;> first | (cases hl; done) | skip
   rename_i cs
   split at hl <;> first | (cases hl; done) | skip
   rename_i c hcp;have hi1:(ur fs sl && k.ins fs)=true:=hi1;rw [Bool.and_eq_true] at hi1;obtain ⟨hiL,hiK⟩:=hi1;obtain ⟨g,eb,fr,vb,b1,b2,b3,b4,b5,b6⟩:=h.obT hot;have hne:nm i≠i:=by unfold nm; omega
   have hne' : Nm.top (nm i)≠Nm.top i:=by simpa using hne
   have hpl:p<cs.length:=(List.getElem?_eq_some_iff.1 hcp).1;have nilB:vi (.slice none 0 0):=fun ad n c e=>by cases e
   have cont:∀ (x y:AV) (od:Option Nat),xF S k c=some (x,od)->okV (jP (.agg sl) (nrm (.agg sl) (.agg (cs.set p x)))) (nrm (.agg sl) (.agg (cs.set p x)))=some y->y.item p=x/\
     ∀ (η' : Nm->Option Value),jV fs θ η'->(∀ v,CV w (qx C w S θ) θ c v->CV w (qx C w S θ) η' (.own (.top (nm i))) v/\v.cells.size=1)->CV w (qx C w S θ) η' (se (eta (.agg sl) y) p (.own (.top (nm i)))) vb/\vb.cells.size=(se (eta (.agg sl) y) p (.own (.top (nm i)))).width:=by
    intro x y od hx hy;obtain ⟨hf,rfl⟩:=zK hy;have hw:=jd _ _ hf;rw [zE _ _ hw];have hn:nrm (.agg sl) (.agg (cs.set p x))=.agg (yl sl (cs.set p x)):=rfl;rw [hn] at hw ⊢;obtain ⟨ys,hys,hws⟩:=hw
    cases hys
    obtain ⟨wl,wg⟩:=ec sl _ hws;rw [ym,List.length_set] at wl
    have hxp:(yl sl (cs.set p x))[p]? = some x:=by
     obtain ⟨sp,hsp⟩ : ∃ sp,sl[p]? = some sp:=⟨_,List.getElem?_eq_getElem (by omega)⟩;rw [cM sl _ p sp x hsp (by rw [List.getElem?_set_self hpl]),aZ hx]
    refine ⟨by simp [AV.item,hxp],fun η' hml hc=>?_⟩;obtain ⟨vs,rfl,hcs⟩:=b4
    have hnew:CVs w (qx C w S θ) η' ((yl sl (cs.set p x)).set p (.own (.top (nm i)))) vs.toList:=by
     refine ig hcs (by rw [List.length_set,ym,List.length_set]) (fun j c1 c2 v h1 h2 h3 h4=>?_)
     by_cases hj:p=j
     ·subst hj;rw [hcp] at h1
      cases h1
      rw [List.getElem?_set_self (by rw [ym,List.length_set]; exact hpl)] at h2
      cases h2
      obtain ⟨k1,k2⟩:=hc v h4;exact ⟨k1,k2⟩
     ·rw [List.getElem?_set_ne hj] at h2;have hjl:j<sl.length:=by rw [wl]; exact (List.getElem?_eq_some_iff.1 h1).1
      have hsj:=List.getElem?_eq_getElem hjl;have hcj:=cM sl (cs.set p x) j _ c1 hsj (by rw [List.getElem?_set_ne hj]; exact h1);rw [hcj] at h2
      cases h2
      exact ⟨ja hml (fun _ h=>h) _ _ _ (wg j _ _ hsj hcj) (rR sl hiL j _ hsj) (kF _ _ _ h4),by rw [vV]; exact h3⟩
    refine ⟨⟨vs,rfl,hnew⟩,?_⟩;have:=wC hnew;simpa [Value.cells,se,AV.width] using this
   have box_:∀ (x y:AV) (od:Option Nat) (v:Value) (ds1:List Nat) (l' : List AV) (T1:St) (η1:Nm->Option Value),xF S k c=some (x,od)->okV (jP (.agg sl) (nrm (.agg sl) (.agg (cs.set p x)))) (nrm (.agg sl) (.agg (cs.set p x)))=some y->
     RelK C (qx C w S θ) T1 η1 a w->pe S θ fs (nm i::ns) ds1 ks T1 η1->i ∉ nm i::ns->i ∉ ds1->kW S r (i::nm i::ns) (i::ds1)=some l'->
     (∀ u,CV w (qx C w S θ) θ c u->u=v/\∃ A m q,u=.slice A m q)->η1 (.top (nm i))=some v->
     ∃ η' ns' ds',RelK C (qx C w S θ) (xK r l' (T1.qW i (.box (se (eta (.agg sl) y) p (.own (.top (nm i))))))) η' a w/\pe S θ fs ns' ds' (wj ((i,.keepP sl p k)::r)++ks) (xK r l' (T1.qW i (.box (se (eta (.agg sl) y) p (.own (.top (nm i))))))) η':=by
    intro x y od v ds1 l' T1 η1 hx hy k1 m1 hi3 hi4 hl2 hcv hη;obtain ⟨_,hcont⟩:=cont x y od hx hy
    obtain ⟨k2,m2⟩:=dV h k1 m1 i (.box (se (eta (.agg sl) y) p (.own (.top (nm i))))) (.pointer (some ⟨g,0,none⟩)) (i::ks) (i::ds1) hi3 (fun hml=>by
      obtain ⟨q1,q2⟩:=hcont (upd η1 (.top i) (.pointer (some ⟨g,0,none⟩))) hml (fun u hu=>by
       obtain ⟨rfl,A,m,q,hu2⟩:=hcv u hu
       exact ⟨⟨by rw [zP _ _ hne']; exact hη,A,m,q,hu2⟩,by rw [hu2]; rfl⟩)
      exact ⟨g,eb,fr,vb,qb _ _ _,b2,b3,q1,q2,b6⟩)
     (fun ad n c e=>by cases e) (.inr ⟨i,_,rfl,hi4,hot,rfl,b1⟩) (.inr ⟨rfl,b1⟩)
    obtain ⟨η',ns',ds',q1,q2⟩:=fX h r _ _ (i::ks) l' _ _ hl2 hi2 k2 m2
    refine ⟨η',ns',ds',q1,⟨q2.names,q2.from_,q2.mems,fun d hd=>q2.kept d ?_,fun d hd=>q2.sub d ?_⟩⟩ <;>
    ·simp only [wj,List.cons_append,List.mem_cons,List.mem_append] at hd ⊢
     rcases hd with hd | hd | hd
     ·exact .inr (.inl hd)
     ·exact .inl hd
     ·exact .inr (.inr hd)
   have nil_:∀ (x y:AV) (l:List AV),c=.nils->xF S k c=some (x,none)->okV (jP (.agg sl) (nrm (.agg sl) (.agg (cs.set p x)))) (nrm (.agg sl) (.agg (cs.set p x)))=some y->kb (zS ns i || (zS ns (nm i) || zS ds i)) (kU y (kW S r (i::nm i::ns) (i::ds)))=some l->(∀ η' : Nm->Option Value,η' (.top (nm i))=some (.slice none 0 0)->OV C w (qx C w S θ) η' (.top (nm i)) (ko k x))->
     ∃ η' ns' ds',RelK C (qx C w S θ) (xK ((i,.keepP sl p k)::r) l T) η' a w/\pe S θ fs ns' ds' (wj ((i,.keepP sl p k)::r)++ks) (xK ((i,.keepP sl p k)::r) l T) η':=by
    intro x y l hc hx hy hll hov;obtain ⟨hh,hl'⟩:=wF hll;rw [Bool.or_eq_false_iff,Bool.or_eq_false_iff] at hh;obtain ⟨l',hl2,rfl⟩:=zO hl';obtain ⟨hyx,_⟩:=cont x y none hx hy;rw [<-hyx] at hov;obtain ⟨k1,m1⟩:=addG (nm i) (ko k (y.item p)) (.slice none 0 0) ks ds (zp hh.2.1) (fun _=>hov _ (qb _ _ _)) nilB (.inl ⟨rfl,rfl⟩) (.inl rfl);refine box_ x y none _ ds l' _ _ hx hy k1 m1 (fun hm=>?_) (zp hh.2.2) hl2 (fun u hu=>?_) (qb _ _ _)
    ·rcases List.mem_cons.1 hm with hm | hm
     ·exact hne hm.symm
     ·exact zp hh.1 hm
    ·subst hc;have hu:u=.slice none 0 0:=hu;exact ⟨hu,none,0,0,hu⟩
   split at hl <;> first | (cases hl; done) | skip
   ·rename_i x hx
    split at hl <;> first | (cases hl; done) | skip
    rename_i y hy;have hx':=hx;unfold xF at hx
    split at hx
    ·split at hx <;> first | (cases hx; done) | skip
     ·cases hx
      exact nil_ _ y l rfl hx' hy hl (fun η' hη=>⟨_,hη,fun _=>⟨rfl,.inl ⟨rfl,rfl⟩⟩,fun h=>by cases h⟩)
     ·cases hx
      exact nil_ _ y l rfl hx' hy hl (fun η' hη=>⟨_,hη,by simp [AV.qz],fun _=>⟨[],rfl,by simp [AV.qz],.inl ⟨rfl,rfl⟩⟩,fun h=>by cases h⟩)
    ·split at hx <;> first | (cases hx; done) | skip
     split at hx <;> first | (cases hx; done) | skip
     split at hx <;> cases hx
    ·cases hx
   ·rename_i x d hx
    split at hl <;> first | (cases hl; done) | skip
    rename_i y hy;have hx':=hx;unfold xF at hx
    split at hx
    ·split at hx <;> cases hx
    ·split at hx <;> first | (cases hx; done) | skip
     rename_i e
     split at hx <;> first | (cases hx; done) | skip
     split at hx <;> first | (cases hx; done) | skip
     rename_i x' hob
     cases hx
     obtain ⟨hh,hl'⟩:=wF hl;rw [Bool.or_eq_false_iff,Bool.or_eq_false_iff,Bool.or_eq_false_iff] at hh;obtain ⟨h1,h2,h3,h4⟩:=hh;obtain ⟨l',hl2,rfl⟩:=zO hl';obtain ⟨hyx,_⟩:=cont x y (some d) hx' hy;obtain ⟨o,v,p1,p2,p3,p4,p5⟩:=ma (fs:=fs) h hob;rw [<-hyx] at p5;obtain ⟨k1,m1⟩:=addG (nm i) (ko k (y.item p)) v ks (d::ds) (zp h2) (fun hml=>p5 _ _ _ (fun _ h=>h) hml hiK (qb _ _ _)) (h.base _ _ p3) (.inr ⟨d,o,rfl,zp h4,p1,p2,p3⟩) (.inl rfl);refine box_ x y (some d) v (d::ds) l' _ _ hx' hy k1 m1 (fun hm=>?_) (zp h3) hl2 (fun u hu=>?_) (qb _ _ _)
     ·rcases List.mem_cons.1 hm with hm | hm
      ·exact hne hm.symm
      ·exact zp h1 hm
     ·obtain ⟨c1,c2⟩:=hu;rw [p3] at c1;exact ⟨(Option.some.inj c1).symm,c2⟩
    ·cases hx
theorem kJ {d:Nat}:∀ {l:List Nat},zS l d=true->d∈l
 | [],h=>by cases h
 | x::r,h=>by
  simp only [zS] at h
  split at h
  ·rename_i hx; simp [Nat.eq_of_beq_eq_true hx]
  ·simp [kJ h]
theorem iQ {ok:Nat->Prop} {ks:List Nat} (hk:∀ d∈ks,∃ v,θ (.top d)=some v/\η (.top d)=some v) {v:AV} {u:Value} (hf:QR ks v=true) (h:CV w ok θ v u):CV w ok η v u:=by
 unfold QR at hf
 split at hf
 ·rename_i d off;obtain ⟨g,h1,h2⟩:=h;obtain ⟨v,q1,q2⟩:=hk d (kJ hf);rw [q1] at h1;exact ⟨g,q2.trans h1,h2⟩
 ·exact h
 ·cases hf
theorem ZT {ok:Nat->Prop} {ks:List Nat} (hk:∀ d∈ks,∃ v,θ (.top d)=some v/\η (.top d)=some v) {v:AV} {u:Value} (hf:Zn ks v=true) (h:CV w ok θ v u):CV w ok η v u:=by
 unfold Zn at hf
 split at hf
 ·rename_i f caps;obtain ⟨us,rfl,h1⟩:=h;refine ⟨us,rfl,?_⟩
  have:∀ (caps:List AV) (us:List Value),(caps.all (QR ks))=true->CVt w ok θ caps us->CVt w ok η caps us:=by
   intro caps
   induction caps with
   | nil=>intro us _ h; exact h
   | cons c cs ih=>
    intro us ha h;obtain ⟨v,rest,rfl,q1,q2⟩:=h;rw [List.all_cons,Bool.and_eq_true] at ha;exact ⟨v,rest,rfl,iQ hk ha.1 q1,ih rest ha.2 q2⟩
  exact this _ _ hf h1
 ·exact iQ hk hf h
theorem gV:∀ (fs:List zZ) (l:List AV),iI S fs=some l->l.length=fs.length/\∀ (k:Nat) (D:zZ),fs[k]? = some D->∃ F,S.fam D.f=some F/\F=⟨D.e,D.s,D.ks,F.l⟩/\l[k]? = some (.tup F.l)
 | [],l,h=>by cases h; exact ⟨rfl,fun k D hk=>by simp at hk⟩
 | D::r,l,h=>by
  simp only [iI] at h
  split at h <;> first | (cases h; done) | skip
  rename_i F hF
  split at h <;> first | (cases h; done) | skip
  rename_i hb;rw [Bool.and_eq_true,Bool.and_eq_true] at hb;obtain ⟨l',h1,rfl⟩:=zO h;obtain ⟨h2,h3⟩:=gV r l' h1;refine ⟨by simp [h2],fun k D' hk=>?_⟩
  cases k with
  | zero=>
   cases hk
   refine ⟨F,hF,?_,rfl⟩;rw [<-Nat.eq_of_beq_eq_true hb.1,<-wD hb.2.1,<-oz hb.2.2]
  | succ k=>simpa using h3 k D' (by simpa using hk)
theorem ZR (h:Rel C S θ a w) {m:Nat} {l l' : List AV} (hm:S.tm.length=m) (hin:(fs.all fun D=>tq fs D)=true) (hnd:xm fs=true) (hl:iI S fs=some l) :
  RelK C (qx C w S θ) (dI m fs (l++l')) (vA [] [] fs θ) a w/\pe S θ fs [] [] [] (dI m fs (l++l')) (vA [] [] fs θ):=by
 obtain ⟨hlen,hsp⟩:=gV fs l hl
 have hfam:∀ D∈fs,∃ F,S.fam D.f=some F/\F.s=D.s/\F.ks=D.ks/\(dI m fs (l++l')).fam D.f=some F:=by
  intro D hD;obtain ⟨k,hk⟩:=List.getElem?_of_mem hD;obtain ⟨F,h1,h2,h3⟩:=hsp k D hk;refine ⟨F,h1,by rw [h2],by rw [h2],?_⟩;have hkl:k<l.length:=(List.getElem?_eq_some_iff.1 h3).1;have:=kS (xs:=l++l') hnd hk (x:=.tup F.l) (by rw [List.getElem?_append_left hkl]; exact h3)
  show zu (vj fs (l++l')) D.f=some F;rw [this,h2];rfl
 have hfam' : ∀ f F,(dI m fs (l++l')).fam f=some F->(∃ D∈fs,D.f=f/\F.s=D.s/\F.ks=D.ks)/\S.fam f=some F:=by
  intro f F hF;obtain ⟨k,D,x,h1,h2,rfl,_⟩:=kB (show zu (vj fs (l++l')) f=some F from hF);have hD:=List.mem_of_getElem? h1;obtain ⟨F',q1,q2,q3,q4⟩:=hfam D hD;rw [hF] at q4
  cases q4
  exact ⟨⟨D,hD,rfl,q2,q3⟩,q1⟩
 have htop:∀ e,vA [] [] fs θ (.top e)=none:=fun e=>by
  cases hv:vA [] [] fs θ (.top e) with
  | none=>rfl
  | some v=>obtain ⟨q,k,s,d,h1,_⟩:=fo hv; cases h1
 have hto:∀ e,(dI m fs (l++l')).obj (.top e)=none:=fun e=>rfl
 have hml:jV fs θ (vA [] [] fs θ):=fun D hD i x hx=>by rw [vp hD]; exact hx
 refine ⟨⟨by rw [h.len,hm]; simp [dI],fun i v _=>?_,fun d o hh ho=>?_,fun d hd=>?_,fun d d' o o' v v' b h1 h2 h3 h4 hne h5 h6 h7=>?_,fun g t hg=>?_,fun d v hv=>?_⟩,⟨fun e he=>(he (hto e)).elim,fun d o v b h1 h2 h3 h4=>?_,hml,fun d hd=>(by cases hd),fun d hd=>(by cases hd)⟩⟩
 ·have:(dI m fs (l++l')).slot i=.undef:=by
   simp only [St.slot,dI,List.getD_eq_getElem?_getD,List.getElem?_replicate]
   split <;> rfl
  rw [this];trivial
 ·cases d with
  | top e=>rw [hto] at ho; cases ho
  | mem f i=>
   obtain ⟨F,hF,rfl⟩:=zA ho;obtain ⟨⟨D,hD,rfl,q1,q2⟩,q3⟩:=hfam' f F hF;obtain ⟨F',r1,r2⟩:=hh;rw [hF] at r1
   cases r1
   have hov:=h.objs (.mem D.f i) (F.at i) ⟨F,q3,r2⟩ (zg q3);have hfi:=List.all_eq_true.1 hin D hD;unfold tq at hfi;rw [Bool.and_eq_true] at hfi;refine yO (C':=C) (A:=fun s=>inF fs s=true) (fun s x v hA hw hc=>ja hml (fun _ h=>h) s x v hw hA hc) (by rw [q1]; exact hfi.1) (fun ks hks=>?_) hov (fun v hv=>?_) (fun g v hv hb=>?_)
   ·have h2:=hfi.2;rw [<-q2,hks] at h2;exact h2
   ·rw [vp hD]; exact hv
   ·exact (hov.lt (yA F i) hv hb).2
 ·cases d with
  | top e=>exact htop e
  | mem f i=>
   cases hv:vA [] [] fs θ (.mem f i) with
   | none=>rfl
   | some v=>
    obtain ⟨⟨D,hD,rfl⟩,hv'⟩:=vu hv;obtain ⟨F,q1,_,_,q2⟩:=hfam D hD;obtain ⟨F',r1,r2⟩:=h.has_of hv';rw [q1] at r1
    cases r1
    exact (hd ⟨F,q2,r2⟩).elim
 ·cases d with
  | top e=>rw [hto] at h1; cases h1
  | mem f i=>cases d' with
   | top e=>rw [hto] at h2; cases h2
   | mem f' i'=>
    obtain ⟨F,hF,rfl⟩:=zA h1;obtain ⟨F',hF',rfl⟩:=zA h2;obtain ⟨_,q3⟩:=hfam' f F hF;obtain ⟨_,q3'⟩:=hfam' f' F' hF';exact h.sep _ _ _ _ v v' b (zg q3) (zg q3') h3 h4 hne (vu h5).2 (vu h6).2 h7
 ·obtain ⟨s,hs,hsi⟩:=C.gd g t hg;obtain ⟨ad,u,h1,h2,h3,h4⟩:=h.globs g t hg;exact ⟨ad,u,h1,h2,ja (fs:=[]) (fun D hD=>by cases hD) (fun _ h=>h) s t u hs hsi h3,h4⟩
 ·cases d with
  | top e=>rw [htop] at hv; cases hv
  | mem f i=>exact h.base _ _ (vu hv).2
 ·cases d with
  | top e=>rw [hto] at h1; cases h1
  | mem f i=>
   obtain ⟨F,hF,rfl⟩:=zA h1;obtain ⟨_,q3⟩:=hfam' f F hF;exact ⟨.mem f i,_,zg q3,h2,(vu h3).2,.inr ⟨f,i,rfl⟩⟩
def xp (C:Ctx) (pn:Pn):Prop:=∀ d v,C.pin d=some v->match d with | .top e=>e∈pn.tops | .mem f _=>f∈pn.fams
theorem xA (h:Rel C S θ a w) {m:Nat} {pn:Pn} (hpn:xp C pn) {tp:Tpl} {l:List AV} (hl:Qi m pn tp S=some l):∃ η,Rel C (con m tp l) η a w:=by
 unfold Qi at hl
 split at hl <;> first | (cases hl; done) | skip
 rename_i hb;rw [Bool.and_eq_true,Bool.and_eq_true,Bool.and_eq_true] at hb;obtain ⟨hm,hok,hpo,hfx⟩:=hb;have hm:=Nat.eq_of_beq_eq_true hm;unfold Tpl.ok at hok;simp only [Bool.and_eq_true] at hok;obtain ⟨hin,hnd,hes,hfk⟩:=hok
 split at hl <;> first | (cases hl; done) | skip
 rename_i fl hf
 split at hl <;> first | (cases hl; done) | skip
 rename_i el he
 cases hl
 obtain ⟨k0,m0⟩:=ZR (l':=el) h hm hin hnd hf;obtain ⟨η,ns,ds,k1,m1⟩:=fX h tp.es [] [] [] el _ _ he hes k0 m0;rw [List.append_nil] at m1
 have hkf:∀ (fx:List (Nat × AV)) (T:St),(∀ p∈fx,Zn (wj tp.es) p.2=true/\p.2=S.slot p.1)->RelK C (qx C w S θ) T η a w->RelK C (qx C w S θ) (Qm fx T) η a w/\(∀ d,(Qm fx T).obj d=T.obj d):=by
  intro fx
  induction fx with
  | nil=>intro T _ hk; exact ⟨hk,fun _=>rfl⟩
  | cons p r ih=>
   intro T hp hk;obtain ⟨i,v⟩:=p;obtain ⟨p1,p2⟩:=hp (i,v) (by simp);exact ih _ (fun q hq=>hp q (by simp [hq])) (hk.fill fun u hu=>ZT m1.kept p1 (by have:=h.slots i u hu; rw [<-p2] at this; exact this))
 obtain ⟨h1,hobj⟩:=hkf tp.fx _ (fun p hp=>⟨List.all_eq_true.1 hfk p hp,Vo (List.all_eq_true.1 hfx p hp)⟩) k1
 have hcon:con m tp (fl++el)=Qm tp.fx (xK tp.es el (dI m tp.fs (fl++el))):=by
  unfold con dI;have h1:=(gV _ _ hf).1;have h2:=be tp.fs [] (fl++el) (by rw [List.length_append]; omega);rw [ir,<-h1,List.drop_left];rw [show cg tp.fs (fl++el) 0=vj tp.fs (fl++el) from h2]
 have hok:∀ b,qx C w S θ b->qx C w (con m tp (fl++el)) η b:=by
  rintro b ⟨k1,k2,k4⟩
  refine ⟨k1,k2,?_⟩
  rintro ⟨d,o,v,e1,e2,e3,e4⟩
  rw [hcon,hobj] at e1;obtain ⟨e,o',q1,q2,q3,_⟩:=m1.from_ d o v b e1 e2 e3 e4;exact k4 ⟨e,o',v,q1,q2,q3,e4⟩
 have hkp:vY w w (qx C w S θ) (qx C w (con m tp (fl++el)) η) η η:=⟨hok,fun _ _=>rfl,fun _ _ h=>h⟩;rw [<-hcon] at h1
 have hpin:∀ d v,C.pin d=some v->η d=some v:=by
  intro d v hd;have hv:=h.pin d v hd;have:=hpn d v hd;unfold Pn.ok at hpo;rw [Bool.and_eq_true] at hpo
  cases d with
  | top e=>
   obtain ⟨u,q1,q2⟩:=m1.kept e (kJ (List.all_eq_true.1 hpo.1 e this));rw [hv] at q1
   cases q1
   exact q2
  | mem f i=>
   obtain ⟨D,hD,rfl⟩:=gR (List.all_eq_true.1 hpo.2 f this);exact m1.mems D hD i v hv
 exact ⟨η,h1.len,fun i v hi=>qE hkp _ _ (h1.slots i v hi),fun d o hh ho=>(h1.objs d o hh ho).mono hkp (fun _ _ _ _ _=>rfl),h1.fresh,h1.sep,h.os,h.tape,h.output,h.size,h.frame,fun g t hg=>qE hkp _ _ (h1.globs g t hg),h1.base,hpin⟩
end
end Go.Am
end
section
set_option linter.unusedVariables false
set_option linter.unusedSimpArgs false
namespace Go.Am
open Go.RowKit
inductive Ex where
 | nrm
 | ext (id:Nat)
 | ret
 | pan
def uw (chain:List PanicEntry):Prop:=∃ t u,chain=[{ v:=.iface t u,recovered:=false }]
def Ex.all (Q:Exit->Act->World->Prop):Ex->Act->World->Prop
 | .nrm,a,w=>Q .normal a w
 | .ext i,a,w=>Q (.exit i) a w
 | .ret,a,w=>Q .ret a w
 | .pan,a,w=>∀ chain,uw chain->Q (.panic chain) a w
def Ex.same:Ex->Ex->Bool
 | .nrm,.nrm=>true
 | .ext i,.ext j=>Nat.beq i j
 | .ret,.ret=>true
 | .pan,.pan=>true
 | _,_=>false
def inl {R:Type} (x:Option (List AV)):Option (Sum (List AV) R):=match x with | some d=>some (.inl d) | none=>none
def inr {R:Type} (x:Option R):Option (Sum (List AV) R):=match x with | some r=>some (.inr r) | none=>none
def jn {R:Type} (x:Option (Sum (List AV) R)) (k:List AV->Option R):Option R:=match x with
 | some (.inl d)=>k d
 | some (.inr r)=>some r
 | none=>none
def iter {R:Type} (g:List AV->(List AV->Option R)->Option R):Nat->List AV->Option R
 | 0,_=>none
 | n+1,d=>g d (iter g n)
def Qh (m:Nat) (pn:Pn) {R:Type} (step:List AV->(Ex->St->Option R)->Option R) (T:Tpl) (K:Ex->St->Option R) (n:Nat) (d:List AV):Option R:=
 iter (fun d k=>step d fun e S=>match e with
  | .nrm=>match Qi m pn T S with
   | some d'=>k d'
   | none=>none
  | e=>K e S) n d
def first:Code->Option Nat
 | .region id _ _=>some id
 | .seq a b=>match first a with | some i=>some i | none=>first b
 | .cond _ a b=>match first a with | some i=>some i | none=>first b
 | .block _ b=>first b
 | .loop b=>first b
 | .scope b=>first b
 | _=>none
structure zi where
 loops:Nat->Option Tpl
 joins:Nat->Option Tpl
 over:Nat->Option (∀ R:Type,Nat->St->(St->Option R)->Option R):=fun _=>none
 pan:Nat->Option (Nat × (St->Bool)):=fun _=>none
def zl (id:Nat) (ops:Array Oper) (draw:Bool):Code->Prop
 | .region i o d=>i=id/\o=ops/\d=draw
 | .seq a b=>zl id ops draw a\/zl id ops draw b
 | .cond _ a b=>zl id ops draw a\/zl id ops draw b
 | .block _ b=>zl id ops draw b
 | .loop b=>zl id ops draw b
 | .scope b=>zl id ops draw b
 | _=>False
def Qz (S:St):Operand->Option Bool
 | .tmp t=>match S.slot t with | .bool b=>some b | _=>none
 | .const (.bool b)=>some b
 | _=>none
noncomputable def zD (n m:Nat) (pn:Pn) (P:Program) (E:Env) (cal:FuncId->Option Cal) (H:zi):Code->{R:Type}->St->(Ex->St->Option R)->Option R
 | .skip,_,S,K=>K .nrm S
 | .region id ops draw,_,S,K=>match H.over id with
  | none=>match H.pan id with
   | none=>QH n P E cal ops.toList draw S (K .nrm)
   | some q=>match draw with
    | true=>none
    | false=>kI n P E cal ops.toList 0 (ops.toList.take q.1) S fun S1=>brO (q.2 S1) (K .pan S1) (kI n P E cal ops.toList q.1 (ops.toList.drop q.1) S1 (K .nrm))
  | some φ=>φ _ n S (K .nrm)
 | .seq a b,_,S,K=>match (match first b with | some i=>H.joins i | none=>none) with
  | none=>zD n m pn P E cal H a S fun e S'=>match e with
   | .nrm=>zD n m pn P E cal H b S' K
   | e=>K e S'
  | some T=>jn (zD n m pn P E cal H a S fun e S'=>match e with
   | .nrm=>inl (Qi m pn T S')
   | e=>inr (K e S')) fun d=>zD n m pn P E cal H b (con m T d) K
 | .cond c a b,_,S,K=>match Qz S c with
  | some t=>brO t (zD n m pn P E cal H a S K) (zD n m pn P E cal H b S K)
  | none=>none
 | .block id b,_,S,K=>zD n m pn P E cal H b S fun e S'=>match e with
  | .ext j=>match Nat.beq j id with
   | true=>K .nrm S'
   | false=>K (.ext j) S'
  | e=>K e S'
 | .loop b,_,S,K=>match (match first b with | some i=>H.loops i | none=>none) with
  | some T=>match Qi m pn T S with
   | some d=>Qh m pn (fun d K'=>zD n m pn P E cal H b (con m T d) K') T K n d
   | none=>none
  | none=>none
 | .scope b,_,S,K=>zD n m pn P E cal H b S K
 | .label _,_,S,K=>K .nrm S
 | .exit id,_,S,K=>K (.ext id) S
 | .ret,_,S,K=>K .ret S
 | _,_,_,_=>none
section
variable {C:Ctx} {S S' T:St} {θ θ' : Nm->Option Value} {a:Act} {w w' : World} {n m:Nat} {pn:Pn} {P:Program} {o:Oper}
theorem yU {R:Type} {x:Option (List AV)} {y:Sum (List AV) R} (h:inl x=some y):∃ d,x=some d/\y=.inl d:=by
 cases x with
 | none=>cases h
 | some d=>cases h; exact ⟨d,rfl,rfl⟩
theorem zU {R:Type} {x:Option R} {y:Sum (List AV) R} (h:inr x=some y):∃ r,x=some r/\y=.inr r:=by
 cases x with
 | none=>cases h
 | some d=>cases h; exact ⟨d,rfl,rfl⟩
theorem eZ {R:Type} {x:Option (Sum (List AV) R)} {k:List AV->Option R} {r:R} (h:jn x k=some r):(∃ d,x=some (.inl d)/\k d=some r)\/x=some (.inr r):=by
 unfold jn at h
 split at h
 ·exact .inl ⟨_,rfl,h⟩
 ·cases h; exact .inr rfl
 ·cases h
def rg (P:Program) (d:Deferred):Prop:=
 ∃ fv cap f args,d.target=.fn fv cap/\∀ w,(invoke d.target d.args).run P w=.ok (.enter f args) w/\CallsD P f args .returning w fun e u' w'=>(∃ v,e=.returned v)/\u' = .returning/\w' = w
def DefLe (P:Program) (ds ds' : List Deferred):Prop:=∃ qs,ds' = qs++ds/\∀ d∈qs,rg P d
theorem DefLe.refl (P:Program) (ds:List Deferred):DefLe P ds ds:=⟨[],rfl,fun d h=>by cases h⟩
theorem DefLe.of {P:Program} {ds ds' : List Deferred} (h:ds' = ds):DefLe P ds ds':=by rw [h]; exact DefLe.refl P ds
theorem DefLe.trans {P:Program} {a b c:List Deferred} (h:DefLe P b c) (k:DefLe P a b):DefLe P a c:=by
 obtain ⟨q1,rfl,h1⟩:=h;obtain ⟨q2,rfl,h2⟩:=k
 exact ⟨q1++q2,by rw [List.append_assoc],fun d hd=>by
  rcases List.mem_append.1 hd with hd | hd
  ·exact h1 d hd
  ·exact h2 d hd⟩
theorem xq {P:Program} {fn:Func} {tmps:Array Value} {R:Ending->World->Prop} {w:World} (hR:∃ v,(results fn tmps).run P w=.ok v w/\R (.returned v) w):∀ {ds:List Deferred},(∀ d∈ds,rg P d)->Leaves P fn tmps R ds .returning w
 | [],_=>hR
 | d::ds,h=>by
  obtain ⟨fv,cap,f,args,h1,h2⟩:=h d (by simp);refine ⟨(by intro h; cases h),fv,cap,f,args,h1,(h2 w).1,(h2 w).2.mono ?_⟩
  rintro e u' w' ⟨⟨v,rfl⟩,rfl,rfl⟩
  exact xq hR (fun d hd=>h d (by simp [hd]))
structure DLaw (DL:List Deferred->List Deferred->Prop):Prop where
 refl:∀ ds,DL ds ds
 trans:∀ {a b c},DL b c->DL a b->DL a c
theorem DLaw.of {DL:List Deferred->List Deferred->Prop} (h:DLaw DL) {ds ds' : List Deferred} (e:ds' = ds):DL ds ds':=by rw [e]; exact h.refl ds
theorem Jg (P:Program):DLaw (DefLe P):=⟨DefLe.refl P,fun h k=>h.trans k⟩
def pN (ds ds' : List Deferred):Prop:=ds' = ds
theorem lM:DLaw pN:=⟨fun _=>rfl,fun h k=>Eq.trans h k⟩
def mz (DL:List Deferred->List Deferred->Prop) (C:Ctx) (P:Program) (n m:Nat) (pn:Pn) (cal:FuncId->Option Cal) (H:zi) (c:Code):Prop:=
 ∀ {R:Type} (S:St) (K:Ex->St->Option R) (x:R),zD n m pn P C.E cal H c S K=some x->∀ (θ:Nm->Option Value) (a:Act) (w:World),Rel C S θ a w->
  ∀ Q:Exit->Act->World->Prop,(∀ e S' θ' a' w',K e S' = some x->Rel C S' θ' a' w'->DL a.defers a'.defers->e.all Q a' w')->c.wp P Q a w
theorem ri (h:Rel C S θ a w) {c:Operand} {t:Bool} (hc:Qz S c=some t):a.eval c=.bool t:=by
 unfold Qz at hc
 split at hc
 ·rename_i i
  split at hc
  ·rename_i b hb
   cases hc
   have hlt:i<a.tmps.size:=by
    rw [h.len]
    rcases Nat.lt_or_ge i S.tm.length with h1 | h1
    ·exact h1
    ·simp [St.slot,List.getD_eq_getElem?_getD,h1] at hb
   have hv:=h.slots i _ (Array.getElem?_eq_getElem hlt);rw [hb] at hv;have hv:a.tmps[i]=.bool t:=hv;simp [Act.eval,hlt,hv]
  ·cases hc
 ·cases hc; rfl
 ·cases hc
theorem iW {DL:List Deferred->List Deferred->Prop} (hDL:DLaw DL) (hpn:xp C pn) {cal:FuncId->Option Cal} {H:zi} {b:Code} (ih:mz DL C P n m pn cal H b) {T:Tpl} {R:Type} {K:Ex->St->Option R} {x:R} {df:List Deferred} {Q:Exit->Act->World->Prop}
  (hQ:∀ e S' θ' a' w',K e S' = some x->Rel C S' θ' a' w'->DL df a'.defers->e.all Q a' w') :
  ∀ (f:Nat) (d:List AV),Qh m pn (fun d K'=>zD n m pn P C.E cal H b (con m T d) K') T K f d=some x->∀ (θ:Nm->Option Value) (a:Act) (w:World),Rel C (con m T d) θ a w->DL df a.defers->Code.rounds P b Q f a w
 | 0,d,h,θ,a,w,hr,hd=>by cases h
 | f+1,d,h,θ,a,w,hr,hd=>by
  rw [rounds_succ];refine ih _ _ _ h θ a w hr _ (fun e S' θ' a' w' hk hr' hd'=>?_)
  cases e with
  | nrm=>
   dsimp only at hk
   split at hk
   ·rename_i d' hd'';obtain ⟨η,hη⟩:=xA hr' hpn hd'';exact iW hDL hpn ih hQ f d' hk η a' w' hη (hDL.trans hd' hd)
   ·cases hk
  | ext i=>exact hQ (.ext i) S' θ' a' w' hk hr' (hDL.trans hd' hd)
  | ret=>exact hQ .ret S' θ' a' w' hk hr' (hDL.trans hd' hd)
  | pan=>exact hQ .pan S' θ' a' w' hk hr' (hDL.trans hd' hd)
def OvOk (DL:List Deferred->List Deferred->Prop) (C:Ctx) (P:Program) (H:zi) (c:Code):Prop:=
 ∀ (id:Nat) (ops:Array Oper) (draw:Bool),zl id ops draw c->∀ φ,H.over id=some φ->∀ (R:Type) (n:Nat) (S:St) (K:St->Option R) (x:R),φ R n S K=some x->∀ (θ:Nm->Option Value) (a:Act) (w:World),Rel C S θ a w->
  ∀ Q:Exit->Act->World->Prop,(∀ S' θ' a' w',K S' = some x->Rel C S' θ' a' w'->DL a.defers a'.defers->Q .normal a' w')->(Code.region id ops draw).wp P Q a w
theorem OvOk.none {DL:List Deferred->List Deferred->Prop} {C:Ctx} {P:Program} {H:zi} {c:Code} (h:∀ id,H.over id=none):OvOk DL C P H c:=fun id _ _ _ φ hφ=>by rw [h] at hφ; cases hφ
def PanH (C:Ctx) (P:Program) (H:zi) (c:Code):Prop:=
 ∀ (id:Nat) (ops:Array Oper),zl id ops false c->∀ i β,H.pan id=some (i,β)->∀ (S:St) (θ:Nm->Option Value) (a:Act) (w:World),β S=true->Rel C S θ a w->
  ∀ Q:Exit->Act->World->Prop,(∀ chain a' w' θ',uw chain->Rel C S θ' a' w'->a'.defers=a.defers->Q (.panic chain) a' w')->wpOps P ops Q (List.range' i (ops.size - i)) a w
theorem PanH.none {C:Ctx} {P:Program} {H:zi} {c:Code} (h:∀ id,H.pan id=none):PanH C P H c:=fun id _ _ i β hφ=>by rw [h] at hφ; cases hφ
theorem nV {cal:FuncId->Option Cal} (hcal:∀ f c,cal f=some c->qU P C.E f c) {ops:Array Oper} {Q:Exit->Act->World->Prop} {N:Nat} {R:Type} {K:St->Option R} {x:R} {df:List Deferred} {rest:List Nat} :
  ∀ (os:List Oper) (k:Nat) (S:St) (θ:Nm->Option Value) (a:Act) (w:World),(∀ S' a' w' θ',K S' = some x->Rel C S' θ' a' w'->a'.defers=df->wpOps P ops Q rest a' w')->(∀ j o,os[j]? = some o->ops[k+j]? = some o)->kI N P C.E cal ops.toList k os S K=some x->Rel C S θ a w->a.defers=df->wpOps P ops Q (List.range' k os.length++rest) a w
 | [],k,S,θ,a,w,hQ,hk,hh,hrel,hd=>hQ S a w θ hh hrel hd
 | o::os,k,S,θ,a,w,hQ,hk,hh,hrel,hd=>by
  rw [List.length_cons,List.range'_succ,List.cons_append,wpOps_cons];have hi:=hk 0 o rfl;rw [Nat.add_zero] at hi;obtain ⟨c,hc⟩:=cC hcal hi hrel N;obtain ⟨S',h1,h2⟩:=vk c _ _ _ hh;have h3:=fZ h2;refine hc S' h1 _ Q (fun a' w' θ' hrel' hd'=>?_)
  exact nV hcal os (k+1) S' θ' a' w' hQ (fun j o' hj=>by
   have:=hk (j+1) o' (by simpa using hj)
   rwa [show k+(j+1)=k+1+j by omega] at this) h3 hrel' (hd'.trans hd)
theorem yE {DL:List Deferred->List Deferred->Prop} (hDL:DLaw DL) (hpn:xp C pn) {cal:FuncId->Option Cal} {H:zi} (hcal:∀ f c,cal f=some c->qU P C.E f c) (hm:P.follows .mixedOrders=true):∀ c:Code,OvOk DL C P H c->PanH C P H c->mz DL C P n m pn cal H c:=by
 intro c
 induction c with
 | skip=>intro _ _ R S K x h θ a w hr Q hQ; exact wp_skip (hQ .nrm S θ a w h hr (hDL.refl _))
 | region id ops draw=>
  intro hov hpa R S K x h θ a w hr Q hQ;simp only [zD] at h
  split at h
  ·split at h
   ·exact ak (id:=id) hcal hm hr h Q (fun S' a' w' θ' h1 hr' hd'=>hQ .nrm S' θ' a' w' h1 hr' (hDL.of hd'))
   ·rename_i q hq
    split at h
    ·cases h
    ·obtain ⟨i,β⟩:=q;dsimp only at h;refine wp_region ?_;rw [List.range_eq_range',<-Array.length_toList]
     have hlen:List.range' 0 ops.toList.length=List.range' 0 (ops.toList.take i).length++List.range' (ops.toList.take i).length (ops.toList.drop i).length:=by
      have:=@List.range'_append_1 0 (ops.toList.take i).length (ops.toList.drop i).length;rw [Nat.zero_add] at this;rw [this,<-List.length_append,List.take_append_drop]
     rw [hlen];refine nV hcal (df:=a.defers) _ 0 S θ a w (fun S1 a1 w1 θ1 h1 hr1 hd1=>?_) (fun j o hj=>?_) h hr rfl
     ·cases hb:β S1 with
      | true=>
       rw [hb] at h1;have key:=hpa id ops ⟨rfl,rfl,rfl⟩ i β hq S1 θ1 a1 w1 hb hr1 Q (fun chain a' w' θ' hc hr' hd'=>hQ .pan S1 θ' a' w' h1 hr' (hDL.of (hd'.trans hd1)) chain hc);rw [List.length_take,List.length_drop,Array.length_toList]
       rcases Nat.lt_or_ge i ops.size with hl | hl
       ·rw [Nat.min_eq_left (by omega)];exact key
       ·have e0:ops.size - i=0:=by omega
        rw [e0] at key ⊢;exact key
      | false=>
       rw [hb] at h1;have h1:kI n P C.E cal ops.toList i (ops.toList.drop i) S1 (K .nrm)=some x:=h1
       rcases Nat.lt_or_ge i ops.toList.length with hl | hl
       ·rw [List.length_take,Nat.min_eq_left (by omega)];refine tJ hcal (df:=a.defers) (fun S' a' w' θ' h2 hr' hd'=>hQ .nrm S' θ' a' w' h2 hr' (hDL.of hd')) _ i S1 θ1 a1 w1 (fun j o hj=>?_) h1 hr1 hd1;rw [List.getElem?_drop] at hj;simpa using hj
       ·rw [List.drop_of_length_le hl] at h1 ⊢;exact hQ .nrm S1 θ1 a1 w1 h1 hr1 (hDL.of hd1)
     ·rw [List.getElem?_take] at hj
      split at hj
      ·simpa using hj
      ·cases hj
  ·rename_i φ hφ;exact hov id ops draw ⟨rfl,rfl,rfl⟩ φ hφ R n S (K .nrm) x h θ a w hr Q (fun S' θ' a' w' hk hr' hd'=>hQ .nrm S' θ' a' w' hk hr' hd')
 | seq x y ihx ihy=>
  intro hov hpa;replace ihx:mz DL C P n m pn cal H x:=ihx (fun id ops draw h=>hov id ops draw (.inl h)) (fun id ops h=>hpa id ops (.inl h));replace ihy:mz DL C P n m pn cal H y:=ihy (fun id ops draw h=>hov id ops draw (.inr h)) (fun id ops h=>hpa id ops (.inr h));intro R S K r h θ a w hr Q hQ;refine wp_seq ?_;simp only [zD] at h
  have next:∀ (S' : St) (θ' : Nm->Option Value) (a' : Act) (w' : World) (e:Ex),(match e with | .nrm=>zD n m pn P C.E cal H y S' K | e=>K e S')=some r->Rel C S' θ' a' w'->DL a.defers a'.defers->e.all (Exit.then (y.wp P Q) Q) a' w':=by
   intro S' θ' a' w' e hk hr' hd'
   cases e with
   | nrm=>exact ihy S' K r hk θ' a' w' hr' Q (fun e S2 θ2 a2 w2 h1 h2 h3=>hQ e S2 θ2 a2 w2 h1 h2 (hDL.trans h3 hd'))
   | ext i=>exact hQ (.ext i) S' θ' a' w' hk hr' hd'
   | ret=>exact hQ .ret S' θ' a' w' hk hr' hd'
   | pan=>exact hQ .pan S' θ' a' w' hk hr' hd'
  split at h
  ·exact ihx S _ r h θ a w hr _ (fun e S' θ' a' w' hk hr' hd'=>next S' θ' a' w' e hk hr' hd')
  ·rename_i T hT
   rcases eZ h with ⟨d,h1,h2⟩ | h1
   ·refine ihx S _ _ h1 θ a w hr _ (fun e S' θ' a' w' hk hr' hd'=>?_)
    cases e with
    | nrm=>
     obtain ⟨d',h3,h4⟩:=yU hk
     cases h4
     obtain ⟨η,hη⟩:=xA hr' hpn h3;exact next _ η a' w' .nrm h2 hη hd'
    | ext i=>obtain ⟨_,_,h4⟩:=zU hk; cases h4
    | ret=>obtain ⟨_,_,h4⟩:=zU hk; cases h4
    | pan=>obtain ⟨_,_,h4⟩:=zU hk; cases h4
   ·refine ihx S _ _ h1 θ a w hr _ (fun e S' θ' a' w' hk hr' hd'=>?_)
    cases e with
    | nrm=>obtain ⟨_,_,h4⟩:=yU hk; cases h4
    | ext i=>obtain ⟨_,h3,h4⟩:=zU hk; cases h4; exact hQ (.ext i) S' θ' a' w' h3 hr' hd'
    | ret=>obtain ⟨_,h3,h4⟩:=zU hk; cases h4; exact hQ .ret S' θ' a' w' h3 hr' hd'
    | pan=>obtain ⟨_,h3,h4⟩:=zU hk; cases h4; exact hQ .pan S' θ' a' w' h3 hr' hd'
 | cond c x y ihx ihy=>
  intro hov hpa;replace ihx:mz DL C P n m pn cal H x:=ihx (fun id ops draw h=>hov id ops draw (.inl h)) (fun id ops h=>hpa id ops (.inl h));replace ihy:mz DL C P n m pn cal H y:=ihy (fun id ops draw h=>hov id ops draw (.inr h)) (fun id ops h=>hpa id ops (.inr h));intro R S K r h θ a w hr Q hQ;simp only [zD] at h
  split at h
  ·rename_i t ht;refine wp_cond (ri hr ht) ?_
   cases t with
   | true=>exact ihx S K r h θ a w hr Q hQ
   | false=>exact ihy S K r h θ a w hr Q hQ
  ·cases h
 | block id b ih=>
  intro hov hpa;replace ih:mz DL C P n m pn cal H b:=ih (fun id ops draw h=>hov id ops draw h) (fun id ops h=>hpa id ops h);intro R S K r h θ a w hr Q hQ;refine wp_block ?_;refine ih S _ r h θ a w hr _ (fun e S' θ' a' w' hk hr' hd'=>?_)
  cases e with
  | nrm=>exact hQ .nrm S' θ' a' w' hk hr' hd'
  | ext j=>
   dsimp only at hk;simp only [Ex.all,Exit.inBlock]
   split at hk
   ·rename_i hj;rw [if_pos (by simpa using hj)];exact hQ .nrm S' θ' a' w' hk hr' hd'
   ·rename_i hj;rw [if_neg (fun he=>by subst he; simp at hj)];exact hQ (.ext j) S' θ' a' w' hk hr' hd'
  | ret=>exact hQ .ret S' θ' a' w' hk hr' hd'
  | pan=>exact hQ .pan S' θ' a' w' hk hr' hd'
 | loop b ih=>
  intro hov hpa;replace ih:mz DL C P n m pn cal H b:=ih (fun id ops draw h=>hov id ops draw h) (fun id ops h=>hpa id ops h);intro R S K r h θ a w hr Q hQ;simp only [zD] at h
  split at h
  ·rename_i T hT
   split at h
   ·rename_i d hd;obtain ⟨η,hη⟩:=xA hr hpn hd;exact wp_loop_rounds n (iW hDL hpn ih (df:=a.defers) (fun e S' θ' a' w' h3 h4 h5=>hQ e S' θ' a' w' h3 h4 h5) n d h η a w hη (hDL.refl _))
   ·cases h
  ·cases h
 | scope b ih=>
  intro hov hpa;replace ih:mz DL C P n m pn cal H b:=ih (fun id ops draw h=>hov id ops draw h) (fun id ops h=>hpa id ops h);intro R S K r h θ a w hr Q hQ;refine wp_scope_straight ?_;refine ih S _ r h θ a w hr _ (fun e S' θ' a' w' hk hr' hd'=>?_)
  cases e with
  | nrm=>exact hQ .nrm S' θ' a' w' hk hr' hd'
  | ext j=>exact hQ (.ext j) S' θ' a' w' hk hr' hd'
  | ret=>exact hQ .ret S' θ' a' w' hk hr' hd'
  | pan=>exact hQ .pan S' θ' a' w' hk hr' hd'
 | label l=>intro _ _ R S K x h θ a w hr Q hQ; exact wp_label (hQ .nrm S θ a w h hr (hDL.refl _))
 | exit id=>intro _ _ R S K x h θ a w hr Q hQ; exact wp_exit (hQ (.ext id) S θ a w h hr (hDL.refl _))
 | ret=>intro _ _ R S K x h θ a w hr Q hQ; exact wp_ret (hQ .ret S θ a w h hr (hDL.refl _))
 | _=>intro _ _ R S K x h; cases h
end
end Go.Am
end
