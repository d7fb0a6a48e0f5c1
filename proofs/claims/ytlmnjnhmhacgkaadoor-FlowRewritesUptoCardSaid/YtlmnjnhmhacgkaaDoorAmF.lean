/-
  Functions are sound; closures that are deferred.
-/
import Derived.Test.YtlmnjnhmhacgkaaDoorAmE
import Derived.ChangeArms
import Derived.OpenShut
import Derived.ChangeBears
import Derived.WideShapes
import Derived.FnData
import Derived.Below
section
set_option linter.unusedVariables false
set_option linter.unusedSimpArgs false
namespace Go.Am
open Go.RowKit
inductive Rk where
 | val (s:Sh)
 | obj (k:Ok)
 | cell (s:Sh) (t:TypeId)
abbrev Res:=List (Nat × Rk)
def Rk.rv (i:Nat):Rk→ResultVar
 | .cell _ t=>.cell i t
 | _=>.tmp i
structure FnD where
 body:Code
 m:Nat
 ps:List Pk
 fs:List FamD
 pv:List FamD
 rs:Res
 ty:List TypeId
 own:Option Nat
 esc:Bool
 fz:List (Nat × Sh):=[]
 fzc:List (Nat × Sh):=[]
def frzSlots:List (Nat × Sh)→Pg→Pg
 | [],p=>p
 | (i,s)::r,p=>.slot i fun a=>frz s (nrm s a) fun a'=>.setSlot i a' (frzSlots r p)
def frzCells:List (Nat × Sh)→Pg→Pg
 | [],p=>p
 | (i,s)::r,p=>.slot i fun a=>match a with
  | .ref (.top d) off=>must (Nat.beq off 0) <| .obj (.top d) fun q=>match q with
   | some (.box t)=>frz s (nrm s t) fun t'=>.obj (.top d) fun q2=>match q2 with
    | some (.box _)=>.setObj d (.box t') (frzCells r p)
    | _=>.fail
   | _=>.fail
  | _=>.fail
def isOwn (own:Option Nat) (j:Nat):Bool:=match own with | some q=>Nat.beq q j | none=>false
def elemIs (P:Program) (t e:TypeId):Bool:=match elemT P t with | some e'=>Nat.beq e e' | none=>false
def okAt (P:Program) (fs:List FamD) (own:Option Nat) (esc:Bool):Nat→Res→List TypeId→Bool
 | _,[],[]=>true
 | j,(_,t)::r,ty::tys=>(match t with
  | .val s=>!isOwn own j && (inF fs s && (esc || flatS s))
  | .cell s _=>!isOwn own j && (inF fs s && (esc || flatS s))
  | .obj k=>match k with
   | .row e _=>isOwn own j && elemIs P ty e
   | .rows e s=>isOwn own j && (elemIs P ty e && (inF fs s && (esc || flatS s)))
   | _=>false) && okAt P fs own esc (j+1) r tys
 | _,_,_=>false
def FnD.good (P:Program) (D:FnD):Bool:=
 okAt P D.fs D.own D.esc 0 D.rs D.ty && ((match D.own with | some q=>Nat.blt q D.rs.length | none=>true) && (allIn D.ps D.fs && (D.esc || calFlat D.ps D.fs)))
def pvFm:List FamD→List (Nat × Fam)
 | []=>[]
 | D::r=>(D.f,⟨D.e,D.s,D.ks,[]⟩)::pvFm r
def FnD.ini (D:FnD) (as:List AV):St:=
 ⟨iniSl D.ps 0 as++List.replicate (D.m - (iniSl D.ps 0 as).length) .undef,iniOb D.ps 0 as,iniFm D.fs (as.drop D.ps.length)++pvFm D.pv⟩
def ioPars:List Pk→Nat→List Nat
 | [],_=>[]
 | .io _::ps,j=>par j::ioPars ps (j+1)
 | _::ps,j=>ioPars ps (j+1)
def ioEs:List Pk→Nat→Tes
 | [],_=>[]
 | .io s::ps,j=>(par j,.keep (.box s))::ioEs ps (j+1)
 | _::ps,j=>ioEs ps (j+1)
def FnD.pn (D:FnD):Pn:=⟨ioPars D.ps 0,D.fs.map fun D=>D.f⟩
def res1 (P:Program) (S:St) (i:Nat):Rk→Option (AV × Option Nat)
 | .val s=>match dataAt S s (S.slot i) with
  | some x=>some (x,none)
  | none=>none
 | .obj k=>slotOb S i k
 | .cell s t=>match S.slot i with
  | .ref d off=>match S.obj d with
   | some (.box tr)=>match Nat.beq off 0 && fits P t tr with
    | true=>match dataAt S s tr with
     | some x=>some (x,none)
     | none=>none
    | false=>none
   | _=>none
  | _=>none
def absR (P:Program) (S:St):Res→Option (List AV × List Nat)
 | []=>some ([],[])
 | (i,t)::r=>match res1 P S i t with
  | some (x,d)=>match absR P S r with
   | some (l,ds)=>some (x::l,match d with | some d=>d::ds | none=>ds)
   | none=>none
  | none=>none
def FnD.fin (P:Program) (D:FnD) (S:St):Option (List AV):=match absR P S D.rs with
 | some (l,ds)=>match absT S (ioEs D.ps 0) [] ds with
  | some il=>match absF S D.fs with
   | some f=>some (l++(il++f))
   | none=>none
  | none=>none
 | none=>none
noncomputable def FnD.finz (P:Program) (D:FnD) (n:Nat) (S:St):Option (List AV):=(frzSlots D.fz (frzCells D.fzc .done)).run n S (D.fin P)
noncomputable def FnD.run (P:Program) (E:Env) (cal:FuncId→Option Cal) (H:Hints) (D:FnD) (n:Nat) (as:List AV):Option (List AV):=
 exec n D.m D.pn P E cal H D.body (D.ini as) fun e S=>match e with
  | .ext _=>none
  | .nrm=>D.finz P n S
  | .ret=>D.finz P n S
  | .pan=>none
def etaR:Rk→AV→AV
 | .val s,x=>eta s x
 | .cell s _,x=>eta s x
 | .obj k,x=>match k with
  | .row _ k=>.fs k x.toInts
  | .rows _ s=>.fv s x.toElems
  | _=>x
def etaL:Res→List AV→List AV
 | [],_=>[]
 | (_,t)::r,d=>etaR t (d.headD .undef)::etaL r d.tail
def mkCal (D:FnD) (F:Nat→List AV→Option (List AV)):Cal:=
 { F:=F,ps:=D.ps,fs:=D.fs,res:=etaL D.rs,ty:=D.ty,own:=D.own,esc:=D.esc }
section
variable {C:Ctx} {S S' T:St} {θ θ' : Nm→Option Value} {a:Act} {w w' : World} {n m:Nat} {P:Program} {o:Oper} {ok ok' : Nat→Prop} {fs:List FamD}
theorem slot_in (h:Rel C S θ a w) {i:Nat} (hi:S.slot i≠.undef):∃ u,a.tmps[i]? = some u∧a.tmps.getD i undef=u∧CV w (okOf C w S θ) θ (S.slot i) u:=by
 have hlt:i<a.tmps.size:=by
  rw [h.len]
  rcases Nat.lt_or_ge i S.tm.length with h1 | h1
  ·exact h1
  ·simp [St.slot,List.getD_eq_getElem?_getD,h1] at hi
 exact ⟨a.tmps[i],Array.getElem?_eq_getElem hlt,by simp [hlt],h.slots i _ (Array.getElem?_eq_getElem hlt)⟩
theorem nrm_undef (s:Sh):nrm s .undef=.undef:=by cases s <;> rfl
theorem fit_undef (s:Sh):fitA s .undef=false:=by cases s <;> rfl
theorem dataAt_undef {s:Sh} {r:AV} (h:dataAt S s .undef=some r):False:=by
 unfold dataAt at h
 split at h
 ·rename_i e; cases e
 ·rename_i e; cases e
 ·have:=(okV_some h).1
  rw [nrm_undef,fit_undef] at this
  cases this
theorem val_res (h:Rel C S θ a w) {i:Nat} {s:Sh} {x:AV} (hx:dataAt S s (S.slot i)=some x):WT s x∧CV w (okOf C w S θ) θ x (a.tmps.getD i undef):=by
 obtain ⟨u,h1,h2,h3⟩:=slot_in h (i:=i) (fun e=>by rw [e] at hx; exact dataAt_undef hx)
 rw [h2]
 exact dataAt_ok h h3 hx
theorem dataAt_WT {s:Sh} {v x:AV} (hd:dataAt S s v=some x):WT s x:=by
 unfold dataAt at hd
 split at hd
 ·split at hd <;> first | (cases hd; done) | skip
  obtain ⟨h2,rfl⟩:=okV_some hd
  exact ⟨_,by rw [beq_iff_eq.1 h2]⟩
 ·split at hd <;> first | (cases hd; done) | skip
  obtain ⟨h2,rfl⟩:=okV_some hd
  exact ⟨_,by rw [shEq_eq h2]⟩
 ·obtain ⟨h2,rfl⟩:=okV_some hd
  exact fit_WT _ _ h2
theorem slotOb_row {i:Nat} {k:Ok} {x:AV} {d:Option Nat} (hk:k.isRow=true) (h:slotOb S i k=some (x,d)) :
  (S.slot i=.nils∧d=none∧((∃ e kd,k=.row e kd∧x=.fs kd [])∨∃ e s,k=.rows e s∧x=.fv s []))∨∃ e,S.slot i=.own (.top e)∧d=some e∧objAt S e k=some x:=by
 unfold slotOb at h
 split at h
 ·rename_i hs
  left
  split at h <;> first | (cases h; done) | skip
  ·cases h; exact ⟨hs,rfl,.inl ⟨_,_,rfl,rfl⟩⟩
  ·cases h; exact ⟨hs,rfl,.inr ⟨_,_,rfl,rfl⟩⟩
 ·rename_i d' hs
  right
  split at h <;> first | (cases h; done) | skip
  rename_i e
  split at h <;> first | (cases h; done) | skip
  split at h <;> first | (cases h; done) | skip
  rename_i hx
  cases h
  exact ⟨e,hs,rfl,hx⟩
 ·split at h <;> first | (cases h; done) | skip
  split at h <;> first | (cases h; done) | skip
  rename_i hb
  rw [Bool.and_eq_true,hk] at hb
  simp at hb
 ·cases h
theorem objAt_row {d:Nat} {e:TypeId} {k:IntKind} {x:AV} (h:objAt S d (.row e k)=some x):∃ o xs,S.obj (.top d)=some o∧asRow k o=some (e,xs)∧x=.fs k xs:=by
 simp only [objAt] at h
 split at h <;> first | (cases h; done) | skip
 rename_i ob ho
 split at h <;> first | (cases h; done) | skip
 rename_i e' xs has
 obtain ⟨h2,rfl⟩:=okV_some h
 have h2:e=e':=by simpa using h2
 subst h2
 exact ⟨_,xs,ho,has,rfl⟩
theorem objAt_rows {d:Nat} {e:TypeId} {s:Sh} {x:AV} (h:objAt S d (.rows e s)=some x):∃ o xs,S.obj (.top d)=some o∧asRows s o=some (e,xs)∧x=.fv s xs:=by
 simp only [objAt] at h
 split at h <;> first | (cases h; done) | skip
 rename_i ob ho
 split at h <;> first | (cases h; done) | skip
 rename_i e' xs has
 obtain ⟨h2,rfl⟩:=okV_some h
 have h2:e=e':=by simpa using h2
 subst h2
 exact ⟨_,xs,ho,has,rfl⟩
theorem res1_eta {i:Nat} {t:Rk} {x:AV} {d:Option Nat} (h:res1 P S i t=some (x,d)):etaR t x=x:=by
 cases t with
 | val s=>
  simp only [res1] at h
  split at h <;> first | (cases h; done) | skip
  rename_i hx
  cases h
  exact eta_of_WT s x (dataAt_WT hx)
 | cell s t=>
  simp only [res1] at h
  split at h <;> first | (cases h; done) | skip
  split at h <;> first | (cases h; done) | skip
  split at h <;> first | (cases h; done) | skip
  split at h <;> first | (cases h; done) | skip
  rename_i hd
  cases h
  exact eta_of_WT s _ (dataAt_WT hd)
 | obj k=>
  cases k with
  | row e k=>
   rcases slotOb_row rfl (show slotOb S i (.row e k)=some (x,d) from h) with ⟨_,_,h1 | h1⟩ | ⟨e',_,_,h1⟩
   ·obtain ⟨_,_,q,rfl⟩:=h1; cases q; rfl
   ·obtain ⟨_,_,q,rfl⟩:=h1; cases q
   ·obtain ⟨_,xs,_,_,rfl⟩:=objAt_row h1; rfl
  | rows e s=>
   rcases slotOb_row rfl (show slotOb S i (.rows e s)=some (x,d) from h) with ⟨_,_,h1 | h1⟩ | ⟨e',_,_,h1⟩
   ·obtain ⟨_,_,q,rfl⟩:=h1; cases q
   ·obtain ⟨_,_,q,rfl⟩:=h1; cases q; rfl
   ·obtain ⟨_,xs,_,_,rfl⟩:=objAt_rows h1; rfl
  | box s=>rfl
  | iter f=>rfl
theorem absR_cons {i:Nat} {t:Rk} {r:Res} {l:List AV} {ds:List Nat} (h:absR P S ((i,t)::r)=some (l,ds)):∃ x d l' ds',l=x::l'∧ds=(match d with | some d=>d::ds' | none=>ds')∧res1 P S i t=some (x,d)∧absR P S r=some (l',ds'):=by
 simp only [absR] at h
 split at h <;> first | (cases h; done) | skip
 rename_i x d hx
 split at h <;> first | (cases h; done) | skip
 rename_i l' ds' hl
 cases h
 exact ⟨x,d,l',ds',rfl,rfl,hx,hl⟩
theorem etaL_absR:∀ (rs:Res) (l:List AV) (ds:List Nat) (q:List AV),absR P S rs=some (l,ds)→etaL rs (l++q)=l
 | [],l,ds,q,h=>by cases h; rfl
 | (i,t)::r,l,ds,q,h=>by
  obtain ⟨x,d,l',ds',rfl,_,h1,h2⟩:=absR_cons h
  simp only [etaL,List.cons_append,List.headD_cons,List.tail_cons,res1_eta h1,etaL_absR r l' ds' q h2]
theorem absR_get:∀ (rs:Res) (l:List AV) (ds:List Nat),absR P S rs=some (l,ds)→l.length=rs.length∧∀ (j i:Nat) (t:Rk),rs[j]? = some (i,t)→∃ x d,l[j]? = some x∧res1 P S i t=some (x,d)∧∀ e,d=some e→e∈ds
 | [],l,ds,h=>by
  cases h
  exact ⟨rfl,fun j i t hj=>by simp at hj⟩
 | (i,t)::r,l,ds,h=>by
  obtain ⟨x,d,l',ds',rfl,hds,h1,h2⟩:=absR_cons h
  obtain ⟨h3,h4⟩:=absR_get r l' ds' h2
  have hsub:∀ e,e∈ds'→e∈ds:=fun e he=>by rw [hds]; cases d <;> simp [he]
  refine ⟨by simp [h3],fun j i' t' hj=>?_⟩
  cases j with
  | zero=>
   simp only [List.getElem?_cons_zero,Option.some.injEq,Prod.mk.injEq] at hj
   obtain ⟨rfl,rfl⟩:=hj
   exact ⟨x,d,rfl,h1,fun e he=>by subst he; rw [hds]; simp⟩
  | succ j=>
   obtain ⟨y,d',q1,q2,q3⟩:=h4 j i' t' (by simpa using hj)
   exact ⟨y,d',by simpa using q1,q2,fun e he=>hsub e (q3 e he)⟩
def resV (P:Program) (w:World) (tmps:Array Value) (i:Nat):Rk→Value
 | .cell _ t=>match (do loadVar t (←asAddr (tmps.getD i undef)):Sem Value).run P w with
  | .ok v _=>v
  | .halt _ _=>undef
 | _=>tmps.getD i undef
theorem res1_run (h:Rel C S θ a w) {i:Nat} {t:Rk} {x:AV} {d:Option Nat} (hx:res1 P S i t=some (x,d)) :
  ((match t.rv i with | .tmp t=>pure (a.tmps.getD t undef) | .cell b t=>do loadVar t (←asAddr (a.tmps.getD b undef)):Sem Value).run P w=.ok (resV P w a.tmps i t) w)∧
    (∀ s,(t=.val s∨∃ ty,t=.cell s ty)→d=none∧WT s x∧CV w (okOf C w S θ) θ x (resV P w a.tmps i t)):=by
 cases t with
 | val s=>
  refine ⟨rfl,fun s' hs=>?_⟩
  have:s' = s:=by
   rcases hs with hs | ⟨ty,hs⟩
   ·cases hs; rfl
   ·cases hs
  subst this
  simp only [res1] at hx
  split at hx <;> first | (cases hx; done) | skip
  rename_i hd
  cases hx
  exact ⟨rfl,val_res h hd⟩
 | obj k=>
  refine ⟨rfl,fun s' hs=>?_⟩
  rcases hs with hs | ⟨ty,hs⟩ <;> cases hs
 | cell s ty=>
  simp only [res1] at hx
  split at hx <;> first | (cases hx; done) | skip
  rename_i d' off hs
  split at hx <;> first | (cases hx; done) | skip
  rename_i tr ho
  split at hx <;> first | (cases hx; done) | skip
  rename_i hb
  split at hx <;> first | (cases hx; done) | skip
  rename_i x' hdat
  cases hx
  rw [Bool.and_eq_true] at hb
  obtain ⟨hb1,hb2⟩:=hb
  have h0:=Nat.eq_of_beq_eq_true hb1
  subst h0
  obtain ⟨u,h1,h2,h3⟩:=slot_in h (i:=i) (by rw [hs]; intro e; cases e)
  rw [hs] at h3
  obtain ⟨g,q1,rfl⟩:=h3
  obtain ⟨g',e,fr,v,q2,q3,q4,q5,q6,q7⟩:=h.ob ho q1
  rw [q1] at q2
  cases q2
  obtain ⟨v',r1,r2⟩:=loadVar_ok (P:=P) hb2 q6 q5 (cellsAt_block q3)
  have hrun:(do loadVar ty (←asAddr (a.tmps.getD i undef)):Sem Value).run P w=.ok v' w:=by
   rw [h2]
   simp only [asAddr,Sem.run_bind,Sem.run_pure,Result.andThen_ok,r1]
  have hres:resV P w a.tmps i (.cell s ty)=v':=by
   simp only [resV,hrun]
  refine ⟨by rw [hres]; exact hrun,fun s' hs'=>?_⟩
  have:s' = s:=by
   rcases hs' with hs' | ⟨ty',hs'⟩
   ·cases hs'
   ·cases hs'; rfl
  subst this
  rw [hres]
  obtain ⟨t1,t2⟩:=dataAt_ok h r2 hdat
  exact ⟨rfl,t1,t2⟩
def ownCut (own:Option Nat) (j:Nat) (l:List AV):List AV:=match own with | some q=>if j≤q then l.set (q - j) .undef else l | none=>l
theorem res_data (h:Rel C S θ a w) {own:Option Nat} {esc:Bool} {okr:Nat→Prop} {θ1:Nm→Option Value} (hc:∀ s x v,inF fs s=true→(esc=true∨flatS s=true)→WT s x→CV w (okOf C w S θ) θ x v→CV w okr θ1 x v):∀ (rs:Res) (tys:List TypeId) (j:Nat) (l:List AV) (ds:List Nat),okAt P fs own esc j rs tys=true→absR P S rs=some (l,ds)→
  rs.length=tys.length∧(∀ i b,l[i]? = some b→isOwn own (j+i)=false→DataIn fs b)∧
  CVt w okr θ1 (ownCut own j l) (rs.map fun p=>resV P w a.tmps p.1 p.2)
 | [],[],j,l,ds,hok,hl=>by
  cases hl
  refine ⟨rfl,fun i b hi=>by simp at hi,?_⟩
  cases own with
  | none=>rfl
  | some q=>by_cases hj:j≤q <;> simp [hj,ownCut] <;> rfl
 | (i,t)::r,ty::tys,j,l,ds,hok,hl=>by
  obtain ⟨x,d,l',ds',rfl,_,h1,h2⟩:=absR_cons hl
  simp only [okAt,Bool.and_eq_true] at hok
  obtain ⟨hok1,hok2⟩:=hok
  obtain ⟨k1,k2,k3⟩:=res_data h hc r tys (j+1) l' ds' hok2 h2
  obtain ⟨_,hdat⟩:=res1_run h h1
  have dat:∀ s,(t=.val s∨∃ ty,t=.cell s ty)→(!isOwn own j && (inF fs s && (esc || flatS s)))=true→((i,t)::r).length=(ty::tys).length∧(∀ p b,(x::l')[p]? = some b→isOwn own (j+p)=false→DataIn fs b)∧
    CVt w okr θ1 (ownCut own j (x::l')) (((i,t)::r).map fun p=>resV P w a.tmps p.1 p.2):=by
   intro s hs hb
   simp only [Bool.and_eq_true,Bool.not_eq_true',Bool.or_eq_true] at hb
   obtain ⟨ho,hi,hf⟩:=hb
   obtain ⟨_,hw,hcv⟩:=hdat s hs
   have hcv':=hc s x _ hi hf hw hcv
   refine ⟨by simp [k1],fun p b hp hb=>?_,?_⟩
   ·cases p with
    | zero=>simp at hp; subst hp; exact ⟨s,hw,hi⟩
    | succ p=>exact k2 p b (by simpa using hp) (by rw [show j+1+p=j+(p+1) by omega]; exact hb)
   ·cases own with
    | none=>exact ⟨_,_,rfl,hcv',k3⟩
    | some q=>
     have hqj:q≠j:=fun e=>by subst e; simp [isOwn] at ho
     simp only [ownCut] at k3 ⊢
     by_cases hj:j≤q
     ·rw [show (if j≤q then (x::l').set (q - j) .undef else x::l')=x::l'.set (q - (j+1)) .undef by
       rw [if_pos hj,show q - j=(q - (j+1))+1 by omega]; rfl]
      rw [if_pos (show j+1≤q by omega)] at k3
      exact ⟨_,_,rfl,hcv',k3⟩
     ·simp only [hj,if_false]
      simp only [show ¬ j+1≤q by omega,if_false] at k3
      exact ⟨_,_,rfl,hcv',k3⟩
  have ownr:isOwn own j=true→((i,t)::r).length=(ty::tys).length∧(∀ p b,(x::l')[p]? = some b→isOwn own (j+p)=false→DataIn fs b)∧
    CVt w okr θ1 (ownCut own j (x::l')) (((i,t)::r).map fun p=>resV P w a.tmps p.1 p.2):=by
   intro ho
   refine ⟨by simp [k1],fun p b hp hb=>?_,?_⟩
   ·cases p with
    | zero=>rw [Nat.add_zero,ho] at hb; cases hb
    | succ p=>exact k2 p b (by simpa using hp) (by rw [show j+1+p=j+(p+1) by omega]; exact hb)
   ·cases own with
    | none=>cases ho
    | some q=>
     have hqj:q=j:=by simpa [isOwn] using ho
     subst hqj
     simp only [ownCut] at k3
     simp only [ownCut,Nat.le_refl,if_true,Nat.sub_self,List.set_cons_zero]
     simp only [show ¬ q+1≤q by omega,if_false] at k3
     exact ⟨_,_,rfl,trivial,k3⟩
  cases t with
  | val s=>exact dat s (.inl rfl) (by simpa only [Bool.and_eq_true] using hok1)
  | cell s ty'=>exact dat s (.inr ⟨ty',rfl⟩) (by simpa only [Bool.and_eq_true] using hok1)
  | obj k=>
   cases k with
   | row e kk=>simp only [Bool.and_eq_true] at hok1; exact ownr hok1.1
   | rows e s=>simp only [Bool.and_eq_true] at hok1; exact ownr hok1.1
   | box s=>cases hok1
   | iter f=>cases hok1
 | [],_::_,j,l,ds,hok,hl=>by cases (show false=true from hok)
 | _::_,[],j,l,ds,hok,hl=>by cases (show false=true from hok)
theorem okAt_get {own:Option Nat} {esc:Bool}:∀ (rs:Res) (tys:List TypeId) (j:Nat),okAt P fs own esc j rs tys=true→∀ k i t,rs[k]? = some (i,t)→isOwn own (j+k)=true→
  ∃ ty e,tys[k]? = some ty∧elemT P ty=some e∧((∃ kk,t=.obj (.row e kk))∨∃ s,t=.obj (.rows e s)∧inF fs s=true∧(esc=true∨flatS s=true))
 | [],tys,j,h,k,i,t,hk,_=>by simp at hk
 | _::_,[],j,h,_,_,_,_,_=>by cases (show false=true from h)
 | (i',t')::r,ty::tys,j,h,k,i,t,hk,ho=>by
  simp only [okAt,Bool.and_eq_true] at h
  cases k with
  | zero=>
   simp only [List.getElem?_cons_zero,Option.some.injEq,Prod.mk.injEq] at hk
   obtain ⟨rfl,rfl⟩:=hk
   rw [Nat.add_zero] at ho
   have el:∀ e,elemIs P ty e=true→elemT P ty=some e:=fun e he=>by
    unfold elemIs at he
    split at he
    ·rename_i e' hee
     have:e=e':=by simpa using he
     rw [hee,this]
    ·cases he
   have h1:=h.1
   cases t' with
   | val s=>simp [ho] at h1
   | cell s ty=>simp [ho] at h1
   | obj k=>
    cases k with
    | row e kk=>simp only [Bool.and_eq_true] at h1; exact ⟨ty,e,rfl,el e h1.2,.inl ⟨kk,rfl⟩⟩
    | rows e s=>simp only [Bool.and_eq_true,Bool.or_eq_true] at h1; exact ⟨ty,e,rfl,el e h1.2.1,.inr ⟨s,rfl,h1.2.2.1,h1.2.2.2⟩⟩
    | box s=>cases h1
    | iter f=>cases h1
  | succ k=>exact okAt_get r tys (j+1) h.2 k i t (by simpa using hk) (by rw [show j+1+k=j+(k+1) by omega]; exact ho)
theorem res_own (h:Rel C S θ a w) {ty:TypeId} {e:TypeId} {i:Nat} {t:Rk} {x:AV} {d:Option Nat} {esc:Bool} {S1:St} {θ1:Nm→Option Value} (hx:res1 P S i t=some (x,d)) (he:elemT P ty=some e) (ht:(∃ kk,t=.obj (.row e kk))∨∃ s,t=.obj (.rows e s)∧inF fs s=true∧(esc=true∨flatS s=true))
  {okr:Nat→Prop} (hc:(∀ b,blk (a.tmps.getD i undef)=some b→OwnB S θ b)→∀ s x v,inF fs s=true→(esc=true∨flatS s=true)→WT s x→CV w (okOf C w S θ) θ x v→CV w okr θ1 x v)
  (hnew:∀ e o v b,d=some e→S.obj (.top e)=some o→o.isOwn=true→θ (.top e)=some v→blk v=some b→C.w0.heap.size≤b∧¬ OwnB S1 θ1 b) :
  OwnRes P C w okr S1 θ1 ty x (a.tmps.getD i undef)∧DataIn fs x∧∀ b,blk (a.tmps.getD i undef)=some b→OwnB S θ b:=by
 have hnil:∀ k:Ok,(t=.obj k)→k.isRow=true→S.slot i=.nils→a.tmps.getD i undef=.slice none 0 0:=fun k _ _ hs=>by
  obtain ⟨u,_,h2,h3⟩:=slot_in h (i:=i) (by rw [hs]; intro e; cases e)
  rw [hs] at h3
  rw [h2]
  exact h3
 have hbN:∀ b,blk (.slice none 0 0)=some b→False:=fun b hb=>by cases hb
 have hslot:∀ d',S.slot i=.own (.top d')→∃ u,a.tmps.getD i undef=u∧θ (.top d')=some u∧∃ A n c,u=.slice A n c:=fun d' hs=>by
  obtain ⟨u,_,h4,h5⟩:=slot_in h (i:=i) (by rw [hs]; intro e; cases e)
  rw [hs] at h5
  exact ⟨u,h4,h5.1,h5.2⟩
 have hM:∀ {e:TypeId} {size n:Nat} {v:Value} {cs:List Value},OwnRow w C.M e size v n cs→(∀ b,blk v=some b→C.w0.heap.size≤b)→OwnRow w (fun g=>C.w0.heap.size≤g) e size v n cs:=by
  intro e size n v cs hr hb
  refine ⟨hr.1,?_⟩
  rcases hr.2 with h | ⟨g,cap,cur,fr,rfl,h1,h2⟩
  ·exact .inl h
  ·exact .inr ⟨g,cap,cur,fr,rfl,hb g rfl,h2⟩
 rcases ht with ⟨kk,rfl⟩ | ⟨s,rfl,hi,hf⟩
 ·rcases slotOb_row rfl (show slotOb S i (.row e kk)=some (x,d) from hx) with ⟨hs,_,h1 | h1⟩ | ⟨e',hs,hd,h1⟩
  ·obtain ⟨_,_,q,rfl⟩:=h1
   cases q
   rw [hnil _ rfl rfl hs]
   exact ⟨⟨base0_nil,⟨_,_,_,rfl⟩,fun b hb=>(hbN b hb).elim,e,he,.inl ⟨kk,[],rfl,rfl,.inl ⟨rfl,rfl⟩⟩⟩,⟨.fs kk,⟨_,rfl⟩,rfl⟩,fun b hb=>(hbN b hb).elim⟩
  ·obtain ⟨_,_,q,rfl⟩:=h1; cases q
  ·obtain ⟨o,xs,h2,h3,rfl⟩:=objAt_row h1
   obtain ⟨u,h4,h5,h6⟩:=hslot e' hs
   obtain ⟨hisO,v,h8,h9⟩:=asRow_ok h h2 (has_top h2) h3
   rw [h5] at h8
   cases h8
   rw [h4]
   have hB:∀ b,blk u=some b→OwnB S θ b:=fun b hb=>⟨_,_,u,h2,hisO,h5,hb⟩
   refine ⟨⟨h.base _ _ h5,h6,fun b hb=>⟨(hnew e' o u b hd h2 hisO h5 hb).2,C.M_F (h9.lt hb).2⟩,e,he,.inl ⟨kk,xs,rfl,hM h9 (fun b hb=>(hnew e' o u b hd h2 hisO h5 hb).1)⟩⟩,⟨.fs kk,⟨_,rfl⟩,rfl⟩,hB⟩
 ·rcases slotOb_row rfl (show slotOb S i (.rows e s)=some (x,d) from hx) with ⟨hs,_,h1 | h1⟩ | ⟨e',hs,hd,h1⟩
  ·obtain ⟨_,_,q,rfl⟩:=h1; cases q
  ·obtain ⟨_,_,q,rfl⟩:=h1
   cases q
   rw [hnil _ rfl rfl hs]
   exact ⟨⟨base0_nil,⟨_,_,_,rfl⟩,fun b hb=>(hbN b hb).elim,e,he,.inr ⟨s,[],[],rfl,by simp,rfl,by simp,.inl ⟨rfl,rfl⟩⟩⟩,⟨.fv s,⟨_,rfl⟩,hi⟩,fun b hb=>(hbN b hb).elim⟩
  ·obtain ⟨o,xs,h2,h3,rfl⟩:=objAt_rows h1
   obtain ⟨u,h4,h5,h6⟩:=hslot e' hs
   obtain ⟨hisO,v,cs,h8,hw,h9,h10⟩:=asRows_ok h h2 (has_top h2) h3
   rw [h5] at h8
   cases h8
   have hB:∀ b,blk u=some b→OwnB S θ b:=fun b hb=>⟨_,_,u,h2,hisO,h5,hb⟩
   have hc:=hc (by rw [h4]; exact hB)
   rw [h4]
   refine ⟨⟨h.base _ _ h5,h6,fun b hb=>⟨(hnew e' o u b hd h2 hisO h5 hb).2,C.M_F (h10.lt hb).2⟩,e,he,.inr ⟨s,xs,cs,rfl,hw,?_,hM h10 (fun b hb=>(hnew e' o u b hd h2 hisO h5 hb).1)⟩⟩,⟨.fv s,⟨_,rfl⟩,hi⟩,hB⟩
   have:∀ (xs:List AV) (cs:List Value),(∀ x∈xs,WT s x)→CVs w (okOf C w S θ) θ xs cs→CVs w okr θ1 xs cs:=by
    intro xs
    induction xs with
    | nil=>intro cs _ h; exact h
    | cons x xs ih=>
     intro cs hw h
     obtain ⟨v,rest,rfl,hs,h1,h2⟩:=h
     exact ⟨v,rest,rfl,hs,hc s x v hi hf (hw x (by simp)) h1,ih rest (fun y hy=>hw y (by simp [hy])) h2⟩
   exact this xs cs hw h9
theorem results_run {fn:Func} {rs:Res} (hfn:fn.results=(rs.map fun p=>p.2.rv p.1).toArray) (tmps:Array Value) (w:World)
  (hr:∀ p∈rs,((match p.2.rv p.1 with | .tmp t=>pure (tmps.getD t undef) | .cell b t=>do loadVar t (←asAddr (tmps.getD b undef)):Sem Value).run P w=.ok (resV P w tmps p.1 p.2) w)) :
  ∃ v,(results fn tmps).run P w=.ok v w∧((rs.length=1∧(rs.map fun p=>resV P w tmps p.1 p.2)=[v])∨(rs.length≠1∧v=.tuple (rs.map fun p=>resV P w tmps p.1 p.2).toArray)):=by
 have key:∀ (f:ResultVar→Sem Value),∀ rs:Res,(∀ p∈rs,(f (p.2.rv p.1)).run P w=.ok (resV P w tmps p.1 p.2) w)→((rs.map fun p=>p.2.rv p.1).mapM f).run P w=.ok (rs.map fun p=>resV P w tmps p.1 p.2) w:=by
  intro f rs
  induction rs with
  | nil=>intro _; simp
  | cons p rs ih=>
   intro hf
   rw [List.map_cons,List.mapM_cons]
   simp only [Sem.run_bind,hf p (by simp),Sem.run_pure,Result.andThen_ok,ih (fun q hq=>hf q (by simp [hq])),List.map_cons]
 unfold results
 rw [hfn,List.mapM_toArray]
 simp only [Sem.run_bind,Sem.run_map]
 rw [key _ rs hr]
 by_cases hl:rs.length=1
 ·match rs,hl with
  | [p],_=>exact ⟨resV P w tmps p.1 p.2,by simp,.inl ⟨rfl,rfl⟩⟩
 ·exact ⟨.tuple (rs.map fun p=>resV P w tmps p.1 p.2).toArray,by simp [hl],.inr ⟨hl,rfl⟩⟩
end
end Go.Am
end
section
set_option linter.unusedVariables false
set_option linter.unusedSimpArgs false
namespace Go.Am
open Go.RowKit
def PanEnd (P:Program) (D:FnD) (C:Ctx) (r:List AV) (a' : Act) (w' : World) (chain:List PanicEntry):Prop:=
 ∃ fv cap dargs f args,a'.defers=[{ target:=.fn fv cap,args:=dargs }]∧(invoke (.fn fv cap) dargs).run P w' = .ok (.enter f args) w'∧
  CallsD P f args (.panicking chain) w' fun e u' w''=>(∃ v,e=.returned v)∧settle u' = .returning∧∃ S'' θ'',D.fin P S'' = some r∧Rel C S'' θ'' a' w''
def BodyOk (P:Program) (E:Env) (D:FnD) (F:Nat→List AV→Option (List AV)):Prop:=
 ∀ (C:Ctx) (n:Nat) (as r:List AV),C.E=E→Pins C D.pn→F n as=some r→∀ (θ:Nm→Option Value) (a:Act) (w:World),Rel C (D.ini as) θ a w→a.defers=[]→
  ∀ Q:Exit→Act→World→Prop,(∀ (e:Ex) S' θ' a' w',(match e with | .ext _=>none | .nrm=>D.fin P S' | .ret=>D.fin P S' | .pan=>none)=some r→Rel C S' θ' a' w'→DefLe P a.defers a'.defers→e.all Q a' w')→
   (∀ a' w' chain,PanEnd P D C r a' w' chain→Q (.panic chain) a' w')→D.body.wp P Q a w
noncomputable def thFin (ps:List Pk) (fs:List FamD) (θ:Nm→Option Value):Nm→Option Value:=open Classical in fun d=>match d with
 | .top e=>if ∃ q k s,ioAt ps q=some (k,s)∧e=par k then θ (.top e) else none
 | .mem f i=>if ∃ D∈fs,D.f=f then θ (.mem f i) else none
section
variable {C:Ctx} {S S' T:St} {θ θ' : Nm→Option Value} {a:Act} {w w' : World} {n m:Nat} {P:Program} {o:Oper} {ok ok' : Nat→Prop} {fs:List FamD}
theorem thFin_io {ps:List Pk} {q k:Nat} {s:Sh} (h:ioAt ps q=some (k,s)):thFin ps fs θ (.top (par k))=θ (.top (par k)):=by
 simp only [thFin]
 rw [if_pos ⟨q,k,s,h,rfl⟩]
theorem thFin_top {ps:List Pk} {e:Nat} {v:Value} (h:thFin ps fs θ (.top e)=some v):(∃ q k s,ioAt ps q=some (k,s)∧e=par k)∧θ (.top e)=some v:=by
 simp only [thFin] at h
 split at h
 ·rename_i hh; exact ⟨hh,h⟩
 ·cases h
theorem thFin_mem {ps:List Pk} {D:FamD} {i:Nat} (h:D∈fs):thFin ps fs θ (.mem D.f i)=θ (.mem D.f i):=by
 simp only [thFin]
 rw [if_pos ⟨D,h,rfl⟩]
theorem thFin_mem' {ps:List Pk} {f i:Nat} {v:Value} (h:thFin ps fs θ (.mem f i)=some v):(∃ D∈fs,D.f=f)∧θ (.mem f i)=some v:=by
 simp only [thFin] at h
 split at h
 ·rename_i hh; exact ⟨hh,h⟩
 ·cases h
theorem thFin_le {ps:List Pk} {d:Nm} {v:Value} (h:thFin ps fs θ d=some v):θ d=some v:=by
 cases d with
 | top e=>exact (thFin_top h).2
 | mem f i=>exact (thFin_mem' h).2
theorem ioPars_mem {k:Nat} {s:Sh}:∀ {ps:List Pk} {j q:Nat},ioAt ps q=some (k,s)→par (j+k)∈ioPars ps j:=by
 intro ps
 induction ps generalizing k with
 | nil=>intro j q h; cases h
 | cons p ps ih=>
  intro j q h
  cases p with
  | io s'=>
   cases q with
   | zero=>cases h; simp [ioPars]
   | succ q=>
    simp only [ioAt,Option.map_eq_some_iff] at h
    obtain ⟨⟨k1,s1⟩,h1,h2⟩:=h
    cases h2
    have:=ih (j:=j+1) h1
    rw [show j+1+k1=j+(k1+1) by omega] at this
    simp [ioPars,this]
  | val s'=>
   simp only [ioAt,Option.map_eq_some_iff] at h
   obtain ⟨⟨k1,s1⟩,h1,h2⟩:=h
   cases h2
   have:=ih (j:=j+1) h1
   rw [show j+1+k1=j+(k1+1) by omega] at this
   simpa [ioPars] using this
  | fn s'=>
   simp only [ioAt,Option.map_eq_some_iff] at h
   obtain ⟨⟨k1,s1⟩,h1,h2⟩:=h
   cases h2
   have:=ih (j:=j+1) h1
   rw [show j+1+k1=j+(k1+1) by omega] at this
   simpa [ioPars] using this
theorem ioEs_abs:∀ (ps:List Pk) (j:Nat) (ns ds:List Nat) (il:List AV),absT S (ioEs ps j) ns ds=some il→
  il.length=nIos ps∧∀ q k s,ioAt ps q=some (k,s)→∃ x,il[q]? = some x∧objAt S (par (j+k)) (.box s)=some x∧par (j+k) ∉ ds
 | [],j,ns,ds,il,h=>by cases h; exact ⟨rfl,fun q k s hq=>by cases hq⟩
 | .io s::ps,j,ns,ds,il,h=>by
  simp only [ioEs,absT] at h
  split at h <;> first | (cases h; done) | skip
  rename_i x hx
  obtain ⟨hh,h1⟩:=noneIf_some h
  rw [Bool.or_eq_false_iff] at hh
  obtain ⟨l',h2,rfl⟩:=consO_some h1
  obtain ⟨h3,h4⟩:=ioEs_abs ps (j+1) _ _ l' h2
  refine ⟨by simp [h3,nIos],fun q k s' hq=>?_⟩
  cases q with
  | zero=>cases hq; exact ⟨x,rfl,hx,hasN_mem hh.2⟩
  | succ q=>
   simp only [ioAt,Option.map_eq_some_iff] at hq
   obtain ⟨⟨k1,s1⟩,h5,h6⟩:=hq
   cases h6
   obtain ⟨y,q1,q2,q3⟩:=h4 q k1 s1 h5
   rw [show j+1+k1=j+(k1+1) by omega] at q2 q3
   exact ⟨y,by simpa using q1,q2,fun hm=>q3 (by simp [hm])⟩
 | .val s::ps,j,ns,ds,il,h=>by
  obtain ⟨h3,h4⟩:=ioEs_abs ps (j+1) ns ds il h
  refine ⟨by simpa [nIos] using h3,fun q k s' hq=>?_⟩
  simp only [ioAt,Option.map_eq_some_iff] at hq
  obtain ⟨⟨k1,s1⟩,h5,h6⟩:=hq
  cases h6
  obtain ⟨y,q1,q2,q3⟩:=h4 q k1 s1 h5
  rw [show j+1+k1=j+(k1+1) by omega] at q2 q3
  exact ⟨y,q1,q2,q3⟩
 | .fn s::ps,j,ns,ds,il,h=>by
  obtain ⟨h3,h4⟩:=ioEs_abs ps (j+1) ns ds il h
  refine ⟨by simpa [nIos] using h3,fun q k s' hq=>?_⟩
  simp only [ioAt,Option.map_eq_some_iff] at hq
  obtain ⟨⟨k1,s1⟩,h5,h6⟩:=hq
  cases h6
  obtain ⟨y,q1,q2,q3⟩:=h4 q k1 s1 h5
  rw [show j+1+k1=j+(k1+1) by omega] at q2 q3
  exact ⟨y,q1,q2,q3⟩
theorem lookF_append {l l' : List (Nat × Fam)} {f:Nat}:lookF (l++l') f=match lookF l f with | some F=>some F | none=>lookF l' f:=by
 induction l with
 | nil=>rfl
 | cons x r ih=>
  simp only [List.cons_append,lookF]
  cases Nat.beq f x.1 with
  | true=>rfl
  | false=>exact ih
theorem pvFm_look {f:Nat} {F:Fam}:∀ {pv:List FamD},lookF (pvFm pv) f=some F→F.l=[]
 | [],h=>by cases h
 | D::r,h=>by
  simp only [pvFm,lookF] at h
  split at h
  ·cases h; rfl
  ·exact pvFm_look h
theorem FnD.sound_of {E:Env} {f:FuncId} {fn:Func} {D:FnD} {Fn:Nat→List AV→Option (List AV)} (hbody:BodyOk P E D Fn)
  (hf : P.funcs[f]? = some fn) (hb : fn.body = some D.body) (hn : fn.name ≠ "runtime.NumGoroutine") (hnt : fn.ntmps = D.m) (hres : fn.results = (D.rs.map fun p => p.2.rv p.1).toArray) (hg : D.good P = true) :
  SoundCal P E f (mkCal D Fn):=by
 show SoundCal0 P E f (mkCal D Fn)
 unfold FnD.good at hg
 simp only [Bool.and_eq_true] at hg
 obtain ⟨hg1,hg2,hg3,hg4⟩:=hg
 have hesc:D.esc=true∨calFlat D.ps D.fs=true:=by simpa using hg4
 refine ⟨⟨fn,hf,by rw [hb]; rfl,hn⟩,hesc,?_⟩
 intro n as r hF C0 args θ0 hE hI hH hargs hglob
 unfold allIn at hg3
 simp only [Bool.and_eq_true] at hg3
 obtain ⟨hinP,hinF,hnd⟩:=hg3
 have hinS:∀ q k s,ioAt D.ps q=some (k,s)→inF D.fs s=true:=fun q k s hq=>List.all_eq_true.1 hinP (.io s) (List.mem_of_getElem? (ioAt_get hq))
 have hinD:∀ X∈D.fs,inF D.fs X.s=true∧∀ ks,X.ks=some ks→inF D.fs ks=true:=fun X hX=>by
  have:=List.all_eq_true.1 hinF X hX
  unfold famIn at this
  rw [Bool.and_eq_true] at this
  refine ⟨this.1,fun ks hks=>?_⟩
  have h2:=this.2
  rw [hks] at h2
  exact h2
 have hflS:∀ q k s,ioAt D.ps q=some (k,s)→D.esc=true∨flatS s=true:=fun q k s hq=>by
  rcases hesc with h | h
  ·exact .inl h
  ·unfold calFlat at h
   rw [Bool.and_eq_true] at h
   exact .inr (List.all_eq_true.1 h.1 (.io s) (List.mem_of_getElem? (ioAt_get hq)))
 have hflD:∀ X∈D.fs,(D.esc=true∨flatS X.s=true)∧∀ ks,X.ks=some ks→D.esc=true∨flatS ks=true:=fun X hX=>by
  rcases hesc with h | h
  ·exact ⟨.inl h,fun _ _=>.inl h⟩
  ·unfold calFlat at h
   rw [Bool.and_eq_true] at h
   have h2:=List.all_eq_true.1 h.2 X hX
   unfold famFlat at h2
   rw [Bool.and_eq_true] at h2
   refine ⟨.inr h2.1,fun ks hks=>.inr ?_⟩
   have h3:=h2.2
   rw [hks] at h3
   exact h3
 let C:Ctx:={ C0 with pin:=θ0 }
 let HP:St:=(mkCal D Fn).hp as
 have hfam1:∀ f F,HP.fam f=some F→(D.ini as).fam f=some F:=fun f F h=>by
  show lookF (iniFm D.fs (as.drop D.ps.length)++pvFm D.pv) f=some F
  rw [lookF_append,show lookF (iniFm D.fs (as.drop D.ps.length)) f=some F from h]
 have hfam2:∀ f F,(D.ini as).fam f=some F→HP.fam f=some F∨F.l=[]:=fun f F h=>by
  have h:lookF (iniFm D.fs (as.drop D.ps.length)++pvFm D.pv) f=some F:=h
  rw [lookF_append] at h
  cases hq:lookF (iniFm D.fs (as.drop D.ps.length)) f with
  | some F'=>rw [hq] at h; cases h; exact .inl hq
  | none=>rw [hq] at h; exact .inr (pvFm_look h)
 have hhas:∀ d,(D.ini as).has d↔HP.has d:=fun d=>by
  cases d with
  | top e=>exact Iff.rfl
  | mem f i=>
   constructor
   ·rintro ⟨F,h1,h2⟩
    rcases hfam2 f F h1 with h | h
    ·exact ⟨F,h,h2⟩
    ·rw [h] at h2; simp at h2
   ·rintro ⟨F,h1,h2⟩
    exact ⟨F,hfam1 f F h1,h2⟩
 have hobj:∀ d,HP.has d→(D.ini as).obj d=HP.obj d:=fun d hd=>by
  cases d with
  | top e=>rfl
  | mem f i=>
   obtain ⟨F,h1,h2⟩:=hd
   rw [obj_mem h1,obj_mem (hfam1 f F h1)]
 have hhasθ:∀ d v,θ0 d=some v→HP.has d:=fun d v hv=>by
  refine Classical.byContradiction (fun hn=>?_)
  rw [hH.fresh d hn] at hv
  cases hv
 have hown:∀ b,OwnB (D.ini as) θ0 b↔OwnB HP θ0 b:=fun b=>by
  constructor
  ·rintro ⟨d,o,v,h1,h2,h3,h4⟩
   exact ⟨d,o,v,by rw [←hobj d (hhasθ d v h3)]; exact h1,h2,h3,h4⟩
  ·rintro ⟨d,o,v,h1,h2,h3,h4⟩
   exact ⟨d,o,v,by rw [hobj d (hhasθ d v h3)]; exact h1,h2,h3,h4⟩
 have hok:∀ b,okOf C0 C0.w0 HP θ0 b→okOf C C0.w0 (D.ini as) θ0 b:=fun b hb=>⟨hb.1,hb.2.1,fun h=>hb.2.2 ((hown b).1 h)⟩
 replace hargs:CVt C0.w0 (okOf C0 C0.w0 HP θ0) θ0 (iniSl D.ps 0 as) args.toList:=hargs
 have hlen:(iniSl D.ps 0 as).length=args.size:=by
  have:∀ (as:List AV) (vs:List Value),CVt C0.w0 (okOf C0 C0.w0 HP θ0) θ0 as vs→as.length=vs.length:=by
   intro as
   induction as with
   | nil=>intro vs h; have h:vs=[]:=h; rw [h]; rfl
   | cons a as ih=>intro vs h; obtain ⟨v,rest,rfl,_,h2⟩:=h; simp [ih rest h2]
  simpa using this _ _ hargs
 have hget:∀ (as:List AV) (vs:List Value),CVt C0.w0 (okOf C0 C0.w0 HP θ0) θ0 as vs→∀ (i:Nat) v,vs[i]? = some v→∃ x,as[i]? = some x∧CV C0.w0 (okOf C0 C0.w0 HP θ0) θ0 x v:=by
  intro as
  induction as with
  | nil=>intro vs h i v hi; have h:vs=[]:=h; subst h; simp at hi
  | cons a as ih=>
   intro vs h i v hi
   obtain ⟨u,rest,rfl,h1,h2⟩:=h
   cases i with
   | zero=>simp at hi; subst hi; exact ⟨a,rfl,h1⟩
   | succ i=>simpa using ih rest h2 i v (by simpa using hi)
 have hrel:Rel C (D.ini as) θ0 { tmps:=args++Array.replicate (fn.ntmps - args.size) undef,defers:=[] } C0.w0:=by
  refine ⟨by simp [FnD.ini,hlen,hnt],fun i v hi=>?_,fun d o hd ho=>?_,fun d hd=>hH.fresh d (fun h=>hd ((hhas d).2 h)),fun d d' o o' v v' b h1 h2 h3 h4 hne h5 h6=>?_,hH.os,hH.tape,hH.output,hH.size,hH.frame,fun g t hgt=>?_,hH.base,fun d v hv=>hv⟩
  ·by_cases hlt:i<args.size
   ·have hi:args.toList[i]? = some v:=by
     rw [Array.getElem?_append_left hlt] at hi
     simpa using hi
    obtain ⟨x,h1,h2⟩:=hget _ _ hargs i v hi
    have:(D.ini as).slot i=x:=by
     simp only [St.slot,FnD.ini,List.getD_eq_getElem?_getD]
     rw [List.getElem?_append_left (by omega),h1]
     rfl
    rw [this]
    exact CV_mono (keepsOk hok) _ _ h2
   ·have:(D.ini as).slot i=.undef:=by
     simp only [St.slot,FnD.ini,List.getD_eq_getElem?_getD]
     rw [List.getElem?_append_right (by omega),List.getElem?_replicate]
     split <;> rfl
    rw [this]
    trivial
  ·have hd':=(hhas d).1 hd
   rw [hobj d hd'] at ho
   exact (hH.objs d o hd' ho).mono (keepsOk hok) (fun _ _ _ _ _=>rfl)
  ·rw [hobj d (hhasθ d v h5)] at h1
   rw [hobj d' (hhasθ d' v' h6)] at h2
   exact hH.sep d d' o o' v v' b h1 h2 h3 h4 hne h5 h6
  ·have:=hglob g t (by rw [←hE]; exact hgt)
   exact CV_mono ⟨hok,fun _ _=>rfl,fun _ _ h=>by cases h⟩ _ _ this
 have hpins:Pins C D.pn:=by
  intro d v hv
  have hd:=hhasθ d v hv
  cases d with
  | top e=>
   cases hq:look (iniOb D.ps 0 as) e with
   | none=>exact (hd hq).elim
   | some o=>
    obtain ⟨k,s,x,h1,h2,rfl,h4⟩:=look_iniOb hq
    obtain ⟨q,_,h5⟩:=ioAt_of h1
    exact ioPars_mem h5
  | mem f i=>
   obtain ⟨F,h1,_⟩:=hd
   obtain ⟨k,X,x,h2,h3,rfl,_⟩:=iniFm_look (show lookF (iniFm D.fs (as.drop D.ps.length)) f=some F from h1)
   exact List.mem_map.2 ⟨X,List.mem_of_getElem? h2,rfl⟩
 have hfull:(mkCal D Fn).full as r=r:=List.append_nil r
 rw [hfull]
 refine calls_of_wp_defers hf hb ?_
 have fin0:∀ (S' : St) (θ' : Nm→Option Value) (a' : Act) (w' : World),Rel C S' θ' a' w'→D.fin P S' = some r→∃ v,(results fn a'.tmps).run P w' = .ok v w'∧∃ v' θ1,Ending.returned v=.returned v'∧(∀ d x,θ0 d=some x→θ1 d=some x)∧
   ResOK P C0 D.fs w' ((mkCal D Fn).hq r) θ1 D.esc D.ty D.own (etaL D.rs r) v':=by
  intro S' θ' a' w' hr' hfin
  unfold FnD.fin at hfin
  split at hfin <;> first | (cases hfin; done) | skip
  rename_i l ds hl
  split at hfin <;> first | (cases hfin; done) | skip
  rename_i il hil
  split at hfin <;> first | (cases hfin; done) | skip
  rename_i fl hfl
  cases hfin
  rw [etaL_absR _ _ _ _ hl]
  obtain ⟨hil1,hil2⟩:=ioEs_abs _ _ _ _ _ hil
  obtain ⟨hfl1,hfl2⟩:=absF_spec _ _ hfl
  obtain ⟨hl1,hl2⟩:=absR_get _ _ _ hl
  have hlty:D.rs.length=D.ty.length:=(res_data (fs:=D.fs) (okr:=okOf C w' S' θ') (θ1:=θ') hr' (fun _ _ _ _ _ _ h=>h) _ _ 0 _ _ hg1 hl).1
  let θ1:=thFin D.ps D.fs θ'
  let S1:St:=(mkCal D Fn).hq (l++(il++fl))
  have hS1ob:S1.ob=finOb D.ps 0 (il++fl):=by
   show finOb D.ps 0 ((l++(il++fl)).drop D.ty.length)=_
   rw [←hlty,←hl1,List.drop_left]
  have hS1fm:S1.fm=iniFm D.fs fl:=by
   show iniFm D.fs ((l++(il++fl)).drop (D.ty.length+nIos D.ps))=_
   rw [←hlty,←hl1,←hil1,←List.drop_drop,List.drop_left,List.drop_left]
  have hio:∀ q k s,ioAt D.ps q=some (k,s)→∃ t x,il[q]? = some x∧S'.obj (.top (par k))=some (.box t)∧fitA s (nrm s t)=true∧x=nrm s t∧par k ∉ ds∧S1.obj (.top (par k))=some (.box (eta s x)):=by
   intro q k s hq
   obtain ⟨x,h1,h2,h3⟩:=hil2 q k s hq
   rw [Nat.zero_add] at h2 h3
   simp only [objAt] at h2
   split at h2 <;> first | (cases h2; done) | skip
   rename_i t ho
   obtain ⟨h4,rfl⟩:=okV_some h2
   refine ⟨t,_,h1,ho,h4,rfl,h3,?_⟩
   show look S1.ob (par k)=_
   rw [hS1ob]
   have hql:q<il.length:=(List.getElem?_eq_some_iff.1 h1).1
   have:=look_finOb (j:=0) (xs:=il++fl) hq (by rw [List.getElem?_append_left hql]; exact h1)
   rw [Nat.zero_add] at this
   exact this
  have htop:∀ e o,S1.obj (.top e)=some o→∃ q k s t x,ioAt D.ps q=some (k,s)∧e=par k∧il[q]? = some x∧S'.obj (.top (par k))=some (.box t)∧fitA s (nrm s t)=true∧x=nrm s t∧o=.box (eta s x):=by
   intro e o ho
   have ho:look S1.ob e=some o:=ho
   rw [hS1ob] at ho
   obtain ⟨q,k,s,x,h1,h2,h3,h4⟩:=finOb_look ho
   rw [Nat.zero_add] at h3
   obtain ⟨t,x',k1,k2,k3,k4,_,_⟩:=hio q k s h1
   have hql:q<il.length:=(List.getElem?_eq_some_iff.1 k1).1
   rw [List.getElem?_append_left hql,k1] at h2
   cases h2
   exact ⟨q,k,s,t,x,h1,h3,k1,k2,k3,k4,h4⟩
  have hfams:∀ X∈D.fs,∃ F,S'.fam X.f=some F∧F.s=X.s∧F.ks=X.ks∧S1.fam X.f=some F:=by
   intro X hX
   obtain ⟨k,hk⟩:=List.getElem?_of_mem hX
   obtain ⟨F,h1,h2,h3⟩:=hfl2 k X hk
   refine ⟨F,h1,by rw [h2],by rw [h2],?_⟩
   show lookF S1.fm X.f=some F
   rw [hS1fm,look_iniFm (xs:=fl) hnd hk h3,h2]
   rfl
  have hfam' : ∀ f F,S1.fam f=some F→(∃ X∈D.fs,X.f=f∧F.s=X.s∧F.ks=X.ks)∧S'.fam f=some F:=by
   intro f F hF
   have hF' : lookF S1.fm f=some F:=hF
   rw [hS1fm] at hF'
   obtain ⟨k,X,x,h1,h2,rfl,_⟩:=iniFm_look hF'
   have hX:=List.mem_of_getElem? h1
   obtain ⟨F',q1,q2,q3,q4⟩:=hfams X hX
   rw [hF] at q4
   cases q4
   exact ⟨⟨X,hX,rfl,q2,q3⟩,q1⟩
  have hback:∀ d o v,S1.obj d=some o→θ1 d=some v→∃ o',S'.obj d=some o'∧o'.isOwn=true∧θ' d=some v:=by
   intro d o v h1 h2
   cases d with
   | top e=>
    obtain ⟨q,k,s,t,x,k1,rfl,_,k4,_⟩:=htop e o h1
    exact ⟨_,k4,rfl,thFin_le h2⟩
   | mem f i=>
    obtain ⟨F,hF,rfl⟩:=fam_of_obj h1
    exact ⟨_,obj_mem (hfam' f F hF).2,at_own F i,thFin_le h2⟩
  have hownb:∀ b,OwnB S1 θ1 b→OwnB S' θ' b:=by
   rintro b ⟨d,o,v,h1,h2,h3,h4⟩
   obtain ⟨o',k1,k2,k3⟩:=hback d o v h1 h3
   exact ⟨d,o',v,k1,k2,k3,h4⟩
  have hml:MemLe D.fs θ' θ1:=fun X hX i x hx=>by rw [show θ1 (.mem X.f i)=θ' (.mem X.f i) from thFin_mem hX]; exact hx
  have hsame:∀ d x,θ0 d=some x→θ1 d=some x:=by
   intro d x hx
   have h1:θ' d=some x:=hr'.pin d x hx
   have h2:=hpins d x hx
   cases d with
   | top e=>
    cases hq:look (iniOb D.ps 0 as) e with
    | none=>exact (hhasθ _ x hx hq).elim
    | some o=>
     obtain ⟨k,s,y,h3,_,rfl,_⟩:=look_iniOb hq
     obtain ⟨q,_,h5⟩:=ioAt_of h3
     rw [Nat.zero_add] at h1 ⊢
     rw [show θ1 (.top (par k))=θ' (.top (par k)) from thFin_io h5]
     exact h1
   | mem f i=>
    obtain ⟨X,hX,rfl⟩:=List.mem_map.1 h2
    exact hml X hX i x h1
  have conv:∀ (u:Option Nat),(∀ b,u=some b→OwnB S' θ' b)→∀ s x v,inF D.fs s=true→(D.esc=true∨flatS s=true)→WT s x→CV w' (okOf C w' S' θ') θ' x v→CV w' (okR C0 w' S1 θ1 D.esc u) θ1 x v:=by
   intro u hu s x v hi hf hw hv
   cases hesc' : D.esc with
   | true=>exact CV_in hml (fun b hb=>⟨hb.1,hb.2.1,fun h=>hb.2.2 (hownb b h),fun e=>hb.2.2 (hu b e.symm),fun e=>by cases e⟩) s x v hw hi hv
   | false=>
    rw [hesc'] at hf
    exact CV_flat hml s x v hw hi (by simpa using hf) hv
  have hrel1:∀ (u:Option Nat),(∀ b,u=some b→OwnB S' θ' b)→HRel C0 (okR C0 w' S1 θ1 D.esc u) S1 θ1 w':=by
   intro u hu
   have cv:=conv u hu
   refine ⟨fun d o hd ho=>?_,fun d hd=>?_,fun d d' o o' v v' b h1 h2 h3 h4 hne h5 h6 h7=>?_,hr'.os,hr'.tape,hr'.output,hr'.size,hr'.frame,fun d v hv=>hr'.base d v (thFin_le hv)⟩
   ·cases d with
    | top e=>
     obtain ⟨q,k,s,t,x,k1,rfl,k2,k3,k4,k5,rfl⟩:=htop e o ho
     have ht:θ1 (.top (par k))=θ' (.top (par k)):=thFin_io k1
     have hov:=hr'.obT k3
     refine OV_box_conv (C':=C0) (A:=fun s=>inF D.fs s=true∧(D.esc=true∨flatS s=true)) (fun s x v hA hw hv=>cv s x v hA.1 hA.2 hw hv) ⟨hinS q k s k1,hflS q k s k1⟩ hov k5 (by rw [k5]; exact fit_WT _ _ k4) (fun v hv=>by rw [ht]; exact hv) (fun g hg=>?_)
     exact (hov.lt rfl hg rfl).2
    | mem f i=>
     obtain ⟨F,hF,rfl⟩:=fam_of_obj ho
     obtain ⟨⟨X,hX,rfl,q1,q2⟩,q3⟩:=hfam' f F hF
     obtain ⟨F',r1,r2⟩:=hd
     rw [hF] at r1
     cases r1
     have hov:=hr'.objs (.mem X.f i) (F.at i) ⟨F,q3,r2⟩ (obj_mem q3)
     refine OV_at_conv (C':=C0) (A:=fun s=>inF D.fs s=true∧(D.esc=true∨flatS s=true)) (fun s x v hA hw hv=>cv s x v hA.1 hA.2 hw hv) (by rw [q1]; exact ⟨(hinD X hX).1,(hflD X hX).1⟩) (fun ks hks=>?_) hov (fun v hv=>?_) (fun g v hv hb=>(hov.lt (at_own F i) hv hb).2)
     ·rw [q2] at hks
      exact ⟨(hinD X hX).2 ks hks,(hflD X hX).2 ks hks⟩
     ·rw [show θ1 (.mem X.f i)=θ' (.mem X.f i) from thFin_mem hX]; exact hv
   ·cases hv:θ1 d with
    | none=>rfl
    | some v=>
     exfalso
     cases d with
     | top e=>
      obtain ⟨⟨q,k,s,h1,rfl⟩,h2⟩:=thFin_top hv
      obtain ⟨_,_,_,_,_,_,_,h3⟩:=hio q k s h1
      exact hd (has_top h3)
     | mem f i=>
      obtain ⟨⟨X,hX,rfl⟩,h2⟩:=thFin_mem' hv
      obtain ⟨F,q1,_,_,q2⟩:=hfams X hX
      obtain ⟨F',r1,r2⟩:=hr'.has_of h2
      rw [q1] at r1
      cases r1
      exact hd ⟨F,q2,r2⟩
   ·obtain ⟨p,q1,q2,q3⟩:=hback d o v h1 h5
    obtain ⟨p',q1',q2',q3'⟩:=hback d' o' v' h2 h6
    exact hr'.sep d d' p p' v v' b q1 q1' q2 q2' hne q3 q3' h7
  have hrun:∀ p∈D.rs,((match p.2.rv p.1 with | .tmp t=>pure (a'.tmps.getD t undef) | .cell b t=>do loadVar t (←asAddr (a'.tmps.getD b undef)):Sem Value).run P w' = .ok (resV P w' a'.tmps p.1 p.2) w'):=by
   intro p hp
   obtain ⟨j,hj⟩:=List.getElem?_of_mem hp
   obtain ⟨x,d,_,h2,_⟩:=hl2 j p.1 p.2 hj
   exact (res1_run hr' h2).1
  obtain ⟨v,hv,hvs⟩:=results_run (P:=P) hres a'.tmps w' hrun
  refine ⟨v,hv,v,θ1,rfl,hsame,?_⟩
  refine ⟨by rw [hl1,hlty],D.rs.map (fun p=>resV P w' a'.tmps p.1 p.2),?_,?_⟩
  ·rw [←hlty]
   exact hvs
  ·cases hown:D.own with
   | none=>
    rw [hown] at hg1
    obtain ⟨_,k2,k3⟩:=res_data (fs:=D.fs) hr' (conv none (fun b hb=>by cases hb)) _ _ 0 _ _ hg1 hl
    refine ⟨hrel1 none (fun b hb=>by cases hb),k3,fun b hb=>?_⟩
    obtain ⟨i,hi⟩:=List.getElem?_of_mem hb
    exact k2 i b hi rfl
   | some q=>
    rw [hown] at hg1 hg2
    have hq:q<D.rs.length:=by simpa using hg2
    obtain ⟨p,hp⟩ : ∃ p,D.rs[q]? = some p:=⟨_,List.getElem?_eq_getElem hq⟩
    obtain ⟨i,t⟩:=p
    obtain ⟨x,d,hx1,hx2,hx3⟩:=hl2 q i t hp
    obtain ⟨ty,e,ht1,ht2,ht3⟩:=okAt_get _ _ 0 hg1 q i t hp (by simp [isOwn])
    have hrv:resV P w' a'.tmps i t=a'.tmps.getD i undef:=by
     rcases ht3 with ⟨kk,rfl⟩ | ⟨s,rfl,_⟩ <;> rfl
    obtain ⟨hor,hdi,hB⟩:=res_own (C:=C) (fs:=D.fs) (S1:=S1) (θ1:=θ1) (okr:=okR C0 w' S1 θ1 D.esc (blk (a'.tmps.getD i undef))) hr' hx2 ht2 ht3 (fun hB=>conv _ hB) (fun e o v b hde ho hoo hov hbv=>by
     have hnk:∀ d' o',S'.obj d' = some o'→o'.isOwn=true→d'≠.top e→∀ v',θ' d' = some v'→blk v'≠some b:=fun d' o' h1 h2 h3 v' h4=>hr'.sep (.top e) d' o o' v v' b ho h1 hoo h2 (fun h=>h3 h.symm) hov h4 hbv
     have hne:∀ d' o' v',S1.obj d' = some o'→θ1 d' = some v'→blk v'≠some b:=by
      intro d' o' v' h1 h2
      obtain ⟨o'',q1,q2,q3⟩:=hback d' o' v' h1 h2
      refine hnk d' o'' q1 q2 (fun hh=>?_) v' q3
      subst hh
      obtain ⟨q',k,s,t',x',k1,rfl,_⟩:=htop e o' h1
      obtain ⟨_,_,_,_,_,_,k5,_⟩:=hio q' k s k1
      exact k5 (hx3 _ hde)
     constructor
     ·rcases ((hr'.ob ho hov).lt hoo hov hbv).2 with h | h
      ·exact h
      ·exfalso
       obtain ⟨d',o',v',h1,h2,h3,h4⟩:=(hI b).1 h
       have h5:=hsame d' v' h3
       have h6:∃ o'',S1.obj d' = some o'':=by
        cases d' with
        | top e'=>
         obtain ⟨⟨q',k,s,k1,rfl⟩,_⟩:=thFin_top h5
         obtain ⟨_,_,_,_,_,_,_,k6⟩:=hio q' k s k1
         exact ⟨_,k6⟩
        | mem f' i'=>
         obtain ⟨⟨X,hX,rfl⟩,_⟩:=thFin_mem' h5
         obtain ⟨F,_,_,_,q2⟩:=hfams X hX
         exact ⟨_,obj_mem q2⟩
       obtain ⟨o'',h6⟩:=h6
       exact hne d' o'' v' h6 h5 h4
     ·rintro ⟨d',o',v',h1,h2,h3,h4⟩
      exact hne d' o' v' h1 h3 h4)
    obtain ⟨_,k2,k3⟩:=res_data (fs:=D.fs) hr' (conv (blk (a'.tmps.getD i undef)) hB) _ _ 0 _ _ hg1 hl
    refine ⟨x,a'.tmps.getD i undef,ty,hx1,by simp [hp,hrv],ht1,hdi,hrel1 _ hB,hor,by simpa [ownCut] using k3,fun p b hpq hb=>k2 p b hb ?_⟩
    simp only [isOwn,Nat.zero_add]
    cases hbq:Nat.beq q p with
    | false=>rfl
    | true=>simp at hbq; exact (hpq hbq.symm).elim
 refine hbody C n as r hE hpins hF _ _ C0.w0 hrel rfl _ (fun e S' θ' a' w' hk hr' hd'=>?_) (fun a' w' chain hp=>?_)
 ·have hq:∀ d∈a'.defers,Quiet P d:=by
   obtain ⟨qs,h1,h2⟩:=hd'
   intro d hd
   rw [h1] at hd
   exact h2 d (by simpa using hd)
  cases e with
  | nrm=>exact leaves_quiet (fin0 S' θ' a' w' hr' hk) hq
  | ext i=>cases hk
  | ret=>exact leaves_quiet (fin0 S' θ' a' w' hr' hk) hq
  | pan=>cases hk
 ·obtain ⟨fv,cap,dargs,f',args',h1,h2,h3⟩:=hp
  show Leaves P fn a'.tmps _ a'.defers (.panicking chain) w'
  rw [h1]
  refine leaves_cons (by simp) h2 (h3.mono ?_)
  rintro e u' w'' ⟨⟨v,rfl⟩,hu,S'',θ'',h4,h5⟩
  dsimp only
  rw [hu]
  exact fin0 S'' θ'' a' w'' h5 h4
theorem Rel.redesc (h:Rel C S θ a w) {i:Nat} {x:AV} (hx:∀ v,a.tmps[i]? = some v→CV w (okOf C w S θ) θ x v):Rel C (S.setSlot i x) θ a w:=by
 refine ⟨by simpa [St.setSlot] using h.len,fun j v hj=>?_,fun d o hh ho=>h.objs d o ((has_setSlot _ _ _ _).1 hh) ho,fun d hd=>h.fresh d (fun hh=>hd ((has_setSlot _ _ _ _).2 hh)),h.sep,h.os,h.tape,h.output,h.size,h.frame,h.globs,h.base,h.pin⟩
 rw [okOf_setSlot]
 by_cases e:i=j
 ·subst e
  rw [slot_setSlot_same _ _ _ (by rw [←h.len]; exact (Array.getElem?_eq_some_iff.1 hj).1)]
  exact hx v hj
 ·rw [slot_setSlot_other _ _ _ _ e]
  exact h.slots j v hj
theorem frzSlots_ok {N:Rp}:∀ (l:List (Nat × Sh)) {S:St} {p:Pg},Rel C S θ a w→(frzSlots l p).exe N S=some S'→∃ S1,Rel C S1 θ a w∧p.exe N S1=some S'
 | [],S,p,h,hh=>⟨S,h,hh⟩
 | (i,s)::r,S,p,h,hh=>by
  simp only [frzSlots] at hh
  replace hh:=exe_slot hh
  cases hv:a.tmps[i]? with
  | none=>
   exfalso
   have hl:a.tmps.size≤i:=by simpa using hv
   have:S.slot i=.undef:=by
    have hl' : S.tm.length≤i:=by rw [←h.len]; exact hl
    simp [St.slot,List.getD_eq_getElem?_getD,List.getElem?_eq_none hl']
   rw [this,nrm_undef] at hh
   unfold frz at hh
   have:∀ (s:Sh) (K:AV→List Nm→Pg),(snap 9 s .undef K).exe N S≠some S':=by
    intro s K
    cases s <;> simp [snap,shOk,must,nrm,Pg.exe]
   exact this _ _ hh
  | some v=>
   obtain ⟨S1,u',h1,h2,h3,h4,h5,h6⟩:=frz_ok h (CV_nrm s _ v (h.slots i v hv)) hh
   exact frzSlots_ok r (h1.redesc fun v' hv'=>by rw [hv] at hv'; cases hv'; exact h3) (exe_setSlot h4)
theorem frzCells_ok {N:Rp}:∀ (l:List (Nat × Sh)) {S:St} {p:Pg},Rel C S θ a w→(frzCells l p).exe N S=some S'→∃ S1,Rel C S1 θ a w∧p.exe N S1=some S'
 | [],S,p,h,hh=>⟨S,h,hh⟩
 | (i,s)::r,S,p,h,hh=>by
  simp only [frzCells] at hh
  replace hh:=exe_slot hh
  split at hh <;> first | exact (exe_fail hh).elim | skip
  rename_i d off hs
  obtain ⟨_,hh⟩:=exe_must hh
  replace hh:=exe_obj hh
  split at hh <;> first | exact (exe_fail hh).elim | skip
  rename_i t ho
  obtain ⟨g,e,fr,v,k1,k2,k3,k4,k5,k6⟩:=h.obT ho
  obtain ⟨S1,u',h1,h2,h3,h4,h5,h6⟩:=frz_ok h (CV_nrm s t v k4) hh
  replace h4:=exe_obj h4
  split at h4 <;> first | exact (exe_fail h4).elim | skip
  rename_i t2 ho2
  have hst:u'.stor=true:=by
   exact WT_stor h2
  have hw:v.cells.size=u'.width:=CV_size hst h3
  refine frzCells_ok r (h1.write0 (o':=.box u') ho2 rfl k1 rfl ⟨fun _ _=>rfl,rfl,rfl,rfl,⟨rfl,.inr trivial⟩⟩ (fun ok' hk=>⟨g,e,fr,v,k1,k2,k3,CV_mono hk _ _ h3,hw,k6⟩)) (exe_setObj h4)
theorem finz_ok {D:FnD} {r:List AV} (h:Rel C S θ a w) (hh:D.finz P n S=some r):∃ S1,Rel C S1 θ a w∧D.fin P S1=some r:=by
 obtain ⟨S',h1,h2⟩:=run_exe 0 _ _ _ hh
 obtain ⟨S1,k1,k2⟩:=frzSlots_ok _ h h1
 obtain ⟨S2,q1,q2⟩:=frzCells_ok _ k1 k2
 have:=exe_done q2
 subst this
 exact ⟨_,q1,h2⟩
theorem FnD.soundOv {E:Env} {cal:FuncId→Option Cal} (hcal:∀ f c,cal f=some c→SoundCal P E f c) (hm:P.follows .mixedOrders=true) {H:Hints} {f:FuncId} {fn:Func} {D:FnD}
  (hf : P.funcs[f]? = some fn) (hb : fn.body = some D.body) (hn : fn.name ≠ "runtime.NumGoroutine") (hnt : fn.ntmps = D.m) (hres : fn.results = (D.rs.map fun p => p.2.rv p.1).toArray) (hg : D.good P = true)
  (hov:∀ C:Ctx,C.E=E→Pins C D.pn→OvOk (DefLe P) C P H D.body) (hpan:∀ C:Ctx,C.E=E→PanH C P H D.body):SoundCal P E f (mkCal D (D.run P E cal H)):=by
 refine FnD.sound_of (fun C n as r hC hp hF θ a w hrel _ Q hQ _=>?_) hf hb hn hnt hres hg
 subst hC
 refine exec_ok (dlLe P) hp hcal hm D.body (hov C rfl hp) (hpan C rfl) _ _ r hF θ a w hrel Q (fun e S' θ' a' w' hk hr' hd'=>?_)
 cases e with
 | nrm=>obtain ⟨S1,h1,h2⟩:=finz_ok hr' hk; exact hQ .nrm S1 θ' a' w' h2 h1 hd'
 | ret=>obtain ⟨S1,h1,h2⟩:=finz_ok hr' hk; exact hQ .ret S1 θ' a' w' h2 h1 hd'
 | ext i=>cases hk
 | pan=>cases hk
theorem FnD.sound {E:Env} {cal:FuncId→Option Cal} (hcal:∀ f c,cal f=some c→SoundCal P E f c) (hm:P.follows .mixedOrders=true) {H:Hints} {f:FuncId} {fn:Func} {D:FnD}
  (hf : P.funcs[f]? = some fn) (hb : fn.body = some D.body) (hn : fn.name ≠ "runtime.NumGoroutine") (hnt : fn.ntmps = D.m) (hres : fn.results = (D.rs.map fun p => p.2.rv p.1).toArray) (hg : D.good P = true)
  (hno:∀ id,H.over id=none:=by intro id; rfl) (hnp:∀ id,H.pan id=none:=by intro id; rfl):SoundCal P E f (mkCal D (D.run P E cal H)):=
 FnD.soundOv hcal hm hf hb hn hnt hres hg (fun C _ _=>OvOk.none hno) (fun C _=>PanH.none hnp)
end
end Go.Am
end
section
set_option linter.unusedVariables false
set_option linter.unusedSimpArgs false
namespace Go.Am
open Go.RowKit
section
variable {H:Type}
def dInt:DataW H→Int
 | .lit (.int _ n)=>n
 | _=>0
mutual
def avD:Sh→DataW H→AV
 | .int k,d=>.int k (dInt d)
 | .bool,d=>match d with | .lit (.bool b)=>.bool b | _=>.bool false
 | .str,d=>match d with | .lit (.string l)=>.str l | _=>.str []
 | .arr k n,d=>match d with | .agg l=>.arr k n (l.map dInt) | _=>.arr k n []
 | .agg ss,d=>match d with | .agg l=>.agg (avDs ss l) | _=>.agg []
 | .fs k,d=>match d with | .slice l _=>.fs k (l.map dInt) | _=>.fs k []
 | .nl k,d=>match d with | .slice l _=>.fs k (l.map dInt) | _=>.nils
 | .fv s,d=>match d with | .slice l _=>.fv s (l.map (avD s)) | _=>.fv s []
 | .pt f,_=>.pt f none
 | .mp f,_=>.mp f none
def avDs:List Sh→List (DataW H)→List AV
 | s::ss,d::ds=>avD s d::avDs ss ds
 | _,_=>[]
end
end
def inK (k:IntKind) (n:Int):Prop:=(Lit.int k n).wf=true
mutual
def Fit:Sh→AV→Prop
 | .int k,x=>inK k x.toInt
 | .arr k n,x=>x.toInts.length=n∧∀ i∈x.toInts,inK k i
 | .agg ss,x=>match x with | .agg cs=>Fits ss cs | _=>False
 | .fs k,x=>∀ i∈x.toInts,inK k i
 | .nl k,x=>∀ i∈x.toInts,inK k i
 | .fv s,x=>∀ y∈x.toElems,Fit s y
 | _,_=>True
def Fits:List Sh→List AV→Prop
 | s::ss,c::cs=>Fit s c∧Fits ss cs
 | [],[]=>True
 | _,_=>False
end
mutual
def posF:Sh→Bool
 | .agg l=>posFs l
 | .fv s=>Nat.blt 0 s.width && posF s
 | .nl _=>false
 | _=>true
def posFs:List Sh→Bool
 | []=>true
 | s::l=>posF s && posFs l
end
section
variable {H:Type} {enc:TypeId × Value→H} {P:Program} {E:Env} {W:World} {ok:Nat→Prop} {θ:Nm→Option Value} {base:Nat} {spare:Nat→Bool} {held:Bool}
def Good (W:World) (ok:Nat→Prop) (θ:Nm→Option Value) (s:Sh) (cs:List Value) (d:DataW H):Prop:=
 (∃ v:Value,v.cells.toList=cs∧v.cells.size=(avD s d).width∧CV W ok θ (avD s d) v)∧WT s (avD s d)∧Fit s (avD s d)
theorem Good.len {s:Sh} {cs:List Value} {d:DataW H} (h:Good W ok θ s cs d):cs.length=s.width:=by
 obtain ⟨⟨v,rfl,h2,_⟩,h3,_⟩:=h
 rw [Array.length_toList,h2,WT_width s _ h3]
theorem parts_ok {m:Nat}:∀ (Ts:List TypeId) (ss:List Sh) (cs:List Value) (xs:List (DataW H × List MemPlace)),Ts.length=ss.length→xs.length=Ts.length→
  (∀ (i:Nat) (t:TypeId) (s:Sh),Ts[i]? = some t→ss[i]? = some s→∀ cs x,DataW.trod enc P W base spare held m t cs=some x→Good W ok θ s cs x.1)→cs.length=(Ts.map P.cellsOf).sum→
  (∀ (i:Nat) (t:TypeId),Ts[i]? = some t→DataW.trod enc P W base spare held m t ((cs.drop ((Ts.take i).map P.cellsOf).sum).take (P.cellsOf t))=xs[i]?)→
  CVs W ok θ (avDs ss (xs.map (·.1))) cs∧WTs ss (avDs ss (xs.map (·.1)))∧Fits ss (avDs ss (xs.map (·.1)))
 | [],[],cs,xs,_,hx,_,hl,_=>by
  have:xs=[]:=List.eq_nil_of_length_eq_zero (by simpa using hx)
  subst this
  have:cs=[]:=List.eq_nil_of_length_eq_zero (by simpa using hl)
  subst this
  exact ⟨rfl,rfl,trivial⟩
 | t::Ts,s::ss,cs,[],_,hx,_,_,_=>by simp at hx
 | t::Ts,s::ss,cs,x::xs,hl,hx,hg,hc,ht=>by
  have h0:=ht 0 t rfl
  simp only [List.take_zero,List.map_nil,List.sum_nil,List.drop_zero,List.getElem?_cons_zero] at h0
  have g0:=hg 0 t s rfl rfl _ _ h0
  have hlen:=g0.len
  obtain ⟨⟨v,hv1,hv2,hv3⟩,hw,hf⟩:=g0
  simp only [List.map_cons,List.sum_cons] at hc
  have hle:P.cellsOf t≤cs.length:=by omega
  obtain ⟨r1,r2,r3⟩:=parts_ok Ts ss (cs.drop (P.cellsOf t)) xs (by simpa using hl) (by simpa using hx) (fun i t' s' h1 h2=>hg (i+1) t' s' (by simpa using h1) (by simpa using h2)) (by rw [List.length_drop]; omega) (fun i t' h1=>by
   have:=ht (i+1) t' (by simpa using h1)
   simp only [List.take_succ_cons,List.map_cons,List.sum_cons,List.getElem?_cons_succ] at this
   rw [List.drop_drop]
   exact this)
  refine ⟨⟨v,cs.drop (P.cellsOf t),?_,hv2,hv3,r1⟩,⟨_,_,rfl,hw,r2⟩,hf,r3⟩
  rw [hv1,List.take_append_drop]
 | [],s::ss,_,_,hl,_,_,_,_=>by simp at hl
 | t::Ts,[],_,_,hl,_,_,_,_=>by simp at hl
theorem sum_replicate (n c:Nat):(List.replicate n c).sum=n * c:=by
 induction n with
 | zero=>simp
 | succ n ih=>rw [List.replicate_succ,List.sum_cons,ih,Nat.add_mul]; omega
theorem avDs_replicate {s:Sh}:∀ (l:List (DataW H)),avDs (List.replicate l.length s) l=l.map (avD s)
 | []=>rfl
 | d::l=>by
  rw [List.length_cons,List.replicate_succ]
  show avD s d::avDs _ l=_
  rw [avDs_replicate l]
  rfl
theorem WTs_replicate {s:Sh}:∀ {n:Nat} {l:List AV},WTs (List.replicate n s) l→∀ x∈l,WT s x
 | 0,l,h,x,hx=>by simp only [List.replicate_zero,WTs] at h; subst h; cases hx
 | n+1,l,h,x,hx=>by
  rw [List.replicate_succ] at h
  obtain ⟨c,r,rfl,h1,h2⟩:=h
  rcases List.mem_cons.1 hx with rfl | hx
  ·exact h1
  ·exact WTs_replicate h2 x hx
theorem Fits_replicate {s:Sh}:∀ {n:Nat} {l:List AV},Fits (List.replicate n s) l→∀ x∈l,Fit s x
 | 0,[],h,x,hx=>by cases hx
 | n+1,[],h,x,hx=>by cases hx
 | 0,c::r,h,x,hx=>by simp [Fits] at h
 | n+1,c::r,h,x,hx=>by
  rw [List.replicate_succ] at h
  obtain ⟨h1,h2⟩:=h
  rcases List.mem_cons.1 hx with rfl | hx
  ·exact h1
  ·exact Fits_replicate h2 x hx
theorem inFs_mem {fs:List FamD}:∀ {l:List Sh} {s:Sh},inFs fs l=true→s∈l→inF fs s=true
 | s'::l,s,h,hs=>by
  simp only [inFs,Bool.and_eq_true] at h
  rcases List.mem_cons.1 hs with rfl | hs
  ·exact h.1
  ·exact inFs_mem h.2 hs
theorem posFs_mem:∀ {l:List Sh} {s:Sh},posFs l=true→s∈l→posF s=true
 | s'::l,s,h,hs=>by
  simp only [posFs,Bool.and_eq_true] at h
  rcases List.mem_cons.1 hs with rfl | hs
  ·exact h.1
  ·exact posFs_mem h.2 hs
theorem add_addT (a:Addr) (x y:Nat):(a.add x).add y=a.add (x+y):=by
 unfold Addr.add
 by_cases hx:x=0
 ·by_cases hy:y=0 <;> simp [hx,hy]
 ·by_cases hy:y=0
  ·simp [hx,hy]
  ·have:x+y≠0:=by omega
   simp [hx,hy,Nat.add_assoc]
theorem ints_read {m:Nat} {e:TypeId} {k:IntKind} (he:P.underlying e=some (.int k)) {cs:List Value} {xs:List (DataW H × List MemPlace)} (hc:cs.length=xs.length * P.cellsOf e)
  (h:∀ i,i<xs.length→DataW.trod enc P W base spare held m e ((cs.drop (i * P.cellsOf e)).take (P.cellsOf e))=xs[i]?) :
  cs=ints k ((xs.map (·.1)).map dInt)∧∀ i∈(xs.map (·.1)).map dInt,inK k i:=by
 induction xs generalizing cs with
 | nil=>
  have:cs=[]:=List.eq_nil_of_length_eq_zero (by simpa using hc)
  subst this
  exact ⟨rfl,by simp⟩
 | cons x xs ih=>
  have h0:=h 0 (by simp)
  simp only [Nat.zero_mul,List.drop_zero,List.getElem?_cons_zero] at h0
  obtain ⟨n,e1,e2,e3⟩:=DataW.trod_int he h0
  have hc1:P.cellsOf e=1:=by
   have h1:(cs.take (P.cellsOf e)).length=1:=by rw [e1]; rfl
   rw [List.length_take,hc,List.length_cons,Nat.add_mul] at h1
   have:P.cellsOf e≤xs.length * P.cellsOf e+1 * P.cellsOf e:=by omega
   omega
  rw [hc1] at h e1 hc
  have:=ih (cs:=cs.drop 1) (by rw [List.length_drop,hc1]; simp only [List.length_cons] at hc; omega) (fun i hi=>by
   have:=h (i+1) (by simp only [List.length_cons]; omega)
   rw [List.drop_drop,hc1]
   rw [show 1+i * 1=(i+1) * 1 by omega]
   simpa using this)
  obtain ⟨q1,q2⟩:=this
  have hx:dInt x.1=n:=by rw [e2]; rfl
  constructor
  ·rw [←List.take_append_drop 1 cs,e1,q1]
   simp [ints,hx]
  ·intro i hi
   simp only [List.map_cons,List.mem_cons] at hi
   rcases hi with rfl | hi
   ·rw [hx]; exact e3
   ·exact q2 i hi
theorem read_ok (hl:laidOutB P=true) (hok:∀ b,b<W.heap.size→ok b):∀ (n:Nat) (t:TypeId) (s:Sh),shT P E n t=some s→t<P.types.size→inF [] s=true→posF s=true→
  ∀ (fuel:Nat) (cs:List Value) (x:DataW H × List MemPlace),DataW.trod enc P W base spare held fuel t cs=some x→Good W ok θ s cs x.1:=by
 intro n
 induction n with
 | zero=>intro t s hs; cases hs
 | succ n ih=>
  intro t s hs ht hin hpos fuel cs x hx
  unfold shT at hs
  split at hs
  ·
   rename_i hu
   cases hs
   obtain ⟨b,rfl,rfl⟩:=DataW.trod_bool hu hx
   exact ⟨⟨.bool b,rfl,rfl,rfl⟩,⟨_,rfl⟩,trivial⟩
  ·
   rename_i k hu
   cases hs
   obtain ⟨i,rfl,rfl,hw⟩:=DataW.trod_int hu hx
   exact ⟨⟨.int k i,rfl,rfl,rfl⟩,⟨_,rfl⟩,hw⟩
  ·
   rename_i hu
   cases hs
   obtain ⟨l,rfl,rfl,hw⟩:=DataW.trod_string hu hx
   exact ⟨⟨.string l,rfl,rfl,rfl⟩,⟨_,rfl⟩,trivial⟩
  ·
   rename_i e hu
   have hte:=kid_slice hl ht hu
   rcases DataW.trod_slice hu hx with ⟨rfl,rfl⟩ | ⟨a,len,cap,elems,rest,m,rfl,rfl,rfl,hb,hlc,hcap,hel,hgel,_⟩
   ·split at hs
    ·cases hs
     exact ⟨⟨.slice none 0 0,rfl,rfl,none,0,rfl,Nat.le_refl _,fun h=>by simp at h⟩,⟨_,rfl⟩,fun i hi=>by cases hi⟩
    ·simp only [Option.map_eq_some_iff] at hs
     obtain ⟨s',hs',rfl⟩:=hs
     exact ⟨⟨.slice none 0 0,rfl,rfl,none,0,[],rfl,Nat.le_refl _,(fun x hx=>by cases hx),rfl,fun h=>by simp at h⟩,⟨_,rfl⟩,fun i hi=>by cases hi⟩
   ·subst hel
    have hcs:∀ i,i<elems.length→∃ q:List Value,W.cells? base (a.add (i * P.cellsOf e)) (P.cellsOf e)=some q∧DataW.trod enc P W base spare held m e q=elems[i]?:=by
     intro i hi
     have h1:=hgel i hi
     rw [List.getElem?_eq_getElem hi] at h1
     cases hq:W.cells? base (a.add (i * P.cellsOf e)) (P.cellsOf e) with
     | none=>rw [hq] at h1; cases h1
     | some q=>rw [hq] at h1; exact ⟨q,rfl,by rw [List.getElem?_eq_getElem hi]; exact h1⟩
    let all:List Value:=(List.range (elems.length * P.cellsOf e)).map fun j=>(W.cell? (a.add j)).getD (.bool false)
    have hall:∀ i,i<elems.length→W.cells? base (a.add (i * P.cellsOf e)) (P.cellsOf e)=some ((all.drop (i * P.cellsOf e)).take (P.cellsOf e)):=by
     intro i hi
     obtain ⟨q,hq,_⟩:=hcs i hi
     obtain ⟨q1,q2,q3⟩:=World.cells?_some hq
     have hmul:i * P.cellsOf e+P.cellsOf e≤elems.length * P.cellsOf e:=by
      rw [←Nat.succ_mul]
      exact Nat.mul_le_mul_right _ hi
     have:q=(all.drop (i * P.cellsOf e)).take (P.cellsOf e):=by
      refine List.ext_getElem? (fun j=>?_)
      by_cases hj:j<P.cellsOf e
      ·rw [List.getElem?_take_of_lt hj,List.getElem?_drop,←q3 j hj]
       have hlt:i * P.cellsOf e+j<elems.length * P.cellsOf e:=by omega
       simp only [all,List.getElem?_map,List.getElem?_range hlt,Option.map_some]
       have hadd:(a.add (i * P.cellsOf e)).add j=a.add (i * P.cellsOf e+j):=add_addT _ _ _
       rw [hadd]
       have:=q3 j hj
       rw [hadd,List.getElem?_eq_getElem (by omega)] at this
       rw [this]
       rfl
      ·rw [List.getElem?_eq_none (by omega),List.getElem?_eq_none (by rw [List.length_take]; omega)]
     rw [←this]
     exact hq
    have hcell:0<P.cellsOf e→∀ j,j<elems.length * P.cellsOf e→W.cell? (a.add j)=all[j]?:=by
     intro hpc j hj
     have hi:j / P.cellsOf e<elems.length:=by rw [Nat.div_lt_iff_lt_mul hpc]; exact hj
     obtain ⟨q,hq,_⟩:=hcs _ hi
     obtain ⟨q1,q2,q3⟩:=World.cells?_some hq
     have hr:j % P.cellsOf e<P.cellsOf e:=Nat.mod_lt _ hpc
     have h3:=q3 _ hr
     have hadd:(a.add (j / P.cellsOf e * P.cellsOf e)).add (j % P.cellsOf e)=a.add j:=by
      have:j / P.cellsOf e * P.cellsOf e+j % P.cellsOf e=j:=by rw [Nat.mul_comm]; exact Nat.div_add_mod _ _
      rw [add_addT,this]
     rw [hadd,List.getElem?_eq_getElem (by omega)] at h3
     simp only [all,List.getElem?_map,List.getElem?_range hj,Option.map_some,h3,Option.getD_some]
    have hall_len:all.length=elems.length * P.cellsOf e:=by simp [all]
    have helt:∀ i,i<elems.length→DataW.trod enc P W base spare held m e ((all.drop (i * P.cellsOf e)).take (P.cellsOf e))=elems[i]?:=by
     intro i hi
     obtain ⟨q,hq,h2⟩:=hcs i hi
     rw [hall i hi] at hq
     cases hq
     exact h2
    have hblock:0<elems.length→0<P.cellsOf e→a.block<W.heap.size:=by
     intro h1 h2
     have h3:=hcell h2 0 (by exact Nat.mul_pos h1 h2)
     have h4:0<all.length:=by rw [hall_len]; exact Nat.mul_pos h1 h2
     rw [List.getElem?_eq_getElem h4] at h3
     rcases Nat.lt_or_ge a.block W.heap.size with h5 | h5
     ·exact h5
     ·simp [World.cell?,Go.Am.block_add,Array.getElem?_eq_none h5] at h3
    split at hs
    ·
     rename_i k he
     cases hs
     obtain ⟨q1,q2⟩:=ints_read he hall_len helt
     refine ⟨⟨.slice (some a) elems.length cap,rfl,rfl,some a,cap,by simp,by simpa using hlc,fun h0=>?_⟩,⟨_,rfl⟩,q2⟩
     have h0' : 0<elems.length:=by simpa using h0
     have hc1:P.cellsOf e=1:=by
      have h1:=helt 0 h0'
      rw [List.getElem?_eq_getElem h0'] at h1
      obtain ⟨_,e1,_,_⟩:=DataW.trod_int he h1
      have h2:((all.drop (0 * P.cellsOf e)).take (P.cellsOf e)).length=1:=by rw [e1]; rfl
      rw [Nat.zero_mul,List.drop_zero,List.length_take,hall_len] at h2
      have:P.cellsOf e≤elems.length * P.cellsOf e:=Nat.le_mul_of_pos_left _ h0'
      omega
     refine ⟨a,rfl,hok _ (hblock h0' (by omega)),fun j u hj=>?_⟩
     have hj2:all[j]? = some u:=by rw [q1]; exact hj
     have hjl:j<elems.length * P.cellsOf e:=by
      rw [←hall_len]
      exact (List.getElem?_eq_some_iff.1 hj2).1
     rw [hcell (by omega) j hjl,hj2]
    ·
     simp only [Option.map_eq_some_iff] at hs
     obtain ⟨s',hs',rfl⟩:=hs
     simp only [posF,Bool.and_eq_true] at hpos
     have hin' : inF [] s' = true:=hin
     have ihe:=fun cs x=>ih e s' hs' hte hin' hpos.2 m cs x
     have hTs:(List.map P.cellsOf (List.replicate elems.length e)).sum=elems.length * P.cellsOf e:=by rw [List.map_replicate,sum_replicate]
     obtain ⟨r1,r2,r3⟩:=parts_ok (enc:=enc) (base:=base) (spare:=spare) (held:=held) (m:=m) (ok:=ok) (θ:=θ) (List.replicate elems.length e) (List.replicate elems.length s') all elems (by simp) (by simp) (fun i t' s'' h1 h2 cs x h3=>by
       simp only [List.getElem?_replicate] at h1 h2
       split at h1
       ·rw [if_pos (by assumption)] at h2
        cases h1; cases h2
        exact ihe cs x h3
       ·cases h1) (by rw [hall_len,hTs]) (fun i t' h1=>by
       simp only [List.getElem?_replicate] at h1
       split at h1
       ·rename_i hi
        cases h1
        rw [List.take_replicate,List.map_replicate,sum_replicate,Nat.min_eq_left (Nat.le_of_lt hi)]
        exact helt i hi
       ·cases h1)
     have hrep:avDs (List.replicate elems.length s') (elems.map (·.1))=(elems.map (·.1)).map (avD s'):=by
      have:=avDs_replicate (s:=s') (elems.map (·.1))
      rwa [List.length_map] at this
     rw [hrep] at r1 r2 r3
     refine ⟨⟨.slice (some a) elems.length cap,rfl,rfl,some a,cap,all,by simp,by simpa using hlc,fun y hy=>WTs_replicate r2 y hy,r1,fun h0=>?_⟩,⟨_,rfl⟩,fun y hy=>Fits_replicate r3 y hy⟩
     have h0' : 0<elems.length:=by simpa using h0
     have hpc:0<P.cellsOf e:=by
      have h1:=helt 0 h0'
      rw [List.getElem?_eq_getElem h0'] at h1
      have h2:=(ihe _ _ h1).len
      rw [Nat.zero_mul,List.drop_zero,List.length_take,hall_len] at h2
      have h3:0<s'.width:=by simpa using hpos.1
      omega
     refine ⟨a,rfl,hok _ (hblock h0' hpc),fun j u hj=>?_⟩
     have hjl:j<elems.length * P.cellsOf e:=by
      rw [←hall_len]
      exact (List.getElem?_eq_some_iff.1 hj).1
     rw [hcell hpc j hjl,hj]
  ·
   rename_i m e hu
   obtain ⟨hte,hce⟩:=kid_array hl ht hu
   obtain ⟨xs,f,rfl,rfl,hlen,hxl,hel⟩:=DataW.trod_array hu hx
   split at hs
   ·rename_i k he
    cases hs
    obtain ⟨q1,q2⟩:=ints_read he (cs:=cs) (xs:=xs) (by rw [hlen,hce,hxl]) (fun i hi=>hel i (by omega))
    refine ⟨⟨.agg cs.toArray,by simp [Value.cells],?_,by simp [hxl],by rw [q1]⟩,⟨_,rfl⟩,by show ((xs.map (·.1)).map dInt).length=m; simp [hxl],q2⟩
    show cs.toArray.size=m
    rw [q1]
    simp [ints,hxl]
   ·simp only [Option.map_eq_some_iff] at hs
    obtain ⟨s',hs',rfl⟩:=hs
    subst hxl
    have hin' : ∀ s''∈List.replicate xs.length s',inF [] s'' = true:=fun s'' h=>inFs_mem hin h
    have hpos' : ∀ s''∈List.replicate xs.length s',posF s'' = true:=fun s'' h=>posFs_mem hpos h
    have hTs:(List.map P.cellsOf (List.replicate xs.length e)).sum=xs.length * P.cellsOf e:=by rw [List.map_replicate,sum_replicate]
    obtain ⟨r1,r2,r3⟩:=parts_ok (enc:=enc) (base:=base) (spare:=spare) (held:=held) (m:=f) (ok:=ok) (θ:=θ) (List.replicate xs.length e) (List.replicate xs.length s') cs xs (by simp) (by simp) (fun i t' s'' h1 h2 cs x h3=>by
      have hm:=List.mem_of_getElem? h2
      simp only [List.getElem?_replicate] at h1 h2
      split at h1
      ·rw [if_pos (by assumption)] at h2
       cases h1; cases h2
       exact ih e s' hs' hte (hin' _ hm) (hpos' _ hm) f cs x h3
      ·cases h1) (by rw [hlen,hce,hTs]) (fun i t' h1=>by
      simp only [List.getElem?_replicate] at h1
      split at h1
      ·rename_i hi
       cases h1
       rw [List.take_replicate,List.map_replicate,sum_replicate,Nat.min_eq_left (Nat.le_of_lt hi)]
       exact hel i hi
      ·cases h1)
    exact ⟨⟨.agg cs.toArray,by simp [Value.cells],by simp [Value.cells,AV.width,avD,←CVs_length r1],cs.toArray,rfl,by simpa using r1⟩,⟨_,rfl,r2⟩,r3⟩
  ·
   rename_i fs hu
   obtain ⟨hk1,hk2,hk3⟩:=kid_struct hl ht hu
   simp only [Option.map_eq_some_iff] at hs
   obtain ⟨l,hs',rfl⟩:=hs
   obtain ⟨xs,f,rfl,rfl,hlen,hxl,hel⟩:=DataW.trod_struct hu hx
   have hll:l.length=fs.toList.length:=mapM_some_length hs'
   obtain ⟨r1,r2,r3⟩:=parts_ok (enc:=enc) (base:=base) (spare:=spare) (held:=held) (m:=f) (ok:=ok) (θ:=θ) (fs.toList.map (·.type)) l cs xs (by rw [List.length_map,hll]) (by rw [List.length_map,hxl,Array.length_toList]) (fun i t' s'' h1 h2 cs x h3=>by
     rw [List.getElem?_map,Option.map_eq_some_iff] at h1
     obtain ⟨fd,h1,rfl⟩:=h1
     have h4:=mapM_some_get hs' i fd h1
     rw [h2] at h4
     exact ih fd.type s'' h4 (hk1 fd (List.mem_of_getElem? h1)) (inFs_mem hin (List.mem_of_getElem? h2)) (posFs_mem hpos (List.mem_of_getElem? h2)) f cs x h3) (by rw [hlen,hk2,List.map_map]; rfl) (fun i t' h1=>by
     rw [List.getElem?_map,Option.map_eq_some_iff] at h1
     obtain ⟨fd,h1,rfl⟩:=h1
     have h5:=hel i fd (by simpa using h1)
     rw [hk3 i fd h1] at h5
     rw [←List.map_take,List.map_map]
     exact h5)
   exact ⟨⟨.agg cs.toArray,by simp [Value.cells],by simp [Value.cells,AV.width,avD,←CVs_length r1],cs.toArray,rfl,by simpa using r1⟩,⟨_,rfl,r2⟩,r3⟩
  ·simp only [Option.map_eq_some_iff] at hs
   obtain ⟨f,_,rfl⟩:=hs
   cases (show false=true from hin)
  ·simp only [Option.map_eq_some_iff] at hs
   obtain ⟨f,_,rfl⟩:=hs
   cases (show false=true from hin)
  ·cases hs
theorem same_cells {v u:Value} (h:v.cells.toList=u.cells.toList) (hv:(∃ a b,v=.agg a∧u=.agg b)∨(v.cells = #[v]∧u.cells = #[u])):v=u:=by
 have h:v.cells=u.cells:=Array.toList_inj.1 h
 rcases hv with ⟨a,b,rfl,rfl⟩ | ⟨h1,h2⟩
 ·exact congrArg Value.agg h
 ·rw [h1,h2] at h
  simpa using h
theorem arg_struct (hl:laidOutB P=true) (hok:∀ b,b<W.heap.size→ok b) {n:Nat} {t:TypeId} {l:List Sh} {fs:Array Field} (hu:P.underlying t=some (.struct fs)) (hs:shT P E n t=some (.agg l)) (ht:t<P.types.size) (hin:inF [] (.agg l)=true) (hp:posF (.agg l)=true)
  {w:World} {r:Reach} {b0:Nat} {v:Value} (hv:Value.okWide P w r b0 t v) {d:DataW H} {ps:List MemPlace} (h:DataW.Trod enc P W base spare held t v d ps):CV W ok θ (avD (.agg l) d) v∧WT (.agg l) (avD (.agg l) d)∧Fit (.agg l) (avD (.agg l) d):=by
 obtain ⟨cs,rfl,_⟩:=WideShapes.okWide_struct hu hv
 obtain ⟨fuel,h⟩:=h
 obtain ⟨⟨u,h1,_,h2⟩,h3,h4⟩:=read_ok (θ:=θ) hl hok n t _ hs ht hin hp fuel _ _ h
 refine ⟨?_,h3,h4⟩
 have h2':=h2
 obtain ⟨x,hx,_⟩:=h3
 replace hx:avD (.agg l) d=.agg x:=hx
 rw [hx] at h2'
 obtain ⟨vs,rfl,_⟩:=h2'
 have:Value.agg vs=.agg cs:=same_cells h1 (.inl ⟨_,_,rfl,rfl⟩)
 rw [←this]
 exact h2
theorem glob_read (hl:laidOutB P=true) (hok:∀ b,b<W.heap.size→ok b) {n:Nat} {t:TypeId} {s:Sh} {x:AV} {g:Nat} {name:String} {cs:Array Value} {fuel:Nat} {d:DataW H} {p:List MemPlace} (hs:shT P E n t=some s) (ht:t<P.types.size) (hin:inF [] s=true) (hp:posF s=true)
  (hg:P.globalNamed name=some g) (hv:W.var? P name=some cs) (h:DataW.trod enc P W base spare held fuel t cs.toList=some (d,p)) (hx:avD s d=x):CV W ok (fun _=>none) (.fp x) (.pointer (some ⟨g,0,none⟩)):=by
 obtain ⟨⟨u,h1,_,h2⟩,h3,h4⟩:=read_ok (θ:=fun _=>none) hl hok n t _ hs ht hin hp fuel _ _ h
 refine ⟨⟨g,0,none⟩,u,rfl,hok _ ?_,by rw [←hx]; exact h2,fun j c hj=>?_⟩
 ·simp only [World.var?,hg,Option.bind_some] at hv
  rcases Nat.lt_or_ge g W.heap.size with h5 | h5
  ·exact h5
  ·simp [Array.getElem?_eq_none h5] at hv
 ·have:=World.var?_cell hg hv j
  rw [h1] at hj
  have hadd:(⟨g,0,none⟩ : Addr).add j=⟨g,j,none⟩:=by
   unfold Addr.add
   split
   ·rename_i h0; rw [h0]
   ·simp
  rw [hadd,this]
  simpa using hj
theorem call_one {f:FuncId} {D:FnD} {F:Nat→List AV→Option (List AV)} (h:SoundCal P E f (mkCal D F)) {n:Nat} {xs:List AV} {r:AV} {rv:Value} {s:Sh} (hF:F n xs=some [r]) (hsl:iniSl D.ps 0 xs=xs) (hob:iniOb D.ps 0 xs=[]) (hob' : finOb D.ps 0 []=[]) (hfs:D.fs=[]) (hown:D.own=none) {t:TypeId} (hty:D.ty=[t]) {i:Nat} (hrs:D.rs=[(i,.val s)]) (hes:eta s r=r) (hrv:∀ w ok θ v,CV w ok θ r v→v=rv)
  (hgd:∀ g t,E.glob g=some t→∃ s,WT s t∧inF [] s=true) {args:Array Value} (hargs:∀ ok:Nat→Prop,(∀ b,b<W.heap.size→ok b)→CVt W ok (fun _=>none) xs args.toList) (hglob:∀ ok:Nat→Prop,(∀ b,b<W.heap.size→ok b)→GlobOK W ok E.glob) :
  Calls P f args W fun e W'=>e=.returned rv∧Later W W':=by
 let C:Ctx:={ w0:=W,I:=fun _=>False,F:=fun _=>False,E:=E,ib:=fun _ h=>h.elim,fb:=fun _ h=>h.elim,iF:=fun _ h=>h.elim,gd:=hgd }
 have hp:(mkCal D F).hp xs=⟨[],[],[]⟩:=by
  show (⟨[],iniOb D.ps 0 xs,iniFm D.fs _⟩ : St)=_
  rw [hob,hfs]
  rfl
 have hnob:∀ d,(⟨[],[],[]⟩ : St).obj d=none:=fun d=>by cases d <;> rfl
 have hnhas:∀ d,¬ (⟨[],[],[]⟩ : St).has d:=fun d hd=>by
  cases d with
  | top d=>exact hd rfl
  | mem f i=>obtain ⟨F,hF,_⟩:=hd; cases hF
 have hnown:∀ b,¬ OwnB (⟨[],[],[]⟩ : St) (fun _=>none) b:=fun b ⟨d,o,v,h1,_⟩=>by rw [hnob] at h1; cases h1
 have hok:∀ b,b<W.heap.size→okOf C W (⟨[],[],[]⟩ : St) (fun _=>none) b:=fun b hb=>⟨hb,fun h=>h,hnown b⟩
 refine (h.2.2 n xs [r] hF C args (fun _=>none) rfl (fun b=>⟨fun h=>h.elim,fun h=>by rw [hp] at h; exact hnown b h⟩) ?_ ?_ ?_).mono ?_
 ·rw [hp]
  exact ⟨fun d o h1 h2=>(hnhas d h1).elim,fun d _=>rfl,fun d d' o o' v v' b h1=>(by rw [hnob] at h1; cases h1),rfl,rfl,⟨rfl,.inr trivial⟩,Nat.le_refl _,fun b _ _=>rfl,fun d v h=>(by cases h)⟩
 ·rw [hp]
  show CVt W _ _ (iniSl D.ps 0 xs) _
  rw [hsl]
  exact hargs _ hok
 ·rw [hp]
  exact hglob _ hok
 ·rintro e W' ⟨v,θ1,rfl,_,hlen,vs,hvs,hres⟩
  rw [show (mkCal D F).own=none from hown] at hres
  obtain ⟨hH,hct,_⟩:=hres
  have hfull:(mkCal D F).full xs [r]=[r]:=List.append_nil _
  have hr:(mkCal D F).res [r]=[r]:=by
   show etaL D.rs [r]=_
   rw [hrs]
   show [eta s r]=_
   rw [hes]
  rw [hfull,hr] at hct
  obtain ⟨u,rest,e1,hu,hrest⟩:=hct
  have hu:u=rv:=hrv _ _ _ _ hu
  have hrest:rest=[]:=hrest
  subst hu hrest e1
  rw [show (mkCal D F).ty=[t] from hty] at hvs
  rcases hvs with ⟨_,h2⟩ | ⟨h1,_⟩
  ·cases h2
   exact ⟨rfl,⟨hH.os,hH.tape,hH.output.1,hH.size,fun b hb=>hH.frame b hb (fun h=>h)⟩,hH.output.2⟩
  ·exact (h1 rfl).elim
theorem call_true {f:FuncId} {D:FnD} {F:Nat→List AV→Option (List AV)} (h:SoundCal P E f (mkCal D F)) {n:Nat} {xs:List AV} (hF:F n xs=some [.bool true]) (hsl:iniSl D.ps 0 xs=xs) (hob:iniOb D.ps 0 xs=[]) (hob' : finOb D.ps 0 []=[]) (hfs:D.fs=[]) (hown:D.own=none) {t:TypeId} (hty:D.ty=[t]) {i:Nat} (hrs:D.rs=[(i,.val .bool)])
  (hgd:∀ g t,E.glob g=some t→∃ s,WT s t∧inF [] s=true) {args:Array Value} (hargs:∀ ok:Nat→Prop,(∀ b,b<W.heap.size→ok b)→CVt W ok (fun _=>none) xs args.toList) (hglob:∀ ok:Nat→Prop,(∀ b,b<W.heap.size→ok b)→GlobOK W ok E.glob) :
  Calls P f args W fun e W'=>e=.returned (.bool true)∧Below W.heap.size W W':=
 (call_one h hF hsl hob hob' hfs hown hty hrs rfl (fun _ _ _ _ h=>h) hgd hargs hglob).mono fun _ _ h=>⟨h.1,h.2.toBelow⟩
end
end Go.Am
end
section
set_option linter.unusedVariables false
set_option linter.unusedSimpArgs false
namespace Go.Am
open Go.RowKit

end Go.Am
end
