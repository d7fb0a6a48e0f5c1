/-
  Functions are sound; closures that are deferred.
-/
import Derived.Test.YtlmnjnhmhacgkaaGreatDoorAmE
import Derived.ChangeArms
import Derived.OpenShut
import Derived.ChangeBears
import Derived.WideShapes
import Derived.FnData
import Derived.Below
section
set_option linter.unusedVariables false
set_option linter.unusedSimpArgs false
namespace Go.Am
open Go.RowKit
inductive Rk where
 | val (s:Sh)
 | obj (k:Ok)
 | cell (s:Sh) (t:TypeId)
abbrev Res:=List (Nat × Rk)
def Rk.rv (i:Nat):Rk->ResultVar
 | .cell _ t=>.cell i t
 | _=>.tmp i
structure FnD where
 body:Code
 m:Nat
 ps:List Pk
 fs:List zZ
 pv:List zZ
 rs:Res
 ty:List TypeId
 own:Option Nat
 esc:Bool
 fz:List (Nat × Sh):=[]
 fzc:List (Nat × Sh):=[]
def fE:List (Nat × Sh)->Pg->Pg
 | [],p=>p
 | (i,s)::r,p=>.slot i fun a=>frz s (nrm s a) fun a'=>.qe i a' (fE r p)
def mP:List (Nat × Sh)->Pg->Pg
 | [],p=>p
 | (i,s)::r,p=>.slot i fun a=>match a with
  | .ref (.top d) off=>qH (Nat.beq off 0) <| .obj (.top d) fun q=>match q with
   | some (.box t)=>frz s (nrm s t) fun t'=>.obj (.top d) fun q2=>match q2 with
    | some (.box _)=>.qW d (.box t') (mP r p)
    | _=>.fail
   | _=>.fail
  | _=>.fail
def isOwn (own:Option Nat) (j:Nat):Bool:=match own with | some q=>Nat.beq q j | none=>false
def tX (P:Program) (t e:TypeId):Bool:=match yd P t with | some e'=>Nat.beq e e' | none=>false
def aR (P:Program) (fs:List zZ) (own:Option Nat) (esc:Bool):Nat->Res->List TypeId->Bool
 | _,[],[]=>true
 | j,(_,t)::r,ty::tys=>(match t with
  | .val s=>!isOwn own j && (inF fs s && (esc || vT s))
  | .cell s _=>!isOwn own j && (inF fs s && (esc || vT s))
  | .obj k=>match k with
   | .row e _=>isOwn own j && tX P ty e
   | .rows e s=>isOwn own j && (tX P ty e && (inF fs s && (esc || vT s)))
   | _=>false) && aR P fs own esc (j+1) r tys
 | _,_,_=>false
def FnD.good (P:Program) (D:FnD):Bool:=
 aR P D.fs D.own D.esc 0 D.rs D.ty && ((match D.own with | some q=>Nat.blt q D.rs.length | none=>true) && (iz D.ps D.fs && (D.esc || mj D.ps D.fs)))
def ay:List zZ->List (Nat × Fam)
 | []=>[]
 | D::r=>(D.f,⟨D.e,D.s,D.ks,[]⟩)::ay r
def FnD.ini (D:FnD) (as:List AV):St:=
 ⟨xe D.ps 0 as++List.replicate (D.m - (xe D.ps 0 as).length) .undef,yp D.ps 0 as,vj D.fs (as.drop D.ps.length)++ay D.pv⟩
def gZ:List Pk->Nat->List Nat
 | [],_=>[]
 | .io _::ps,j=>par j::gZ ps (j+1)
 | _::ps,j=>gZ ps (j+1)
def QE:List Pk->Nat->Tes
 | [],_=>[]
 | .io s::ps,j=>(par j,.keep (.box s))::QE ps (j+1)
 | _::ps,j=>QE ps (j+1)
def FnD.pn (D:FnD):Pn:=⟨gZ D.ps 0,D.fs.map fun D=>D.f⟩
def dE (P:Program) (S:St) (i:Nat):Rk->Option (AV × Option Nat)
 | .val s=>match kG S s (S.slot i) with
  | some x=>some (x,none)
  | none=>none
 | .obj k=>yb S i k
 | .cell s t=>match S.slot i with
  | .ref d off=>match S.obj d with
   | some (.box tr)=>match Nat.beq off 0 && yF P t tr with
    | true=>match kG S s tr with
     | some x=>some (x,none)
     | none=>none
    | false=>none
   | _=>none
  | _=>none
def rl (P:Program) (S:St):Res->Option (List AV × List Nat)
 | []=>some ([],[])
 | (i,t)::r=>match dE P S i t with
  | some (x,d)=>match rl P S r with
   | some (l,ds)=>some (x::l,match d with | some d=>d::ds | none=>ds)
   | none=>none
  | none=>none
def FnD.fin (P:Program) (D:FnD) (S:St):Option (List AV):=match rl P S D.rs with
 | some (l,ds)=>match kW S (QE D.ps 0) [] ds with
  | some il=>match iI S D.fs with
   | some f=>some (l++(il++f))
   | none=>none
  | none=>none
 | none=>none
noncomputable def FnD.finz (P:Program) (D:FnD) (n:Nat) (S:St):Option (List AV):=(fE D.fz (mP D.fzc .done)).run n S (D.fin P)
noncomputable def FnD.run (P:Program) (E:Env) (cal:FuncId->Option Cal) (H:zi) (D:FnD) (n:Nat) (as:List AV):Option (List AV):=
 zD n D.m D.pn P E cal H D.body (D.ini as) fun e S=>match e with
  | .ext _=>none
  | .nrm=>D.finz P n S
  | .ret=>D.finz P n S
  | .pan=>none
def VV:Rk->AV->AV
 | .val s,x=>eta s x
 | .cell s _,x=>eta s x
 | .obj k,x=>match k with
  | .row _ k=>.fs k x.qq
  | .rows _ s=>.fv s x.qz
  | _=>x
def aq:Res->List AV->List AV
 | [],_=>[]
 | (_,t)::r,d=>VV t (d.headD .undef)::aq r d.tail
def qj (D:FnD) (F:Nat->List AV->Option (List AV)):Cal:=
 { F:=F,ps:=D.ps,fs:=D.fs,res:=aq D.rs,ty:=D.ty,own:=D.own,esc:=D.esc }
section
variable {C:Ctx} {S S' T:St} {θ θ' : Nm->Option Value} {a:Act} {w w' : World} {n m:Nat} {P:Program} {o:Oper} {ok ok' : Nat->Prop} {fs:List zZ}
theorem uC (h:Rel C S θ a w) {i:Nat} (hi:S.slot i≠.undef):∃ u,a.tmps[i]? = some u/\a.tmps.getD i undef=u/\CV w (qx C w S θ) θ (S.slot i) u:=by
 have hlt:i<a.tmps.size:=by
  rw [h.len]
  rcases Nat.lt_or_ge i S.tm.length with h1 | h1
  ·exact h1
  ·simp [St.slot,List.getD_eq_getElem?_getD,h1] at hi
 exact ⟨a.tmps[i],Array.getElem?_eq_getElem hlt,by simp [hlt],h.slots i _ (Array.getElem?_eq_getElem hlt)⟩
theorem bN (s:Sh):nrm s .undef=.undef:=by cases s <;> rfl
theorem iD (s:Sh):jP s .undef=false:=by cases s <;> rfl
theorem nh {s:Sh} {r:AV} (h:kG S s .undef=some r):False:=by
 unfold kG at h
 split at h
 ·rename_i e; cases e
 ·rename_i e; cases e
 ·have:=(zK h).1;rw [bN,iD] at this
  cases this
theorem ZP (h:Rel C S θ a w) {i:Nat} {s:Sh} {x:AV} (hx:kG S s (S.slot i)=some x):WT s x/\CV w (qx C w S θ) θ x (a.tmps.getD i undef):=by
 obtain ⟨u,h1,h2,h3⟩:=uC h (i:=i) (fun e=>by rw [e] at hx; exact nh hx);rw [h2];exact gB h h3 hx
theorem tk {s:Sh} {v x:AV} (hd:kG S s v=some x):WT s x:=by
 unfold kG at hd
 split at hd
 ·split at hd <;> first | (cases hd; done) | skip
  obtain ⟨h2,rfl⟩:=zK hd;exact ⟨_,by rw [beq_iff_eq.1 h2]⟩
 ·split at hd <;> first | (cases hd; done) | skip
  obtain ⟨h2,rfl⟩:=zK hd;exact ⟨_,by rw [wD h2]⟩
 ·obtain ⟨h2,rfl⟩:=zK hd;exact jd _ _ h2
theorem yI {i:Nat} {k:Ok} {x:AV} {d:Option Nat} (hk:k.isRow=true) (h:yb S i k=some (x,d)) :
  (S.slot i=.nils/\d=none/\((∃ e kd,k=.row e kd/\x=.fs kd [])\/∃ e s,k=.rows e s/\x=.fv s []))\/∃ e,S.slot i=.own (.top e)/\d=some e/\jk S e k=some x:=by
 unfold yb at h
 split at h
 ·rename_i hs
  left
  split at h <;> first | (cases h; done) | skip
  ·cases h; exact ⟨hs,rfl,.inl ⟨_,_,rfl,rfl⟩⟩
  ·cases h; exact ⟨hs,rfl,.inr ⟨_,_,rfl,rfl⟩⟩
 ·rename_i d' hs
  right
  split at h <;> first | (cases h; done) | skip
  rename_i e
  split at h <;> first | (cases h; done) | skip
  split at h <;> first | (cases h; done) | skip
  rename_i hx
  cases h
  exact ⟨e,hs,rfl,hx⟩
 ·split at h <;> first | (cases h; done) | skip
  split at h <;> first | (cases h; done) | skip
  rename_i hb;rw [Bool.and_eq_true,hk] at hb;simp at hb
 ·cases h
theorem tg {d:Nat} {e:TypeId} {k:IntKind} {x:AV} (h:jk S d (.row e k)=some x):∃ o xs,S.obj (.top d)=some o/\fq k o=some (e,xs)/\x=.fs k xs:=by
 simp only [jk] at h
 split at h <;> first | (cases h; done) | skip
 rename_i ob ho
 split at h <;> first | (cases h; done) | skip
 rename_i e' xs has;obtain ⟨h2,rfl⟩:=zK h;have h2:e=e':=by simpa using h2
 subst h2;exact ⟨_,xs,ho,has,rfl⟩
theorem uS {d:Nat} {e:TypeId} {s:Sh} {x:AV} (h:jk S d (.rows e s)=some x):∃ o xs,S.obj (.top d)=some o/\Jr s o=some (e,xs)/\x=.fv s xs:=by
 simp only [jk] at h
 split at h <;> first | (cases h; done) | skip
 rename_i ob ho
 split at h <;> first | (cases h; done) | skip
 rename_i e' xs has;obtain ⟨h2,rfl⟩:=zK h;have h2:e=e':=by simpa using h2
 subst h2;exact ⟨_,xs,ho,has,rfl⟩
theorem Qq {i:Nat} {t:Rk} {x:AV} {d:Option Nat} (h:dE P S i t=some (x,d)):VV t x=x:=by
 cases t with
 | val s=>
  simp only [dE] at h
  split at h <;> first | (cases h; done) | skip
  rename_i hx
  cases h
  exact zE s x (tk hx)
 | cell s t=>
  simp only [dE] at h
  split at h <;> first | (cases h; done) | skip
  split at h <;> first | (cases h; done) | skip
  split at h <;> first | (cases h; done) | skip
  split at h <;> first | (cases h; done) | skip
  rename_i hd
  cases h
  exact zE s _ (tk hd)
 | obj k=>
  cases k with
  | row e k=>
   rcases yI rfl (show yb S i (.row e k)=some (x,d) from h) with ⟨_,_,h1 | h1⟩ | ⟨e',_,_,h1⟩
   ·obtain ⟨_,_,q,rfl⟩:=h1; cases q; rfl
   ·obtain ⟨_,_,q,rfl⟩:=h1; cases q
   ·obtain ⟨_,xs,_,_,rfl⟩:=tg h1; rfl
  | rows e s=>
   rcases yI rfl (show yb S i (.rows e s)=some (x,d) from h) with ⟨_,_,h1 | h1⟩ | ⟨e',_,_,h1⟩
   ·obtain ⟨_,_,q,rfl⟩:=h1; cases q
   ·obtain ⟨_,_,q,rfl⟩:=h1; cases q; rfl
   ·obtain ⟨_,xs,_,_,rfl⟩:=uS h1; rfl
  | box s=>rfl
  | iter f=>rfl
theorem pY {i:Nat} {t:Rk} {r:Res} {l:List AV} {ds:List Nat} (h:rl P S ((i,t)::r)=some (l,ds)):∃ x d l' ds',l=x::l'/\ds=(match d with | some d=>d::ds' | none=>ds')/\dE P S i t=some (x,d)/\rl P S r=some (l',ds'):=by
 simp only [rl] at h
 split at h <;> first | (cases h; done) | skip
 rename_i x d hx
 split at h <;> first | (cases h; done) | skip
 rename_i l' ds' hl
 cases h
 exact ⟨x,d,l',ds',rfl,rfl,hx,hl⟩
theorem bn:∀ (rs:Res) (l:List AV) (ds:List Nat) (q:List AV),rl P S rs=some (l,ds)->aq rs (l++q)=l
 | [],l,ds,q,h=>by cases h; rfl
 | (i,t)::r,l,ds,q,h=>by
  obtain ⟨x,d,l',ds',rfl,_,h1,h2⟩:=pY h;simp only [aq,List.cons_append,List.headD_cons,List.tail_cons,Qq h1,bn r l' ds' q h2]
theorem rj:∀ (rs:Res) (l:List AV) (ds:List Nat),rl P S rs=some (l,ds)->l.length=rs.length/\∀ (j i:Nat) (t:Rk),rs[j]? = some (i,t)->∃ x d,l[j]? = some x/\dE P S i t=some (x,d)/\∀ e,d=some e->e∈ds
 | [],l,ds,h=>by
  cases h
  exact ⟨rfl,fun j i t hj=>by simp at hj⟩
 | (i,t)::r,l,ds,h=>by
  obtain ⟨x,d,l',ds',rfl,hds,h1,h2⟩:=pY h;obtain ⟨h3,h4⟩:=rj r l' ds' h2;have hsub:∀ e,e∈ds'->e∈ds:=fun e he=>by rw [hds]; cases d <;> simp [he]
  refine ⟨by simp [h3],fun j i' t' hj=>?_⟩
  cases j with
  | zero=>
   simp only [List.getElem?_cons_zero,Option.some.injEq,Prod.mk.injEq] at hj;obtain ⟨rfl,rfl⟩:=hj;exact ⟨x,d,rfl,h1,fun e he=>by subst he; rw [hds]; simp⟩
  | succ j=>
   obtain ⟨y,d',q1,q2,q3⟩:=h4 j i' t' (by simpa using hj);exact ⟨y,d',by simpa using q1,q2,fun e he=>hsub e (q3 e he)⟩
def xY (P:Program) (w:World) (tmps:Array Value) (i:Nat):Rk->Value
 | .cell _ t=>match (do loadVar t (<-asAddr (tmps.getD i undef)):Sem Value).run P w with
  | .ok v _=>v
  | .halt _ _=>undef
 | _=>tmps.getD i undef
theorem lH (h:Rel C S θ a w) {i:Nat} {t:Rk} {x:AV} {d:Option Nat} (hx:dE P S i t=some (x,d)) :
  ((match t.rv i with | .tmp t=>pure (a.tmps.getD t undef) | .cell b t=>do loadVar t (<-asAddr (a.tmps.getD b undef)):Sem Value).run P w=.ok (xY P w a.tmps i t) w)/\
    (∀ s,(t=.val s\/∃ ty,t=.cell s ty)->d=none/\WT s x/\CV w (qx C w S θ) θ x (xY P w a.tmps i t)):=by
 cases t with
 | val s=>
  refine ⟨rfl,fun s' hs=>?_⟩
  have:s' = s:=by
   rcases hs with hs | ⟨ty,hs⟩
   ·cases hs; rfl
   ·cases hs
  subst this;simp only [dE] at hx
  split at hx <;> first | (cases hx; done) | skip
  rename_i hd
  cases hx
  exact ⟨rfl,ZP h hd⟩
 | obj k=>
  refine ⟨rfl,fun s' hs=>?_⟩
  rcases hs with hs | ⟨ty,hs⟩ <;> cases hs
 | cell s ty=>
  simp only [dE] at hx
  split at hx <;> first | (cases hx; done) | skip
  rename_i d' off hs
  split at hx <;> first | (cases hx; done) | skip
  rename_i tr ho
  split at hx <;> first | (cases hx; done) | skip
  rename_i hb
  split at hx <;> first | (cases hx; done) | skip
  rename_i x' hdat
  cases hx
  rw [Bool.and_eq_true] at hb;obtain ⟨hb1,hb2⟩:=hb;have h0:=Nat.eq_of_beq_eq_true hb1;subst h0;obtain ⟨u,h1,h2,h3⟩:=uC h (i:=i) (by rw [hs]; intro e; cases e);rw [hs] at h3;obtain ⟨g,q1,rfl⟩:=h3;obtain ⟨g',e,fr,v,q2,q3,q4,q5,q6,q7⟩:=h.ob ho q1;rw [q1] at q2
  cases q2
  obtain ⟨v',r1,r2⟩:=cN (P:=P) hb2 q6 q5 (wA q3)
  have hrun:(do loadVar ty (<-asAddr (a.tmps.getD i undef)):Sem Value).run P w=.ok v' w:=by
   rw [h2];simp only [asAddr,Sem.run_bind,Sem.run_pure,Result.andThen_ok,r1]
  have hres:xY P w a.tmps i (.cell s ty)=v':=by
   simp only [xY,hrun]
  refine ⟨by rw [hres]; exact hrun,fun s' hs'=>?_⟩
  have:s' = s:=by
   rcases hs' with hs' | ⟨ty',hs'⟩
   ·cases hs'
   ·cases hs'; rfl
  subst this;rw [hres];obtain ⟨t1,t2⟩:=gB h r2 hdat;exact ⟨rfl,t1,t2⟩
def gx (own:Option Nat) (j:Nat) (l:List AV):List AV:=match own with | some q=>if j<=q then l.set (q - j) .undef else l | none=>l
theorem mF (h:Rel C S θ a w) {own:Option Nat} {esc:Bool} {okr:Nat->Prop} {θ1:Nm->Option Value} (hc:∀ s x v,inF fs s=true->(esc=true\/vT s=true)->WT s x->CV w (qx C w S θ) θ x v->CV w okr θ1 x v):∀ (rs:Res) (tys:List TypeId) (j:Nat) (l:List AV) (ds:List Nat),aR P fs own esc j rs tys=true->rl P S rs=some (l,ds)->
  rs.length=tys.length/\(∀ i b,l[i]? = some b->isOwn own (j+i)=false->gr fs b)/\
  CVt w okr θ1 (gx own j l) (rs.map fun p=>xY P w a.tmps p.1 p.2)
 | [],[],j,l,ds,hok,hl=>by
  cases hl
  refine ⟨rfl,fun i b hi=>by simp at hi,?_⟩
  cases own with
  | none=>rfl
  | some q=>by_cases hj:j<=q <;> simp [hj,gx] <;> rfl
 | (i,t)::r,ty::tys,j,l,ds,hok,hl=>by
  obtain ⟨x,d,l',ds',rfl,_,h1,h2⟩:=pY hl;simp only [aR,Bool.and_eq_true] at hok;obtain ⟨hok1,hok2⟩:=hok;obtain ⟨k1,k2,k3⟩:=mF h hc r tys (j+1) l' ds' hok2 h2;obtain ⟨_,hdat⟩:=lH h h1;have dat:∀ s,(t=.val s\/∃ ty,t=.cell s ty)->(!isOwn own j && (inF fs s && (esc || vT s)))=true->((i,t)::r).length=(ty::tys).length/\(∀ p b,(x::l')[p]? = some b->isOwn own (j+p)=false->gr fs b)/\
    CVt w okr θ1 (gx own j (x::l')) (((i,t)::r).map fun p=>xY P w a.tmps p.1 p.2):=by
   intro s hs hb;simp only [Bool.and_eq_true,Bool.not_eq_true',Bool.or_eq_true] at hb;obtain ⟨ho,hi,hf⟩:=hb;obtain ⟨_,hw,hcv⟩:=hdat s hs;have hcv':=hc s x _ hi hf hw hcv;refine ⟨by simp [k1],fun p b hp hb=>?_,?_⟩
   ·cases p with
    | zero=>simp at hp; subst hp; exact ⟨s,hw,hi⟩
    | succ p=>exact k2 p b (by simpa using hp) (by rw [show j+1+p=j+(p+1) by omega]; exact hb)
   ·cases own with
    | none=>exact ⟨_,_,rfl,hcv',k3⟩
    | some q=>
     have hqj:q≠j:=fun e=>by subst e; simp [isOwn] at ho
     simp only [gx] at k3 ⊢
     by_cases hj:j<=q
     ·rw [show (if j<=q then (x::l').set (q - j) .undef else x::l')=x::l'.set (q - (j+1)) .undef by
       rw [if_pos hj,show q - j=(q - (j+1))+1 by omega]; rfl]
      rw [if_pos (show j+1<=q by omega)] at k3;exact ⟨_,_,rfl,hcv',k3⟩
     ·simp only [hj,if_false];simp only [show ¬ j+1<=q by omega,if_false] at k3;exact ⟨_,_,rfl,hcv',k3⟩
  have ownr:isOwn own j=true->((i,t)::r).length=(ty::tys).length/\(∀ p b,(x::l')[p]? = some b->isOwn own (j+p)=false->gr fs b)/\
    CVt w okr θ1 (gx own j (x::l')) (((i,t)::r).map fun p=>xY P w a.tmps p.1 p.2):=by
   intro ho;refine ⟨by simp [k1],fun p b hp hb=>?_,?_⟩
   ·cases p with
    | zero=>rw [Nat.add_zero,ho] at hb; cases hb
    | succ p=>exact k2 p b (by simpa using hp) (by rw [show j+1+p=j+(p+1) by omega]; exact hb)
   ·cases own with
    | none=>cases ho
    | some q=>
     have hqj:q=j:=by simpa [isOwn] using ho
     subst hqj;simp only [gx] at k3;simp only [gx,Nat.le_refl,if_true,Nat.sub_self,List.set_cons_zero];simp only [show ¬ q+1<=q by omega,if_false] at k3;exact ⟨_,_,rfl,trivial,k3⟩
  cases t with
  | val s=>exact dat s (.inl rfl) (by simpa only [Bool.and_eq_true] using hok1)
  | cell s ty'=>exact dat s (.inr ⟨ty',rfl⟩) (by simpa only [Bool.and_eq_true] using hok1)
  | obj k=>
   cases k with
   | row e kk=>simp only [Bool.and_eq_true] at hok1; exact ownr hok1.1
   | rows e s=>simp only [Bool.and_eq_true] at hok1; exact ownr hok1.1
   | box s=>cases hok1
   | iter f=>cases hok1
 | [],_::_,j,l,ds,hok,hl=>by cases (show false=true from hok)
 | _::_,[],j,l,ds,hok,hl=>by cases (show false=true from hok)
theorem lF {own:Option Nat} {esc:Bool}:∀ (rs:Res) (tys:List TypeId) (j:Nat),aR P fs own esc j rs tys=true->∀ k i t,rs[k]? = some (i,t)->isOwn own (j+k)=true->
  ∃ ty e,tys[k]? = some ty/\yd P ty=some e/\((∃ kk,t=.obj (.row e kk))\/∃ s,t=.obj (.rows e s)/\inF fs s=true/\(esc=true\/vT s=true))
 | [],tys,j,h,k,i,t,hk,_=>by simp at hk
 | _::_,[],j,h,_,_,_,_,_=>by cases (show false=true from h)
 | (i',t')::r,ty::tys,j,h,k,i,t,hk,ho=>by
  simp only [aR,Bool.and_eq_true] at h
  cases k with
  | zero=>
   simp only [List.getElem?_cons_zero,Option.some.injEq,Prod.mk.injEq] at hk;obtain ⟨rfl,rfl⟩:=hk;rw [Nat.add_zero] at ho
   have el:∀ e,tX P ty e=true->yd P ty=some e:=fun e he=>by
    unfold tX at he
    split at he
    ·rename_i e' hee;have:e=e':=by simpa using he
     rw [hee,this]
    ·cases he
   have h1:=h.1
   cases t' with
   | val s=>simp [ho] at h1
   | cell s ty=>simp [ho] at h1
   | obj k=>
    cases k with
    | row e kk=>simp only [Bool.and_eq_true] at h1; exact ⟨ty,e,rfl,el e h1.2,.inl ⟨kk,rfl⟩⟩
    | rows e s=>simp only [Bool.and_eq_true,Bool.or_eq_true] at h1; exact ⟨ty,e,rfl,el e h1.2.1,.inr ⟨s,rfl,h1.2.2.1,h1.2.2.2⟩⟩
    | box s=>cases h1
    | iter f=>cases h1
  | succ k=>exact lF r tys (j+1) h.2 k i t (by simpa using hk) (by rw [show j+1+k=j+(k+1) by omega]; exact ho)
theorem ZQ (h:Rel C S θ a w) {ty:TypeId} {e:TypeId} {i:Nat} {t:Rk} {x:AV} {d:Option Nat} {esc:Bool} {S1:St} {θ1:Nm->Option Value} (hx:dE P S i t=some (x,d)) (he:yd P ty=some e) (ht:(∃ kk,t=.obj (.row e kk))\/∃ s,t=.obj (.rows e s)/\inF fs s=true/\(esc=true\/vT s=true))
  {okr:Nat->Prop} (hc:(∀ b,blk (a.tmps.getD i undef)=some b->jm S θ b)->∀ s x v,inF fs s=true->(esc=true\/vT s=true)->WT s x->CV w (qx C w S θ) θ x v->CV w okr θ1 x v)
  (hnew:∀ e o v b,d=some e->S.obj (.top e)=some o->o.isOwn=true->θ (.top e)=some v->blk v=some b->C.w0.heap.size<=b/\¬ jm S1 θ1 b) :
  Qa P C w okr S1 θ1 ty x (a.tmps.getD i undef)/\gr fs x/\∀ b,blk (a.tmps.getD i undef)=some b->jm S θ b:=by
 have hnil:∀ k:Ok,(t=.obj k)->k.isRow=true->S.slot i=.nils->a.tmps.getD i undef=.slice none 0 0:=fun k _ _ hs=>by
  obtain ⟨u,_,h2,h3⟩:=uC h (i:=i) (by rw [hs]; intro e; cases e);rw [hs] at h3;rw [h2];exact h3
 have hbN:∀ b,blk (.slice none 0 0)=some b->False:=fun b hb=>by cases hb
 have hslot:∀ d',S.slot i=.own (.top d')->∃ u,a.tmps.getD i undef=u/\θ (.top d')=some u/\∃ A n c,u=.slice A n c:=fun d' hs=>by
  obtain ⟨u,_,h4,h5⟩:=uC h (i:=i) (by rw [hs]; intro e; cases e);rw [hs] at h5;exact ⟨u,h4,h5.1,h5.2⟩
 have hM:∀ {e:TypeId} {size n:Nat} {v:Value} {cs:List Value},OwnRow w C.M e size v n cs->(∀ b,blk v=some b->C.w0.heap.size<=b)->OwnRow w (fun g=>C.w0.heap.size<=g) e size v n cs:=by
  intro e size n v cs hr hb;refine ⟨hr.1,?_⟩
  rcases hr.2 with h | ⟨g,cap,cur,fr,rfl,h1,h2⟩
  ·exact .inl h
  ·exact .inr ⟨g,cap,cur,fr,rfl,hb g rfl,h2⟩
 rcases ht with ⟨kk,rfl⟩ | ⟨s,rfl,hi,hf⟩
 ·rcases yI rfl (show yb S i (.row e kk)=some (x,d) from hx) with ⟨hs,_,h1 | h1⟩ | ⟨e',hs,hd,h1⟩
  ·obtain ⟨_,_,q,rfl⟩:=h1
   cases q
   rw [hnil _ rfl rfl hs];exact ⟨⟨gX,⟨_,_,_,rfl⟩,fun b hb=>(hbN b hb).elim,e,he,.inl ⟨kk,[],rfl,rfl,.inl ⟨rfl,rfl⟩⟩⟩,⟨.fs kk,⟨_,rfl⟩,rfl⟩,fun b hb=>(hbN b hb).elim⟩
  ·obtain ⟨_,_,q,rfl⟩:=h1; cases q
  ·obtain ⟨o,xs,h2,h3,rfl⟩:=tg h1;obtain ⟨u,h4,h5,h6⟩:=hslot e' hs;obtain ⟨hisO,v,h8,h9⟩:=kv h h2 (wM h2) h3;rw [h5] at h8
   cases h8
   rw [h4];have hB:∀ b,blk u=some b->jm S θ b:=fun b hb=>⟨_,_,u,h2,hisO,h5,hb⟩
   refine ⟨⟨h.base _ _ h5,h6,fun b hb=>⟨(hnew e' o u b hd h2 hisO h5 hb).2,C.M_F (h9.lt hb).2⟩,e,he,.inl ⟨kk,xs,rfl,hM h9 (fun b hb=>(hnew e' o u b hd h2 hisO h5 hb).1)⟩⟩,⟨.fs kk,⟨_,rfl⟩,rfl⟩,hB⟩
 ·rcases yI rfl (show yb S i (.rows e s)=some (x,d) from hx) with ⟨hs,_,h1 | h1⟩ | ⟨e',hs,hd,h1⟩
  ·obtain ⟨_,_,q,rfl⟩:=h1; cases q
  ·obtain ⟨_,_,q,rfl⟩:=h1
   cases q
   rw [hnil _ rfl rfl hs];exact ⟨⟨gX,⟨_,_,_,rfl⟩,fun b hb=>(hbN b hb).elim,e,he,.inr ⟨s,[],[],rfl,by simp,rfl,by simp,.inl ⟨rfl,rfl⟩⟩⟩,⟨.fv s,⟨_,rfl⟩,hi⟩,fun b hb=>(hbN b hb).elim⟩
  ·obtain ⟨o,xs,h2,h3,rfl⟩:=uS h1;obtain ⟨u,h4,h5,h6⟩:=hslot e' hs;obtain ⟨hisO,v,cs,h8,hw,h9,h10⟩:=ph h h2 (wM h2) h3;rw [h5] at h8
   cases h8
   have hB:∀ b,blk u=some b->jm S θ b:=fun b hb=>⟨_,_,u,h2,hisO,h5,hb⟩
   have hc:=hc (by rw [h4]; exact hB);rw [h4];refine ⟨⟨h.base _ _ h5,h6,fun b hb=>⟨(hnew e' o u b hd h2 hisO h5 hb).2,C.M_F (h10.lt hb).2⟩,e,he,.inr ⟨s,xs,cs,rfl,hw,?_,hM h10 (fun b hb=>(hnew e' o u b hd h2 hisO h5 hb).1)⟩⟩,⟨.fv s,⟨_,rfl⟩,hi⟩,hB⟩
   have:∀ (xs:List AV) (cs:List Value),(∀ x∈xs,WT s x)->CVs w (qx C w S θ) θ xs cs->CVs w okr θ1 xs cs:=by
    intro xs
    induction xs with
    | nil=>intro cs _ h; exact h
    | cons x xs ih=>
     intro cs hw h;obtain ⟨v,rest,rfl,hs,h1,h2⟩:=h;exact ⟨v,rest,rfl,hs,hc s x v hi hf (hw x (by simp)) h1,ih rest (fun y hy=>hw y (by simp [hy])) h2⟩
   exact this xs cs hw h9
theorem ut {fn:Func} {rs:Res} (hfn:fn.results=(rs.map fun p=>p.2.rv p.1).toArray) (tmps:Array Value) (w:World)
  (hr:∀ p∈rs,((match p.2.rv p.1 with | .tmp t=>pure (tmps.getD t undef) | .cell b t=>do loadVar t (<-asAddr (tmps.getD b undef)):Sem Value).run P w=.ok (xY P w tmps p.1 p.2) w)) :
  ∃ v,(results fn tmps).run P w=.ok v w/\((rs.length=1/\(rs.map fun p=>xY P w tmps p.1 p.2)=[v])\/(rs.length≠1/\v=.tuple (rs.map fun p=>xY P w tmps p.1 p.2).toArray)):=by
 have key:∀ (f:ResultVar->Sem Value),∀ rs:Res,(∀ p∈rs,(f (p.2.rv p.1)).run P w=.ok (xY P w tmps p.1 p.2) w)->((rs.map fun p=>p.2.rv p.1).mapM f).run P w=.ok (rs.map fun p=>xY P w tmps p.1 p.2) w:=by
  intro f rs
  induction rs with
  | nil=>intro _; simp
  | cons p rs ih=>
   intro hf;rw [List.map_cons,List.mapM_cons];simp only [Sem.run_bind,hf p (by simp),Sem.run_pure,Result.andThen_ok,ih (fun q hq=>hf q (by simp [hq])),List.map_cons]
 unfold results;rw [hfn,List.mapM_toArray];simp only [Sem.run_bind,Sem.run_map];rw [key _ rs hr]
 by_cases hl:rs.length=1
 ·match rs,hl with
  | [p],_=>exact ⟨xY P w tmps p.1 p.2,by simp,.inl ⟨rfl,rfl⟩⟩
 ·exact ⟨.tuple (rs.map fun p=>xY P w tmps p.1 p.2).toArray,by simp [hl],.inr ⟨hl,rfl⟩⟩
end
end Go.Am
end
section
set_option linter.unusedVariables false
set_option linter.unusedSimpArgs false
namespace Go.Am
open Go.RowKit
def WJ (P:Program) (D:FnD) (C:Ctx) (r:List AV) (a' : Act) (w' : World) (chain:List PanicEntry):Prop:=
 ∃ fv cap dargs f args,a'.defers=[{ target:=.fn fv cap,args:=dargs }]/\(invoke (.fn fv cap) dargs).run P w' = .ok (.enter f args) w'/\
  CallsD P f args (.panicking chain) w' fun e u' w''=>(∃ v,e=.returned v)/\settle u' = .returning/\∃ S'' θ'',D.fin P S'' = some r/\Rel C S'' θ'' a' w''
def Vn (P:Program) (E:Env) (D:FnD) (F:Nat->List AV->Option (List AV)):Prop:=
 ∀ (C:Ctx) (n:Nat) (as r:List AV),C.E=E->xp C D.pn->F n as=some r->∀ (θ:Nm->Option Value) (a:Act) (w:World),Rel C (D.ini as) θ a w->a.defers=[]->
  ∀ Q:Exit->Act->World->Prop,(∀ (e:Ex) S' θ' a' w',(match e with | .ext _=>none | .nrm=>D.fin P S' | .ret=>D.fin P S' | .pan=>none)=some r->Rel C S' θ' a' w'->DefLe P a.defers a'.defers->e.all Q a' w')->
   (∀ a' w' chain,WJ P D C r a' w' chain->Q (.panic chain) a' w')->D.body.wp P Q a w
noncomputable def fu (ps:List Pk) (fs:List zZ) (θ:Nm->Option Value):Nm->Option Value:=open Classical in fun d=>match d with
 | .top e=>if ∃ q k s,zh ps q=some (k,s)/\e=par k then θ (.top e) else none
 | .mem f i=>if ∃ D∈fs,D.f=f then θ (.mem f i) else none
section
variable {C:Ctx} {S S' T:St} {θ θ' : Nm->Option Value} {a:Act} {w w' : World} {n m:Nat} {P:Program} {o:Oper} {ok ok' : Nat->Prop} {fs:List zZ}
theorem rM {ps:List Pk} {q k:Nat} {s:Sh} (h:zh ps q=some (k,s)):fu ps fs θ (.top (par k))=θ (.top (par k)):=by
 simp only [fu];rw [if_pos ⟨q,k,s,h,rfl⟩]
theorem pc {ps:List Pk} {e:Nat} {v:Value} (h:fu ps fs θ (.top e)=some v):(∃ q k s,zh ps q=some (k,s)/\e=par k)/\θ (.top e)=some v:=by
 simp only [fu] at h
 split at h
 ·rename_i hh; exact ⟨hh,h⟩
 ·cases h
theorem ba {ps:List Pk} {D:zZ} {i:Nat} (h:D∈fs):fu ps fs θ (.mem D.f i)=θ (.mem D.f i):=by
 simp only [fu];rw [if_pos ⟨D,h,rfl⟩]
theorem fa {ps:List Pk} {f i:Nat} {v:Value} (h:fu ps fs θ (.mem f i)=some v):(∃ D∈fs,D.f=f)/\θ (.mem f i)=some v:=by
 simp only [fu] at h
 split at h
 ·rename_i hh; exact ⟨hh,h⟩
 ·cases h
theorem du {ps:List Pk} {d:Nm} {v:Value} (h:fu ps fs θ d=some v):θ d=some v:=by
 cases d with
 | top e=>exact (pc h).2
 | mem f i=>exact (fa h).2
theorem sI {k:Nat} {s:Sh}:∀ {ps:List Pk} {j q:Nat},zh ps q=some (k,s)->par (j+k)∈gZ ps j:=by
 intro ps
 induction ps generalizing k with
 | nil=>intro j q h; cases h
 | cons p ps ih=>
  intro j q h
  cases p with
  | io s'=>
   cases q with
   | zero=>cases h; simp [gZ]
   | succ q=>
    simp only [zh,Option.map_eq_some_iff] at h;obtain ⟨⟨k1,s1⟩,h1,h2⟩:=h
    cases h2
    have:=ih (j:=j+1) h1;rw [show j+1+k1=j+(k1+1) by omega] at this;simp [gZ,this]
  | val s'=>
   simp only [zh,Option.map_eq_some_iff] at h;obtain ⟨⟨k1,s1⟩,h1,h2⟩:=h
   cases h2
   have:=ih (j:=j+1) h1;rw [show j+1+k1=j+(k1+1) by omega] at this;simpa [gZ] using this
  | fn s'=>
   simp only [zh,Option.map_eq_some_iff] at h;obtain ⟨⟨k1,s1⟩,h1,h2⟩:=h
   cases h2
   have:=ih (j:=j+1) h1;rw [show j+1+k1=j+(k1+1) by omega] at this;simpa [gZ] using this
theorem mU:∀ (ps:List Pk) (j:Nat) (ns ds:List Nat) (il:List AV),kW S (QE ps j) ns ds=some il->
  il.length=jv ps/\∀ q k s,zh ps q=some (k,s)->∃ x,il[q]? = some x/\jk S (par (j+k)) (.box s)=some x/\par (j+k) ∉ ds
 | [],j,ns,ds,il,h=>by cases h; exact ⟨rfl,fun q k s hq=>by cases hq⟩
 | .io s::ps,j,ns,ds,il,h=>by
  simp only [QE,kW] at h
  split at h <;> first | (cases h; done) | skip
  rename_i x hx;obtain ⟨hh,h1⟩:=wF h;rw [Bool.or_eq_false_iff] at hh;obtain ⟨l',h2,rfl⟩:=zO h1;obtain ⟨h3,h4⟩:=mU ps (j+1) _ _ l' h2;refine ⟨by simp [h3,jv],fun q k s' hq=>?_⟩
  cases q with
  | zero=>cases hq; exact ⟨x,rfl,hx,zp hh.2⟩
  | succ q=>
   simp only [zh,Option.map_eq_some_iff] at hq;obtain ⟨⟨k1,s1⟩,h5,h6⟩:=hq
   cases h6
   obtain ⟨y,q1,q2,q3⟩:=h4 q k1 s1 h5;rw [show j+1+k1=j+(k1+1) by omega] at q2 q3;exact ⟨y,by simpa using q1,q2,fun hm=>q3 (by simp [hm])⟩
 | .val s::ps,j,ns,ds,il,h=>by
  obtain ⟨h3,h4⟩:=mU ps (j+1) ns ds il h;refine ⟨by simpa [jv] using h3,fun q k s' hq=>?_⟩;simp only [zh,Option.map_eq_some_iff] at hq;obtain ⟨⟨k1,s1⟩,h5,h6⟩:=hq
  cases h6
  obtain ⟨y,q1,q2,q3⟩:=h4 q k1 s1 h5;rw [show j+1+k1=j+(k1+1) by omega] at q2 q3;exact ⟨y,q1,q2,q3⟩
 | .fn s::ps,j,ns,ds,il,h=>by
  obtain ⟨h3,h4⟩:=mU ps (j+1) ns ds il h;refine ⟨by simpa [jv] using h3,fun q k s' hq=>?_⟩;simp only [zh,Option.map_eq_some_iff] at hq;obtain ⟨⟨k1,s1⟩,h5,h6⟩:=hq
  cases h6
  obtain ⟨y,q1,q2,q3⟩:=h4 q k1 s1 h5;rw [show j+1+k1=j+(k1+1) by omega] at q2 q3;exact ⟨y,q1,q2,q3⟩
theorem mg {l l' : List (Nat × Fam)} {f:Nat}:zu (l++l') f=match zu l f with | some F=>some F | none=>zu l' f:=by
 induction l with
 | nil=>rfl
 | cons x r ih=>
  simp only [List.cons_append,zu]
  cases Nat.beq f x.1 with
  | true=>rfl
  | false=>exact ih
theorem bC {f:Nat} {F:Fam}:∀ {pv:List zZ},zu (ay pv) f=some F->F.l=[]
 | [],h=>by cases h
 | D::r,h=>by
  simp only [ay,zu] at h
  split at h
  ·cases h; rfl
  ·exact bC h
theorem FnD.sound_of {E:Env} {f:FuncId} {fn:Func} {D:FnD} {Fn:Nat->List AV->Option (List AV)} (hbody:Vn P E D Fn)
  (hf : P.funcs[f]? = some fn) (hb : fn.body = some D.body) (hn : fn.name ≠ "runtime.NumGoroutine") (hnt : fn.ntmps = D.m) (hres : fn.results = (D.rs.map fun p => p.2.rv p.1).toArray) (hg : D.good P = true) :
  qU P E f (qj D Fn):=by
 show pp P E f (qj D Fn);unfold FnD.good at hg;simp only [Bool.and_eq_true] at hg;obtain ⟨hg1,hg2,hg3,hg4⟩:=hg;have hesc:D.esc=true\/mj D.ps D.fs=true:=by simpa using hg4
 refine ⟨⟨fn,hf,by rw [hb]; rfl,hn⟩,hesc,?_⟩;intro n as r hF C0 args θ0 hE hI hH hargs hglob;unfold iz at hg3;simp only [Bool.and_eq_true] at hg3;obtain ⟨hinP,hinF,hnd⟩:=hg3;have hinS:∀ q k s,zh D.ps q=some (k,s)->inF D.fs s=true:=fun q k s hq=>List.all_eq_true.1 hinP (.io s) (List.mem_of_getElem? (kR hq))
 have hinD:∀ X∈D.fs,inF D.fs X.s=true/\∀ ks,X.ks=some ks->inF D.fs ks=true:=fun X hX=>by
  have:=List.all_eq_true.1 hinF X hX;unfold tq at this;rw [Bool.and_eq_true] at this;refine ⟨this.1,fun ks hks=>?_⟩;have h2:=this.2;rw [hks] at h2;exact h2
 have hflS:∀ q k s,zh D.ps q=some (k,s)->D.esc=true\/vT s=true:=fun q k s hq=>by
  rcases hesc with h | h
  ·exact .inl h
  ·unfold mj at h;rw [Bool.and_eq_true] at h;exact .inr (List.all_eq_true.1 h.1 (.io s) (List.mem_of_getElem? (kR hq)))
 have hflD:∀ X∈D.fs,(D.esc=true\/vT X.s=true)/\∀ ks,X.ks=some ks->D.esc=true\/vT ks=true:=fun X hX=>by
  rcases hesc with h | h
  ·exact ⟨.inl h,fun _ _=>.inl h⟩
  ·unfold mj at h;rw [Bool.and_eq_true] at h;have h2:=List.all_eq_true.1 h.2 X hX;unfold eY at h2;rw [Bool.and_eq_true] at h2;refine ⟨.inr h2.1,fun ks hks=>.inr ?_⟩;have h3:=h2.2;rw [hks] at h3;exact h3
 let C:Ctx:={ C0 with pin:=θ0 }
 let HP:St:=(qj D Fn).hp as
 have hfam1:∀ f F,HP.fam f=some F->(D.ini as).fam f=some F:=fun f F h=>by
  show zu (vj D.fs (as.drop D.ps.length)++ay D.pv) f=some F;rw [mg,show zu (vj D.fs (as.drop D.ps.length)) f=some F from h]
 have hfam2:∀ f F,(D.ini as).fam f=some F->HP.fam f=some F\/F.l=[]:=fun f F h=>by
  have h:zu (vj D.fs (as.drop D.ps.length)++ay D.pv) f=some F:=h;rw [mg] at h
  cases hq:zu (vj D.fs (as.drop D.ps.length)) f with
  | some F'=>rw [hq] at h; cases h; exact .inl hq
  | none=>rw [hq] at h; exact .inr (bC h)
 have hhas:∀ d,(D.ini as).has d↔HP.has d:=fun d=>by
  cases d with
  | top e=>exact Iff.rfl
  | mem f i=>
   constructor
   ·rintro ⟨F,h1,h2⟩
    rcases hfam2 f F h1 with h | h
    ·exact ⟨F,h,h2⟩
    ·rw [h] at h2; simp at h2
   ·rintro ⟨F,h1,h2⟩
    exact ⟨F,hfam1 f F h1,h2⟩
 have hobj:∀ d,HP.has d->(D.ini as).obj d=HP.obj d:=fun d hd=>by
  cases d with
  | top e=>rfl
  | mem f i=>
   obtain ⟨F,h1,h2⟩:=hd;rw [zg h1,zg (hfam1 f F h1)]
 have hhasθ:∀ d v,θ0 d=some v->HP.has d:=fun d v hv=>by
  refine Classical.byContradiction (fun hn=>?_);rw [hH.fresh d hn] at hv
  cases hv
 have hown:∀ b,jm (D.ini as) θ0 b↔jm HP θ0 b:=fun b=>by
  constructor
  ·rintro ⟨d,o,v,h1,h2,h3,h4⟩
   exact ⟨d,o,v,by rw [<-hobj d (hhasθ d v h3)]; exact h1,h2,h3,h4⟩
  ·rintro ⟨d,o,v,h1,h2,h3,h4⟩
   exact ⟨d,o,v,by rw [hobj d (hhasθ d v h3)]; exact h1,h2,h3,h4⟩
 have hok:∀ b,qx C0 C0.w0 HP θ0 b->qx C C0.w0 (D.ini as) θ0 b:=fun b hb=>⟨hb.1,hb.2.1,fun h=>hb.2.2 ((hown b).1 h)⟩
 replace hargs:CVt C0.w0 (qx C0 C0.w0 HP θ0) θ0 (xe D.ps 0 as) args.toList:=hargs
 have hlen:(xe D.ps 0 as).length=args.size:=by
  have:∀ (as:List AV) (vs:List Value),CVt C0.w0 (qx C0 C0.w0 HP θ0) θ0 as vs->as.length=vs.length:=by
   intro as
   induction as with
   | nil=>intro vs h; have h:vs=[]:=h; rw [h]; rfl
   | cons a as ih=>intro vs h; obtain ⟨v,rest,rfl,_,h2⟩:=h; simp [ih rest h2]
  simpa using this _ _ hargs
 have hget:∀ (as:List AV) (vs:List Value),CVt C0.w0 (qx C0 C0.w0 HP θ0) θ0 as vs->∀ (i:Nat) v,vs[i]? = some v->∃ x,as[i]? = some x/\CV C0.w0 (qx C0 C0.w0 HP θ0) θ0 x v:=by
  intro as
  induction as with
  | nil=>intro vs h i v hi; have h:vs=[]:=h; subst h; simp at hi
  | cons a as ih=>
   intro vs h i v hi;obtain ⟨u,rest,rfl,h1,h2⟩:=h
   cases i with
   | zero=>simp at hi; subst hi; exact ⟨a,rfl,h1⟩
   | succ i=>simpa using ih rest h2 i v (by simpa using hi)
 have hrel:Rel C (D.ini as) θ0 { tmps:=args++Array.replicate (fn.ntmps - args.size) undef,defers:=[] } C0.w0:=by
  refine ⟨by simp [FnD.ini,hlen,hnt],fun i v hi=>?_,fun d o hd ho=>?_,fun d hd=>hH.fresh d (fun h=>hd ((hhas d).2 h)),fun d d' o o' v v' b h1 h2 h3 h4 hne h5 h6=>?_,hH.os,hH.tape,hH.output,hH.size,hH.frame,fun g t hgt=>?_,hH.base,fun d v hv=>hv⟩
  ·by_cases hlt:i<args.size
   ·have hi:args.toList[i]? = some v:=by
     rw [Array.getElem?_append_left hlt] at hi;simpa using hi
    obtain ⟨x,h1,h2⟩:=hget _ _ hargs i v hi
    have:(D.ini as).slot i=x:=by
     simp only [St.slot,FnD.ini,List.getD_eq_getElem?_getD];rw [List.getElem?_append_left (by omega),h1];rfl
    rw [this];exact qE (ww hok) _ _ h2
   ·have:(D.ini as).slot i=.undef:=by
     simp only [St.slot,FnD.ini,List.getD_eq_getElem?_getD];rw [List.getElem?_append_right (by omega),List.getElem?_replicate]
     split <;> rfl
    rw [this];trivial
  ·have hd':=(hhas d).1 hd;rw [hobj d hd'] at ho;exact (hH.objs d o hd' ho).mono (ww hok) (fun _ _ _ _ _=>rfl)
  ·rw [hobj d (hhasθ d v h5)] at h1;rw [hobj d' (hhasθ d' v' h6)] at h2;exact hH.sep d d' o o' v v' b h1 h2 h3 h4 hne h5 h6
  ·have:=hglob g t (by rw [<-hE]; exact hgt);exact qE ⟨hok,fun _ _=>rfl,fun _ _ h=>by cases h⟩ _ _ this
 have hpins:xp C D.pn:=by
  intro d v hv;have hd:=hhasθ d v hv
  cases d with
  | top e=>
   cases hq:kp (yp D.ps 0 as) e with
   | none=>exact (hd hq).elim
   | some o=>
    obtain ⟨k,s,x,h1,h2,rfl,h4⟩:=jD hq;obtain ⟨q,_,h5⟩:=uF h1;exact sI h5
  | mem f i=>
   obtain ⟨F,h1,_⟩:=hd;obtain ⟨k,X,x,h2,h3,rfl,_⟩:=kB (show zu (vj D.fs (as.drop D.ps.length)) f=some F from h1);exact List.mem_map.2 ⟨X,List.mem_of_getElem? h2,rfl⟩
 have hfull:(qj D Fn).full as r=r:=List.append_nil r;rw [hfull];refine calls_of_wp_defers hf hb ?_;have fin0:∀ (S' : St) (θ' : Nm->Option Value) (a' : Act) (w' : World),Rel C S' θ' a' w'->D.fin P S' = some r->∃ v,(results fn a'.tmps).run P w' = .ok v w'/\∃ v' θ1,Ending.returned v=.returned v'/\(∀ d x,θ0 d=some x->θ1 d=some x)/\
   Ko P C0 D.fs w' ((qj D Fn).hq r) θ1 D.esc D.ty D.own (aq D.rs r) v':=by
  intro S' θ' a' w' hr' hfin;unfold FnD.fin at hfin
  split at hfin <;> first | (cases hfin; done) | skip
  rename_i l ds hl
  split at hfin <;> first | (cases hfin; done) | skip
  rename_i il hil
  split at hfin <;> first | (cases hfin; done) | skip
  rename_i fl hfl
  cases hfin
  rw [bn _ _ _ _ hl];obtain ⟨hil1,hil2⟩:=mU _ _ _ _ _ hil;obtain ⟨hfl1,hfl2⟩:=gV _ _ hfl;obtain ⟨hl1,hl2⟩:=rj _ _ _ hl;have hlty:D.rs.length=D.ty.length:=(mF (fs:=D.fs) (okr:=qx C w' S' θ') (θ1:=θ') hr' (fun _ _ _ _ _ _ h=>h) _ _ 0 _ _ hg1 hl).1
  let θ1:=fu D.ps D.fs θ'
  let S1:St:=(qj D Fn).hq (l++(il++fl))
  have hS1ob:S1.ob=jZ D.ps 0 (il++fl):=by
   show jZ D.ps 0 ((l++(il++fl)).drop D.ty.length)=_;rw [<-hlty,<-hl1,List.drop_left]
  have hS1fm:S1.fm=vj D.fs fl:=by
   show vj D.fs ((l++(il++fl)).drop (D.ty.length+jv D.ps))=_;rw [<-hlty,<-hl1,<-hil1,<-List.drop_drop,List.drop_left,List.drop_left]
  have hio:∀ q k s,zh D.ps q=some (k,s)->∃ t x,il[q]? = some x/\S'.obj (.top (par k))=some (.box t)/\jP s (nrm s t)=true/\x=nrm s t/\par k ∉ ds/\S1.obj (.top (par k))=some (.box (eta s x)):=by
   intro q k s hq;obtain ⟨x,h1,h2,h3⟩:=hil2 q k s hq;rw [Nat.zero_add] at h2 h3;simp only [jk] at h2
   split at h2 <;> first | (cases h2; done) | skip
   rename_i t ho;obtain ⟨h4,rfl⟩:=zK h2;refine ⟨t,_,h1,ho,h4,rfl,h3,?_⟩
   show kp S1.ob (par k)=_;rw [hS1ob];have hql:q<il.length:=(List.getElem?_eq_some_iff.1 h1).1;have:=kL (j:=0) (xs:=il++fl) hq (by rw [List.getElem?_append_left hql]; exact h1);rw [Nat.zero_add] at this;exact this
  have htop:∀ e o,S1.obj (.top e)=some o->∃ q k s t x,zh D.ps q=some (k,s)/\e=par k/\il[q]? = some x/\S'.obj (.top (par k))=some (.box t)/\jP s (nrm s t)=true/\x=nrm s t/\o=.box (eta s x):=by
   intro e o ho;have ho:kp S1.ob e=some o:=ho;rw [hS1ob] at ho;obtain ⟨q,k,s,x,h1,h2,h3,h4⟩:=yN ho;rw [Nat.zero_add] at h3;obtain ⟨t,x',k1,k2,k3,k4,_,_⟩:=hio q k s h1;have hql:q<il.length:=(List.getElem?_eq_some_iff.1 k1).1;rw [List.getElem?_append_left hql,k1] at h2
   cases h2
   exact ⟨q,k,s,t,x,h1,h3,k1,k2,k3,k4,h4⟩
  have hfams:∀ X∈D.fs,∃ F,S'.fam X.f=some F/\F.s=X.s/\F.ks=X.ks/\S1.fam X.f=some F:=by
   intro X hX;obtain ⟨k,hk⟩:=List.getElem?_of_mem hX;obtain ⟨F,h1,h2,h3⟩:=hfl2 k X hk;refine ⟨F,h1,by rw [h2],by rw [h2],?_⟩
   show zu S1.fm X.f=some F;rw [hS1fm,kS (xs:=fl) hnd hk h3,h2];rfl
  have hfam' : ∀ f F,S1.fam f=some F->(∃ X∈D.fs,X.f=f/\F.s=X.s/\F.ks=X.ks)/\S'.fam f=some F:=by
   intro f F hF;have hF' : zu S1.fm f=some F:=hF;rw [hS1fm] at hF';obtain ⟨k,X,x,h1,h2,rfl,_⟩:=kB hF';have hX:=List.mem_of_getElem? h1;obtain ⟨F',q1,q2,q3,q4⟩:=hfams X hX;rw [hF] at q4
   cases q4
   exact ⟨⟨X,hX,rfl,q2,q3⟩,q1⟩
  have hback:∀ d o v,S1.obj d=some o->θ1 d=some v->∃ o',S'.obj d=some o'/\o'.isOwn=true/\θ' d=some v:=by
   intro d o v h1 h2
   cases d with
   | top e=>
    obtain ⟨q,k,s,t,x,k1,rfl,_,k4,_⟩:=htop e o h1;exact ⟨_,k4,rfl,du h2⟩
   | mem f i=>
    obtain ⟨F,hF,rfl⟩:=zA h1;exact ⟨_,zg (hfam' f F hF).2,yA F i,du h2⟩
  have hownb:∀ b,jm S1 θ1 b->jm S' θ' b:=by
   rintro b ⟨d,o,v,h1,h2,h3,h4⟩
   obtain ⟨o',k1,k2,k3⟩:=hback d o v h1 h3;exact ⟨d,o',v,k1,k2,k3,h4⟩
  have hml:jV D.fs θ' θ1:=fun X hX i x hx=>by rw [show θ1 (.mem X.f i)=θ' (.mem X.f i) from ba hX]; exact hx
  have hsame:∀ d x,θ0 d=some x->θ1 d=some x:=by
   intro d x hx;have h1:θ' d=some x:=hr'.pin d x hx;have h2:=hpins d x hx
   cases d with
   | top e=>
    cases hq:kp (yp D.ps 0 as) e with
    | none=>exact (hhasθ _ x hx hq).elim
    | some o=>
     obtain ⟨k,s,y,h3,_,rfl,_⟩:=jD hq;obtain ⟨q,_,h5⟩:=uF h3;rw [Nat.zero_add] at h1 ⊢;rw [show θ1 (.top (par k))=θ' (.top (par k)) from rM h5];exact h1
   | mem f i=>
    obtain ⟨X,hX,rfl⟩:=List.mem_map.1 h2;exact hml X hX i x h1
  have conv:∀ (u:Option Nat),(∀ b,u=some b->jm S' θ' b)->∀ s x v,inF D.fs s=true->(D.esc=true\/vT s=true)->WT s x->CV w' (qx C w' S' θ') θ' x v->CV w' (okR C0 w' S1 θ1 D.esc u) θ1 x v:=by
   intro u hu s x v hi hf hw hv
   cases hesc' : D.esc with
   | true=>exact ja hml (fun b hb=>⟨hb.1,hb.2.1,fun h=>hb.2.2 (hownb b h),fun e=>hb.2.2 (hu b e.symm),fun e=>by cases e⟩) s x v hw hi hv
   | false=>
    rw [hesc'] at hf;exact ik hml s x v hw hi (by simpa using hf) hv
  have hrel1:∀ (u:Option Nat),(∀ b,u=some b->jm S' θ' b)->sF C0 (okR C0 w' S1 θ1 D.esc u) S1 θ1 w':=by
   intro u hu;have cv:=conv u hu;refine ⟨fun d o hd ho=>?_,fun d hd=>?_,fun d d' o o' v v' b h1 h2 h3 h4 hne h5 h6 h7=>?_,hr'.os,hr'.tape,hr'.output,hr'.size,hr'.frame,fun d v hv=>hr'.base d v (du hv)⟩
   ·cases d with
    | top e=>
     obtain ⟨q,k,s,t,x,k1,rfl,k2,k3,k4,k5,rfl⟩:=htop e o ho;have ht:θ1 (.top (par k))=θ' (.top (par k)):=rM k1;have hov:=hr'.obT k3;refine yu (C':=C0) (A:=fun s=>inF D.fs s=true/\(D.esc=true\/vT s=true)) (fun s x v hA hw hv=>cv s x v hA.1 hA.2 hw hv) ⟨hinS q k s k1,hflS q k s k1⟩ hov k5 (by rw [k5]; exact jd _ _ k4) (fun v hv=>by rw [ht]; exact hv) (fun g hg=>?_);exact (hov.lt rfl hg rfl).2
    | mem f i=>
     obtain ⟨F,hF,rfl⟩:=zA ho;obtain ⟨⟨X,hX,rfl,q1,q2⟩,q3⟩:=hfam' f F hF;obtain ⟨F',r1,r2⟩:=hd;rw [hF] at r1
     cases r1
     have hov:=hr'.objs (.mem X.f i) (F.at i) ⟨F,q3,r2⟩ (zg q3);refine yO (C':=C0) (A:=fun s=>inF D.fs s=true/\(D.esc=true\/vT s=true)) (fun s x v hA hw hv=>cv s x v hA.1 hA.2 hw hv) (by rw [q1]; exact ⟨(hinD X hX).1,(hflD X hX).1⟩) (fun ks hks=>?_) hov (fun v hv=>?_) (fun g v hv hb=>(hov.lt (yA F i) hv hb).2)
     ·rw [q2] at hks;exact ⟨(hinD X hX).2 ks hks,(hflD X hX).2 ks hks⟩
     ·rw [show θ1 (.mem X.f i)=θ' (.mem X.f i) from ba hX]; exact hv
   ·cases hv:θ1 d with
    | none=>rfl
    | some v=>
     exfalso
     cases d with
     | top e=>
      obtain ⟨⟨q,k,s,h1,rfl⟩,h2⟩:=pc hv;obtain ⟨_,_,_,_,_,_,_,h3⟩:=hio q k s h1;exact hd (wM h3)
     | mem f i=>
      obtain ⟨⟨X,hX,rfl⟩,h2⟩:=fa hv;obtain ⟨F,q1,_,_,q2⟩:=hfams X hX;obtain ⟨F',r1,r2⟩:=hr'.has_of h2;rw [q1] at r1
      cases r1
      exact hd ⟨F,q2,r2⟩
   ·obtain ⟨p,q1,q2,q3⟩:=hback d o v h1 h5;obtain ⟨p',q1',q2',q3'⟩:=hback d' o' v' h2 h6;exact hr'.sep d d' p p' v v' b q1 q1' q2 q2' hne q3 q3' h7
  have hrun:∀ p∈D.rs,((match p.2.rv p.1 with | .tmp t=>pure (a'.tmps.getD t undef) | .cell b t=>do loadVar t (<-asAddr (a'.tmps.getD b undef)):Sem Value).run P w' = .ok (xY P w' a'.tmps p.1 p.2) w'):=by
   intro p hp;obtain ⟨j,hj⟩:=List.getElem?_of_mem hp;obtain ⟨x,d,_,h2,_⟩:=hl2 j p.1 p.2 hj;exact (lH hr' h2).1
  obtain ⟨v,hv,hvs⟩:=ut (P:=P) hres a'.tmps w' hrun;refine ⟨v,hv,v,θ1,rfl,hsame,?_⟩;refine ⟨by rw [hl1,hlty],D.rs.map (fun p=>xY P w' a'.tmps p.1 p.2),?_,?_⟩
  ·rw [<-hlty];exact hvs
  ·cases hown:D.own with
   | none=>
    rw [hown] at hg1;obtain ⟨_,k2,k3⟩:=mF (fs:=D.fs) hr' (conv none (fun b hb=>by cases hb)) _ _ 0 _ _ hg1 hl;refine ⟨hrel1 none (fun b hb=>by cases hb),k3,fun b hb=>?_⟩;obtain ⟨i,hi⟩:=List.getElem?_of_mem hb;exact k2 i b hi rfl
   | some q=>
    rw [hown] at hg1 hg2;have hq:q<D.rs.length:=by simpa using hg2
    obtain ⟨p,hp⟩ : ∃ p,D.rs[q]? = some p:=⟨_,List.getElem?_eq_getElem hq⟩;obtain ⟨i,t⟩:=p;obtain ⟨x,d,hx1,hx2,hx3⟩:=hl2 q i t hp;obtain ⟨ty,e,ht1,ht2,ht3⟩:=lF _ _ 0 hg1 q i t hp (by simp [isOwn])
    have hrv:xY P w' a'.tmps i t=a'.tmps.getD i undef:=by
     rcases ht3 with ⟨kk,rfl⟩ | ⟨s,rfl,_⟩ <;> rfl
    obtain ⟨hor,hdi,hB⟩:=ZQ (C:=C) (fs:=D.fs) (S1:=S1) (θ1:=θ1) (okr:=okR C0 w' S1 θ1 D.esc (blk (a'.tmps.getD i undef))) hr' hx2 ht2 ht3 (fun hB=>conv _ hB) (fun e o v b hde ho hoo hov hbv=>by
     have hnk:∀ d' o',S'.obj d' = some o'->o'.isOwn=true->d'≠.top e->∀ v',θ' d' = some v'->blk v'≠some b:=fun d' o' h1 h2 h3 v' h4=>hr'.sep (.top e) d' o o' v v' b ho h1 hoo h2 (fun h=>h3 h.symm) hov h4 hbv
     have hne:∀ d' o' v',S1.obj d' = some o'->θ1 d' = some v'->blk v'≠some b:=by
      intro d' o' v' h1 h2;obtain ⟨o'',q1,q2,q3⟩:=hback d' o' v' h1 h2;refine hnk d' o'' q1 q2 (fun hh=>?_) v' q3;subst hh;obtain ⟨q',k,s,t',x',k1,rfl,_⟩:=htop e o' h1;obtain ⟨_,_,_,_,_,_,k5,_⟩:=hio q' k s k1;exact k5 (hx3 _ hde)
     constructor
     ·rcases ((hr'.ob ho hov).lt hoo hov hbv).2 with h | h
      ·exact h
      ·exfalso;obtain ⟨d',o',v',h1,h2,h3,h4⟩:=(hI b).1 h;have h5:=hsame d' v' h3
       have h6:∃ o'',S1.obj d' = some o'':=by
        cases d' with
        | top e'=>
         obtain ⟨⟨q',k,s,k1,rfl⟩,_⟩:=pc h5;obtain ⟨_,_,_,_,_,_,_,k6⟩:=hio q' k s k1;exact ⟨_,k6⟩
        | mem f' i'=>
         obtain ⟨⟨X,hX,rfl⟩,_⟩:=fa h5;obtain ⟨F,_,_,_,q2⟩:=hfams X hX;exact ⟨_,zg q2⟩
       obtain ⟨o'',h6⟩:=h6;exact hne d' o'' v' h6 h5 h4
     ·rintro ⟨d',o',v',h1,h2,h3,h4⟩
      exact hne d' o' v' h1 h3 h4)
    obtain ⟨_,k2,k3⟩:=mF (fs:=D.fs) hr' (conv (blk (a'.tmps.getD i undef)) hB) _ _ 0 _ _ hg1 hl;refine ⟨x,a'.tmps.getD i undef,ty,hx1,by simp [hp,hrv],ht1,hdi,hrel1 _ hB,hor,by simpa [gx] using k3,fun p b hpq hb=>k2 p b hb ?_⟩;simp only [isOwn,Nat.zero_add]
    cases hbq:Nat.beq q p with
    | false=>rfl
    | true=>simp at hbq; exact (hpq hbq.symm).elim
 refine hbody C n as r hE hpins hF _ _ C0.w0 hrel rfl _ (fun e S' θ' a' w' hk hr' hd'=>?_) (fun a' w' chain hp=>?_)
 ·have hq:∀ d∈a'.defers,rg P d:=by
   obtain ⟨qs,h1,h2⟩:=hd';intro d hd;rw [h1] at hd;exact h2 d (by simpa using hd)
  cases e with
  | nrm=>exact xq (fin0 S' θ' a' w' hr' hk) hq
  | ext i=>cases hk
  | ret=>exact xq (fin0 S' θ' a' w' hr' hk) hq
  | pan=>cases hk
 ·obtain ⟨fv,cap,dargs,f',args',h1,h2,h3⟩:=hp
  show Leaves P fn a'.tmps _ a'.defers (.panicking chain) w';rw [h1];refine leaves_cons (by simp) h2 (h3.mono ?_)
  rintro e u' w'' ⟨⟨v,rfl⟩,hu,S'',θ'',h4,h5⟩
  dsimp only;rw [hu];exact fin0 S'' θ'' a' w'' h5 h4
theorem Rel.redesc (h:Rel C S θ a w) {i:Nat} {x:AV} (hx:∀ v,a.tmps[i]? = some v->CV w (qx C w S θ) θ x v):Rel C (S.qe i x) θ a w:=by
 refine ⟨by simpa [St.qe] using h.len,fun j v hj=>?_,fun d o hh ho=>h.objs d o ((jj _ _ _ _).1 hh) ho,fun d hd=>h.fresh d (fun hh=>hd ((jj _ _ _ _).2 hh)),h.sep,h.os,h.tape,h.output,h.size,h.frame,h.globs,h.base,h.pin⟩;rw [mh]
 by_cases e:i=j
 ·subst e;rw [wx _ _ _ (by rw [<-h.len]; exact (Array.getElem?_eq_some_iff.1 hj).1)];exact hx v hj
 ·rw [wH _ _ _ _ e];exact h.slots j v hj
theorem un {N:Rp}:∀ (l:List (Nat × Sh)) {S:St} {p:Pg},Rel C S θ a w->(fE l p).exe N S=some S'->∃ S1,Rel C S1 θ a w/\p.exe N S1=some S'
 | [],S,p,h,hh=>⟨S,h,hh⟩
 | (i,s)::r,S,p,h,hh=>by
  simp only [fE] at hh;replace hh:=mG hh
  cases hv:a.tmps[i]? with
  | none=>
   exfalso;have hl:a.tmps.size<=i:=by simpa using hv
   have:S.slot i=.undef:=by
    have hl' : S.tm.length<=i:=by rw [<-h.len]; exact hl
    simp [St.slot,List.getD_eq_getElem?_getD,List.getElem?_eq_none hl']
   rw [this,bN] at hh;unfold frz at hh
   have:∀ (s:Sh) (K:AV->List Nm->Pg),(cz 9 s .undef K).exe N S≠some S':=by
    intro s K
    cases s <;> simp [cz,yG,qH,nrm,Pg.exe]
   exact this _ _ hh
  | some v=>
   obtain ⟨S1,u',h1,h2,h3,h4,h5,h6⟩:=nd h (kF s _ v (h.slots i v hv)) hh;exact un r (h1.redesc fun v' hv'=>by rw [hv] at hv'; cases hv'; exact h3) (zG h4)
theorem pR {N:Rp}:∀ (l:List (Nat × Sh)) {S:St} {p:Pg},Rel C S θ a w->(mP l p).exe N S=some S'->∃ S1,Rel C S1 θ a w/\p.exe N S1=some S'
 | [],S,p,h,hh=>⟨S,h,hh⟩
 | (i,s)::r,S,p,h,hh=>by
  simp only [mP] at hh;replace hh:=mG hh
  split at hh <;> first | exact (qw hh).elim | skip
  rename_i d off hs;obtain ⟨_,hh⟩:=qy hh;replace hh:=qN hh
  split at hh <;> first | exact (qw hh).elim | skip
  rename_i t ho;obtain ⟨g,e,fr,v,k1,k2,k3,k4,k5,k6⟩:=h.obT ho;obtain ⟨S1,u',h1,h2,h3,h4,h5,h6⟩:=nd h (kF s t v k4) hh;replace h4:=qN h4
  split at h4 <;> first | exact (qw h4).elim | skip
  rename_i t2 ho2
  have hst:u'.stor=true:=by
   exact gC h2
  have hw:v.cells.size=u'.width:=kK hst h3;refine pR r (h1.write0 (o':=.box u') ho2 rfl k1 rfl ⟨fun _ _=>rfl,rfl,rfl,rfl,⟨rfl,.inr trivial⟩⟩ (fun ok' hk=>⟨g,e,fr,v,k1,k2,k3,qE hk _ _ h3,hw,k6⟩)) (zM h4)
theorem xx {D:FnD} {r:List AV} (h:Rel C S θ a w) (hh:D.finz P n S=some r):∃ S1,Rel C S1 θ a w/\D.fin P S1=some r:=by
 obtain ⟨S',h1,h2⟩:=vk 0 _ _ _ hh;obtain ⟨S1,k1,k2⟩:=un _ h h1;obtain ⟨S2,q1,q2⟩:=pR _ k1 k2;have:=wk q2;subst this;exact ⟨_,q1,h2⟩
theorem FnD.soundOv {E:Env} {cal:FuncId->Option Cal} (hcal:∀ f c,cal f=some c->qU P E f c) (hm:P.follows .mixedOrders=true) {H:zi} {f:FuncId} {fn:Func} {D:FnD}
  (hf : P.funcs[f]? = some fn) (hb : fn.body = some D.body) (hn : fn.name ≠ "runtime.NumGoroutine") (hnt : fn.ntmps = D.m) (hres : fn.results = (D.rs.map fun p => p.2.rv p.1).toArray) (hg : D.good P = true)
  (hov:∀ C:Ctx,C.E=E->xp C D.pn->OvOk (DefLe P) C P H D.body) (hpan:∀ C:Ctx,C.E=E->PanH C P H D.body):qU P E f (qj D (D.run P E cal H)):=by
 refine FnD.sound_of (fun C n as r hC hp hF θ a w hrel _ Q hQ _=>?_) hf hb hn hnt hres hg;subst hC;refine yE (Jg P) hp hcal hm D.body (hov C rfl hp) (hpan C rfl) _ _ r hF θ a w hrel Q (fun e S' θ' a' w' hk hr' hd'=>?_)
 cases e with
 | nrm=>obtain ⟨S1,h1,h2⟩:=xx hr' hk; exact hQ .nrm S1 θ' a' w' h2 h1 hd'
 | ret=>obtain ⟨S1,h1,h2⟩:=xx hr' hk; exact hQ .ret S1 θ' a' w' h2 h1 hd'
 | ext i=>cases hk
 | pan=>cases hk
theorem FnD.sound {E:Env} {cal:FuncId->Option Cal} (hcal:∀ f c,cal f=some c->qU P E f c) (hm:P.follows .mixedOrders=true) {H:zi} {f:FuncId} {fn:Func} {D:FnD}
  (hf : P.funcs[f]? = some fn) (hb : fn.body = some D.body) (hn : fn.name ≠ "runtime.NumGoroutine") (hnt : fn.ntmps = D.m) (hres : fn.results = (D.rs.map fun p => p.2.rv p.1).toArray) (hg : D.good P = true)
  (hno:∀ id,H.over id=none:=by intro id; rfl) (hnp:∀ id,H.pan id=none:=by intro id; rfl):qU P E f (qj D (D.run P E cal H)):=
 FnD.soundOv hcal hm hf hb hn hnt hres hg (fun C _ _=>OvOk.none hno) (fun C _=>PanH.none hnp)
end
end Go.Am
end
section
set_option linter.unusedVariables false
set_option linter.unusedSimpArgs false
namespace Go.Am
open Go.RowKit
section
variable {H:Type}
def nD:DataW H->Int
 | .lit (.int _ n)=>n
 | _=>0
mutual
def avD:Sh->DataW H->AV
 | .int k,d=>.int k (nD d)
 | .bool,d=>match d with | .lit (.bool b)=>.bool b | _=>.bool false
 | .str,d=>match d with | .lit (.string l)=>.str l | _=>.str []
 | .arr k n,d=>match d with | .agg l=>.arr k n (l.map nD) | _=>.arr k n []
 | .agg ss,d=>match d with | .agg l=>.agg (dN ss l) | _=>.agg []
 | .fs k,d=>match d with | .slice l _=>.fs k (l.map nD) | _=>.fs k []
 | .nl k,d=>match d with | .slice l _=>.fs k (l.map nD) | _=>.nils
 | .fv s,d=>match d with | .slice l _=>.fv s (l.map (avD s)) | _=>.fv s []
 | .pt f,_=>.pt f none
 | .mp f,_=>.mp f none
def dN:List Sh->List (DataW H)->List AV
 | s::ss,d::ds=>avD s d::dN ss ds
 | _,_=>[]
end
end
def inK (k:IntKind) (n:Int):Prop:=(Lit.int k n).wf=true
mutual
def Fit:Sh->AV->Prop
 | .int k,x=>inK k x.toInt
 | .arr k n,x=>x.qq.length=n/\∀ i∈x.qq,inK k i
 | .agg ss,x=>match x with | .agg cs=>aJ ss cs | _=>False
 | .fs k,x=>∀ i∈x.qq,inK k i
 | .nl k,x=>∀ i∈x.qq,inK k i
 | .fv s,x=>∀ y∈x.qz,Fit s y
 | _,_=>True
def aJ:List Sh->List AV->Prop
 | s::ss,c::cs=>Fit s c/\aJ ss cs
 | [],[]=>True
 | _,_=>False
end
mutual
def rz:Sh->Bool
 | .agg l=>eP l
 | .fv s=>Nat.blt 0 s.width && rz s
 | .nl _=>false
 | _=>true
def eP:List Sh->Bool
 | []=>true
 | s::l=>rz s && eP l
end
section
variable {H:Type} {enc:TypeId × Value->H} {P:Program} {E:Env} {W:World} {ok:Nat->Prop} {θ:Nm->Option Value} {base:Nat} {spare:Nat->Bool} {held:Bool}
def Good (W:World) (ok:Nat->Prop) (θ:Nm->Option Value) (s:Sh) (cs:List Value) (d:DataW H):Prop:=
 (∃ v:Value,v.cells.toList=cs/\v.cells.size=(avD s d).width/\CV W ok θ (avD s d) v)/\WT s (avD s d)/\Fit s (avD s d)
theorem Good.len {s:Sh} {cs:List Value} {d:DataW H} (h:Good W ok θ s cs d):cs.length=s.width:=by
 obtain ⟨⟨v,rfl,h2,_⟩,h3,_⟩:=h;rw [Array.length_toList,h2,vU s _ h3]
theorem fI {m:Nat}:∀ (Ts:List TypeId) (ss:List Sh) (cs:List Value) (xs:List (DataW H × List MemPlace)),Ts.length=ss.length->xs.length=Ts.length->
  (∀ (i:Nat) (t:TypeId) (s:Sh),Ts[i]? = some t->ss[i]? = some s->∀ cs x,DataW.trod enc P W base spare held m t cs=some x->Good W ok θ s cs x.1)->cs.length=(Ts.map P.cellsOf).sum->
  (∀ (i:Nat) (t:TypeId),Ts[i]? = some t->DataW.trod enc P W base spare held m t ((cs.drop ((Ts.take i).map P.cellsOf).sum).take (P.cellsOf t))=xs[i]?)->
  CVs W ok θ (dN ss (xs.map (·.1))) cs/\WTs ss (dN ss (xs.map (·.1)))/\aJ ss (dN ss (xs.map (·.1)))
 | [],[],cs,xs,_,hx,_,hl,_=>by
  have:xs=[]:=List.eq_nil_of_length_eq_zero (by simpa using hx);subst this;have:cs=[]:=List.eq_nil_of_length_eq_zero (by simpa using hl);subst this;exact ⟨rfl,rfl,trivial⟩
 | t::Ts,s::ss,cs,[],_,hx,_,_,_=>by simp at hx
 | t::Ts,s::ss,cs,x::xs,hl,hx,hg,hc,ht=>by
  have h0:=ht 0 t rfl;simp only [List.take_zero,List.map_nil,List.sum_nil,List.drop_zero,List.getElem?_cons_zero] at h0;have g0:=hg 0 t s rfl rfl _ _ h0;have hlen:=g0.len;obtain ⟨⟨v,hv1,hv2,hv3⟩,hw,hf⟩:=g0;simp only [List.map_cons,List.sum_cons] at hc;have hle:P.cellsOf t<=cs.length:=by omega
  obtain ⟨r1,r2,r3⟩:=fI Ts ss (cs.drop (P.cellsOf t)) xs (by simpa using hl) (by simpa using hx) (fun i t' s' h1 h2=>hg (i+1) t' s' (by simpa using h1) (by simpa using h2)) (by rw [List.length_drop]; omega) (fun i t' h1=>by
   have:=ht (i+1) t' (by simpa using h1);simp only [List.take_succ_cons,List.map_cons,List.sum_cons,List.getElem?_cons_succ] at this;rw [List.drop_drop]
   exact this)
  refine ⟨⟨v,cs.drop (P.cellsOf t),?_,hv2,hv3,r1⟩,⟨_,_,rfl,hw,r2⟩,hf,r3⟩;rw [hv1,List.take_append_drop]
 | [],s::ss,_,_,hl,_,_,_,_=>by simp at hl
 | t::Ts,[],_,_,hl,_,_,_,_=>by simp at hl
theorem jE (n c:Nat):(List.replicate n c).sum=n * c:=by
 induction n with
 | zero=>simp
 | succ n ih=>rw [List.replicate_succ,List.sum_cons,ih,Nat.add_mul]; omega
theorem gw {s:Sh}:∀ (l:List (DataW H)),dN (List.replicate l.length s) l=l.map (avD s)
 | []=>rfl
 | d::l=>by
  rw [List.length_cons,List.replicate_succ]
  show avD s d::dN _ l=_;rw [gw l];rfl
theorem gA {s:Sh}:∀ {n:Nat} {l:List AV},WTs (List.replicate n s) l->∀ x∈l,WT s x
 | 0,l,h,x,hx=>by simp only [List.replicate_zero,WTs] at h; subst h; cases hx
 | n+1,l,h,x,hx=>by
  rw [List.replicate_succ] at h;obtain ⟨c,r,rfl,h1,h2⟩:=h
  rcases List.mem_cons.1 hx with rfl | hx
  ·exact h1
  ·exact gA h2 x hx
theorem xM {s:Sh}:∀ {n:Nat} {l:List AV},aJ (List.replicate n s) l->∀ x∈l,Fit s x
 | 0,[],h,x,hx=>by cases hx
 | n+1,[],h,x,hx=>by cases hx
 | 0,c::r,h,x,hx=>by simp [aJ] at h
 | n+1,c::r,h,x,hx=>by
  rw [List.replicate_succ] at h;obtain ⟨h1,h2⟩:=h
  rcases List.mem_cons.1 hx with rfl | hx
  ·exact h1
  ·exact xM h2 x hx
theorem dz {fs:List zZ}:∀ {l:List Sh} {s:Sh},ur fs l=true->s∈l->inF fs s=true
 | s'::l,s,h,hs=>by
  simp only [ur,Bool.and_eq_true] at h
  rcases List.mem_cons.1 hs with rfl | hs
  ·exact h.1
  ·exact dz h.2 hs
theorem pU:∀ {l:List Sh} {s:Sh},eP l=true->s∈l->rz s=true
 | s'::l,s,h,hs=>by
  simp only [eP,Bool.and_eq_true] at h
  rcases List.mem_cons.1 hs with rfl | hs
  ·exact h.1
  ·exact pU h.2 hs
theorem nA (a:Addr) (x y:Nat):(a.add x).add y=a.add (x+y):=by
 unfold Addr.add
 by_cases hx:x=0
 ·by_cases hy:y=0 <;> simp [hx,hy]
 ·by_cases hy:y=0
  ·simp [hx,hy]
  ·have:x+y≠0:=by omega
   simp [hx,hy,Nat.add_assoc]
theorem bV {m:Nat} {e:TypeId} {k:IntKind} (he:P.underlying e=some (.int k)) {cs:List Value} {xs:List (DataW H × List MemPlace)} (hc:cs.length=xs.length * P.cellsOf e)
  (h:∀ i,i<xs.length->DataW.trod enc P W base spare held m e ((cs.drop (i * P.cellsOf e)).take (P.cellsOf e))=xs[i]?) :
  cs=qr k ((xs.map (·.1)).map nD)/\∀ i∈(xs.map (·.1)).map nD,inK k i:=by
 induction xs generalizing cs with
 | nil=>
  have:cs=[]:=List.eq_nil_of_length_eq_zero (by simpa using hc);subst this;exact ⟨rfl,by simp⟩
 | cons x xs ih=>
  have h0:=h 0 (by simp);simp only [Nat.zero_mul,List.drop_zero,List.getElem?_cons_zero] at h0;obtain ⟨n,e1,e2,e3⟩:=DataW.trod_int he h0
  have hc1:P.cellsOf e=1:=by
   have h1:(cs.take (P.cellsOf e)).length=1:=by rw [e1]; rfl
   rw [List.length_take,hc,List.length_cons,Nat.add_mul] at h1;have:P.cellsOf e<=xs.length * P.cellsOf e+1 * P.cellsOf e:=by omega
   omega
  rw [hc1] at h e1 hc
  have:=ih (cs:=cs.drop 1) (by rw [List.length_drop,hc1]; simp only [List.length_cons] at hc; omega) (fun i hi=>by
   have:=h (i+1) (by simp only [List.length_cons]; omega);rw [List.drop_drop,hc1];rw [show 1+i * 1=(i+1) * 1 by omega]
   simpa using this)
  obtain ⟨q1,q2⟩:=this;have hx:nD x.1=n:=by rw [e2]; rfl
  constructor
  ·rw [<-List.take_append_drop 1 cs,e1,q1];simp [qr,hx]
  ·intro i hi;simp only [List.map_cons,List.mem_cons] at hi
   rcases hi with rfl | hi
   ·rw [hx]; exact e3
   ·exact q2 i hi
theorem eG (hl:laidOutB P=true) (hok:∀ b,b<W.heap.size->ok b):∀ (n:Nat) (t:TypeId) (s:Sh),shT P E n t=some s->t<P.types.size->inF [] s=true->rz s=true->
  ∀ (fuel:Nat) (cs:List Value) (x:DataW H × List MemPlace),DataW.trod enc P W base spare held fuel t cs=some x->Good W ok θ s cs x.1:=by
 intro n
 induction n with
 | zero=>intro t s hs; cases hs
 | succ n ih=>
  intro t s hs ht hin hpos fuel cs x hx;unfold shT at hs
  split at hs
  ·
   rename_i hu
   cases hs
   obtain ⟨b,rfl,rfl⟩:=DataW.trod_bool hu hx;exact ⟨⟨.bool b,rfl,rfl,rfl⟩,⟨_,rfl⟩,trivial⟩
  ·
   rename_i k hu
   cases hs
   obtain ⟨i,rfl,rfl,hw⟩:=DataW.trod_int hu hx;exact ⟨⟨.int k i,rfl,rfl,rfl⟩,⟨_,rfl⟩,hw⟩
  ·
   rename_i hu
   cases hs
   obtain ⟨l,rfl,rfl,hw⟩:=DataW.trod_string hu hx;exact ⟨⟨.string l,rfl,rfl,rfl⟩,⟨_,rfl⟩,trivial⟩
  ·
   rename_i e hu;have hte:=kid_slice hl ht hu
   rcases DataW.trod_slice hu hx with ⟨rfl,rfl⟩ | ⟨a,len,cap,elems,rest,m,rfl,rfl,rfl,hb,hlc,hcap,hel,hgel,_⟩
   ·split at hs
    ·cases hs
     exact ⟨⟨.slice none 0 0,rfl,rfl,none,0,rfl,Nat.le_refl _,fun h=>by simp at h⟩,⟨_,rfl⟩,fun i hi=>by cases hi⟩
    ·simp only [Option.map_eq_some_iff] at hs;obtain ⟨s',hs',rfl⟩:=hs;exact ⟨⟨.slice none 0 0,rfl,rfl,none,0,[],rfl,Nat.le_refl _,(fun x hx=>by cases hx),rfl,fun h=>by simp at h⟩,⟨_,rfl⟩,fun i hi=>by cases hi⟩
   ·subst hel
    have hcs:∀ i,i<elems.length->∃ q:List Value,W.cells? base (a.add (i * P.cellsOf e)) (P.cellsOf e)=some q/\DataW.trod enc P W base spare held m e q=elems[i]?:=by
     intro i hi;have h1:=hgel i hi;rw [List.getElem?_eq_getElem hi] at h1
     cases hq:W.cells? base (a.add (i * P.cellsOf e)) (P.cellsOf e) with
     | none=>rw [hq] at h1; cases h1
     | some q=>rw [hq] at h1; exact ⟨q,rfl,by rw [List.getElem?_eq_getElem hi]; exact h1⟩
    let all:List Value:=(List.range (elems.length * P.cellsOf e)).map fun j=>(W.cell? (a.add j)).getD (.bool false)
    have hall:∀ i,i<elems.length->W.cells? base (a.add (i * P.cellsOf e)) (P.cellsOf e)=some ((all.drop (i * P.cellsOf e)).take (P.cellsOf e)):=by
     intro i hi;obtain ⟨q,hq,_⟩:=hcs i hi;obtain ⟨q1,q2,q3⟩:=World.cells?_some hq
     have hmul:i * P.cellsOf e+P.cellsOf e<=elems.length * P.cellsOf e:=by
      rw [<-Nat.succ_mul];exact Nat.mul_le_mul_right _ hi
     have:q=(all.drop (i * P.cellsOf e)).take (P.cellsOf e):=by
      refine List.ext_getElem? (fun j=>?_)
      by_cases hj:j<P.cellsOf e
      ·rw [List.getElem?_take_of_lt hj,List.getElem?_drop,<-q3 j hj];have hlt:i * P.cellsOf e+j<elems.length * P.cellsOf e:=by omega
       simp only [all,List.getElem?_map,List.getElem?_range hlt,Option.map_some];have hadd:(a.add (i * P.cellsOf e)).add j=a.add (i * P.cellsOf e+j):=nA _ _ _;rw [hadd];have:=q3 j hj;rw [hadd,List.getElem?_eq_getElem (by omega)] at this;rw [this];rfl
      ·rw [List.getElem?_eq_none (by omega),List.getElem?_eq_none (by rw [List.length_take]; omega)]
     rw [<-this];exact hq
    have hcell:0<P.cellsOf e->∀ j,j<elems.length * P.cellsOf e->W.cell? (a.add j)=all[j]?:=by
     intro hpc j hj;have hi:j / P.cellsOf e<elems.length:=by rw [Nat.div_lt_iff_lt_mul hpc]; exact hj
     obtain ⟨q,hq,_⟩:=hcs _ hi;obtain ⟨q1,q2,q3⟩:=World.cells?_some hq;have hr:j % P.cellsOf e<P.cellsOf e:=Nat.mod_lt _ hpc;have h3:=q3 _ hr
     have hadd:(a.add (j / P.cellsOf e * P.cellsOf e)).add (j % P.cellsOf e)=a.add j:=by
      have:j / P.cellsOf e * P.cellsOf e+j % P.cellsOf e=j:=by rw [Nat.mul_comm]; exact Nat.div_add_mod _ _
      rw [nA,this]
     rw [hadd,List.getElem?_eq_getElem (by omega)] at h3;simp only [all,List.getElem?_map,List.getElem?_range hj,Option.map_some,h3,Option.getD_some]
    have hall_len:all.length=elems.length * P.cellsOf e:=by simp [all]
    have helt:∀ i,i<elems.length->DataW.trod enc P W base spare held m e ((all.drop (i * P.cellsOf e)).take (P.cellsOf e))=elems[i]?:=by
     intro i hi;obtain ⟨q,hq,h2⟩:=hcs i hi;rw [hall i hi] at hq
     cases hq
     exact h2
    have hblock:0<elems.length->0<P.cellsOf e->a.block<W.heap.size:=by
     intro h1 h2;have h3:=hcell h2 0 (by exact Nat.mul_pos h1 h2);have h4:0<all.length:=by rw [hall_len]; exact Nat.mul_pos h1 h2
     rw [List.getElem?_eq_getElem h4] at h3
     rcases Nat.lt_or_ge a.block W.heap.size with h5 | h5
     ·exact h5
     ·simp [World.cell?,Go.Am.block_add,Array.getElem?_eq_none h5] at h3
    split at hs
    ·
     rename_i k he
     cases hs
     obtain ⟨q1,q2⟩:=bV he hall_len helt;refine ⟨⟨.slice (some a) elems.length cap,rfl,rfl,some a,cap,by simp,by simpa using hlc,fun h0=>?_⟩,⟨_,rfl⟩,q2⟩;have h0' : 0<elems.length:=by simpa using h0
     have hc1:P.cellsOf e=1:=by
      have h1:=helt 0 h0';rw [List.getElem?_eq_getElem h0'] at h1;obtain ⟨_,e1,_,_⟩:=DataW.trod_int he h1;have h2:((all.drop (0 * P.cellsOf e)).take (P.cellsOf e)).length=1:=by rw [e1]; rfl
      rw [Nat.zero_mul,List.drop_zero,List.length_take,hall_len] at h2;have:P.cellsOf e<=elems.length * P.cellsOf e:=Nat.le_mul_of_pos_left _ h0';omega
     refine ⟨a,rfl,hok _ (hblock h0' (by omega)),fun j u hj=>?_⟩;have hj2:all[j]? = some u:=by rw [q1]; exact hj
     have hjl:j<elems.length * P.cellsOf e:=by
      rw [<-hall_len];exact (List.getElem?_eq_some_iff.1 hj2).1
     rw [hcell (by omega) j hjl,hj2]
    ·
     simp only [Option.map_eq_some_iff] at hs;obtain ⟨s',hs',rfl⟩:=hs;simp only [rz,Bool.and_eq_true] at hpos;have hin' : inF [] s' = true:=hin;have ihe:=fun cs x=>ih e s' hs' hte hin' hpos.2 m cs x
     have hTs:(List.map P.cellsOf (List.replicate elems.length e)).sum=elems.length * P.cellsOf e:=by rw [List.map_replicate,jE]
     obtain ⟨r1,r2,r3⟩:=fI (enc:=enc) (base:=base) (spare:=spare) (held:=held) (m:=m) (ok:=ok) (θ:=θ) (List.replicate elems.length e) (List.replicate elems.length s') all elems (by simp) (by simp) (fun i t' s'' h1 h2 cs x h3=>by
       simp only [List.getElem?_replicate] at h1 h2
       split at h1
       ·rw [if_pos (by assumption)] at h2
        cases h1; cases h2
        exact ihe cs x h3
       ·cases h1) (by rw [hall_len,hTs]) (fun i t' h1=>by
       simp only [List.getElem?_replicate] at h1
       split at h1
       ·rename_i hi
        cases h1
        rw [List.take_replicate,List.map_replicate,jE,Nat.min_eq_left (Nat.le_of_lt hi)];exact helt i hi
       ·cases h1)
     have hrep:dN (List.replicate elems.length s') (elems.map (·.1))=(elems.map (·.1)).map (avD s'):=by
      have:=gw (s:=s') (elems.map (·.1))
      rwa [List.length_map] at this
     rw [hrep] at r1 r2 r3;refine ⟨⟨.slice (some a) elems.length cap,rfl,rfl,some a,cap,all,by simp,by simpa using hlc,fun y hy=>gA r2 y hy,r1,fun h0=>?_⟩,⟨_,rfl⟩,fun y hy=>xM r3 y hy⟩;have h0' : 0<elems.length:=by simpa using h0
     have hpc:0<P.cellsOf e:=by
      have h1:=helt 0 h0';rw [List.getElem?_eq_getElem h0'] at h1;have h2:=(ihe _ _ h1).len;rw [Nat.zero_mul,List.drop_zero,List.length_take,hall_len] at h2;have h3:0<s'.width:=by simpa using hpos.1
      omega
     refine ⟨a,rfl,hok _ (hblock h0' hpc),fun j u hj=>?_⟩
     have hjl:j<elems.length * P.cellsOf e:=by
      rw [<-hall_len];exact (List.getElem?_eq_some_iff.1 hj).1
     rw [hcell hpc j hjl,hj]
  ·
   rename_i m e hu;obtain ⟨hte,hce⟩:=kid_array hl ht hu;obtain ⟨xs,f,rfl,rfl,hlen,hxl,hel⟩:=DataW.trod_array hu hx
   split at hs
   ·rename_i k he
    cases hs
    obtain ⟨q1,q2⟩:=bV he (cs:=cs) (xs:=xs) (by rw [hlen,hce,hxl]) (fun i hi=>hel i (by omega));refine ⟨⟨.agg cs.toArray,by simp [Value.cells],?_,by simp [hxl],by rw [q1]⟩,⟨_,rfl⟩,by show ((xs.map (·.1)).map nD).length=m; simp [hxl],q2⟩
    show cs.toArray.size=m;rw [q1];simp [qr,hxl]
   ·simp only [Option.map_eq_some_iff] at hs;obtain ⟨s',hs',rfl⟩:=hs;subst hxl;have hin' : ∀ s''∈List.replicate xs.length s',inF [] s'' = true:=fun s'' h=>dz hin h
    have hpos' : ∀ s''∈List.replicate xs.length s',rz s'' = true:=fun s'' h=>pU hpos h
    have hTs:(List.map P.cellsOf (List.replicate xs.length e)).sum=xs.length * P.cellsOf e:=by rw [List.map_replicate,jE]
    obtain ⟨r1,r2,r3⟩:=fI (enc:=enc) (base:=base) (spare:=spare) (held:=held) (m:=f) (ok:=ok) (θ:=θ) (List.replicate xs.length e) (List.replicate xs.length s') cs xs (by simp) (by simp) (fun i t' s'' h1 h2 cs x h3=>by
      have hm:=List.mem_of_getElem? h2;simp only [List.getElem?_replicate] at h1 h2
      split at h1
      ·rw [if_pos (by assumption)] at h2
       cases h1; cases h2
       exact ih e s' hs' hte (hin' _ hm) (hpos' _ hm) f cs x h3
      ·cases h1) (by rw [hlen,hce,hTs]) (fun i t' h1=>by
      simp only [List.getElem?_replicate] at h1
      split at h1
      ·rename_i hi
       cases h1
       rw [List.take_replicate,List.map_replicate,jE,Nat.min_eq_left (Nat.le_of_lt hi)];exact hel i hi
      ·cases h1)
    exact ⟨⟨.agg cs.toArray,by simp [Value.cells],by simp [Value.cells,AV.width,avD,<-wC r1],cs.toArray,rfl,by simpa using r1⟩,⟨_,rfl,r2⟩,r3⟩
  ·
   rename_i fs hu;obtain ⟨hk1,hk2,hk3⟩:=kid_struct hl ht hu;simp only [Option.map_eq_some_iff] at hs;obtain ⟨l,hs',rfl⟩:=hs;obtain ⟨xs,f,rfl,rfl,hlen,hxl,hel⟩:=DataW.trod_struct hu hx;have hll:l.length=fs.toList.length:=mapM_some_length hs'
   obtain ⟨r1,r2,r3⟩:=fI (enc:=enc) (base:=base) (spare:=spare) (held:=held) (m:=f) (ok:=ok) (θ:=θ) (fs.toList.map (·.type)) l cs xs (by rw [List.length_map,hll]) (by rw [List.length_map,hxl,Array.length_toList]) (fun i t' s'' h1 h2 cs x h3=>by
     rw [List.getElem?_map,Option.map_eq_some_iff] at h1;obtain ⟨fd,h1,rfl⟩:=h1;have h4:=mapM_some_get hs' i fd h1;rw [h2] at h4
     exact ih fd.type s'' h4 (hk1 fd (List.mem_of_getElem? h1)) (dz hin (List.mem_of_getElem? h2)) (pU hpos (List.mem_of_getElem? h2)) f cs x h3) (by rw [hlen,hk2,List.map_map]; rfl) (fun i t' h1=>by
     rw [List.getElem?_map,Option.map_eq_some_iff] at h1;obtain ⟨fd,h1,rfl⟩:=h1;have h5:=hel i fd (by simpa using h1);rw [hk3 i fd h1] at h5;rw [<-List.map_take,List.map_map]
     exact h5)
   exact ⟨⟨.agg cs.toArray,by simp [Value.cells],by simp [Value.cells,AV.width,avD,<-wC r1],cs.toArray,rfl,by simpa using r1⟩,⟨_,rfl,r2⟩,r3⟩
  ·simp only [Option.map_eq_some_iff] at hs;obtain ⟨f,_,rfl⟩:=hs
   cases (show false=true from hin)
  ·simp only [Option.map_eq_some_iff] at hs;obtain ⟨f,_,rfl⟩:=hs
   cases (show false=true from hin)
  ·cases hs
theorem lS {v u:Value} (h:v.cells.toList=u.cells.toList) (hv:(∃ a b,v=.agg a/\u=.agg b)\/(v.cells = #[v]/\u.cells = #[u])):v=u:=by
 have h:v.cells=u.cells:=Array.toList_inj.1 h
 rcases hv with ⟨a,b,rfl,rfl⟩ | ⟨h1,h2⟩
 ·exact congrArg Value.agg h
 ·rw [h1,h2] at h;simpa using h
theorem ye (hl:laidOutB P=true) (hok:∀ b,b<W.heap.size->ok b) {n:Nat} {t:TypeId} {s:Sh} {x:AV} {g:Nat} {name:String} {cs:Array Value} {fuel:Nat} {d:DataW H} {p:List MemPlace} (hs:shT P E n t=some s) (ht:t<P.types.size) (hin:inF [] s=true) (hp:rz s=true)
  (hg:P.globalNamed name=some g) (hv:W.var? P name=some cs) (h:DataW.trod enc P W base spare held fuel t cs.toList=some (d,p)) (hx:avD s d=x):CV W ok (fun _=>none) (.fp x) (.pointer (some ⟨g,0,none⟩)):=by
 obtain ⟨⟨u,h1,_,h2⟩,h3,h4⟩:=eG (θ:=fun _=>none) hl hok n t _ hs ht hin hp fuel _ _ h;refine ⟨⟨g,0,none⟩,u,rfl,hok _ ?_,by rw [<-hx]; exact h2,fun j c hj=>?_⟩
 ·simp only [World.var?,hg,Option.bind_some] at hv
  rcases Nat.lt_or_ge g W.heap.size with h5 | h5
  ·exact h5
  ·simp [Array.getElem?_eq_none h5] at hv
 ·have:=World.var?_cell hg hv j;rw [h1] at hj
  have hadd:(⟨g,0,none⟩ : Addr).add j=⟨g,j,none⟩:=by
   unfold Addr.add
   split
   ·rename_i h0; rw [h0]
   ·simp
  rw [hadd,this];simpa using hj
theorem Zq {f:FuncId} {D:FnD} {F:Nat->List AV->Option (List AV)} (h:qU P E f (qj D F)) {n:Nat} {xs:List AV} {r:AV} {rv:Value} {s:Sh} (hF:F n xs=some [r]) (hsl:xe D.ps 0 xs=xs) (hob:yp D.ps 0 xs=[]) (hob' : jZ D.ps 0 []=[]) (hfs:D.fs=[]) (hown:D.own=none) {t:TypeId} (hty:D.ty=[t]) {i:Nat} (hrs:D.rs=[(i,.val s)]) (hes:eta s r=r) (hrv:∀ w ok θ v,CV w ok θ r v->v=rv)
  (hgd:∀ g t,E.glob g=some t->∃ s,WT s t/\inF [] s=true) {args:Array Value} (hargs:∀ ok:Nat->Prop,(∀ b,b<W.heap.size->ok b)->CVt W ok (fun _=>none) xs args.toList) (hglob:∀ ok:Nat->Prop,(∀ b,b<W.heap.size->ok b)->ni W ok E.glob) :
  Calls P f args W fun e W'=>e=.returned rv/\gz W W':=by
 let C:Ctx:={ w0:=W,I:=fun _=>False,F:=fun _=>False,E:=E,ib:=fun _ h=>h.elim,fb:=fun _ h=>h.elim,iF:=fun _ h=>h.elim,gd:=hgd }
 have hp:(qj D F).hp xs=⟨[],[],[]⟩:=by
  show (⟨[],yp D.ps 0 xs,vj D.fs _⟩ : St)=_;rw [hob,hfs];rfl
 have hnob:∀ d,(⟨[],[],[]⟩ : St).obj d=none:=fun d=>by cases d <;> rfl
 have hnhas:∀ d,¬ (⟨[],[],[]⟩ : St).has d:=fun d hd=>by
  cases d with
  | top d=>exact hd rfl
  | mem f i=>obtain ⟨F,hF,_⟩:=hd; cases hF
 have hnown:∀ b,¬ jm (⟨[],[],[]⟩ : St) (fun _=>none) b:=fun b ⟨d,o,v,h1,_⟩=>by rw [hnob] at h1; cases h1
 have hok:∀ b,b<W.heap.size->qx C W (⟨[],[],[]⟩ : St) (fun _=>none) b:=fun b hb=>⟨hb,fun h=>h,hnown b⟩
 refine (h.2.2 n xs [r] hF C args (fun _=>none) rfl (fun b=>⟨fun h=>h.elim,fun h=>by rw [hp] at h; exact hnown b h⟩) ?_ ?_ ?_).mono ?_
 ·rw [hp];exact ⟨fun d o h1 h2=>(hnhas d h1).elim,fun d _=>rfl,fun d d' o o' v v' b h1=>(by rw [hnob] at h1; cases h1),rfl,rfl,⟨rfl,.inr trivial⟩,Nat.le_refl _,fun b _ _=>rfl,fun d v h=>(by cases h)⟩
 ·rw [hp]
  show CVt W _ _ (xe D.ps 0 xs) _;rw [hsl];exact hargs _ hok
 ·rw [hp];exact hglob _ hok
 ·rintro e W' ⟨v,θ1,rfl,_,hlen,vs,hvs,hres⟩
  rw [show (qj D F).own=none from hown] at hres;obtain ⟨hH,hct,_⟩:=hres;have hfull:(qj D F).full xs [r]=[r]:=List.append_nil _
  have hr:(qj D F).res [r]=[r]:=by
   show aq D.rs [r]=_;rw [hrs]
   show [eta s r]=_;rw [hes]
  rw [hfull,hr] at hct;obtain ⟨u,rest,e1,hu,hrest⟩:=hct;have hu:u=rv:=hrv _ _ _ _ hu;have hrest:rest=[]:=hrest;subst hu hrest e1;rw [show (qj D F).ty=[t] from hty] at hvs
  rcases hvs with ⟨_,h2⟩ | ⟨h1,_⟩
  ·cases h2
   exact ⟨rfl,⟨hH.os,hH.tape,hH.output.1,hH.size,fun b hb=>hH.frame b hb (fun h=>h)⟩,hH.output.2⟩
  ·exact (h1 rfl).elim
theorem iB {f:FuncId} {D:FnD} {F:Nat->List AV->Option (List AV)} (h:qU P E f (qj D F)) {n:Nat} {xs:List AV} (hF:F n xs=some [.bool true]) (hsl:xe D.ps 0 xs=xs) (hob:yp D.ps 0 xs=[]) (hob' : jZ D.ps 0 []=[]) (hfs:D.fs=[]) (hown:D.own=none) {t:TypeId} (hty:D.ty=[t]) {i:Nat} (hrs:D.rs=[(i,.val .bool)])
  (hgd:∀ g t,E.glob g=some t->∃ s,WT s t/\inF [] s=true) {args:Array Value} (hargs:∀ ok:Nat->Prop,(∀ b,b<W.heap.size->ok b)->CVt W ok (fun _=>none) xs args.toList) (hglob:∀ ok:Nat->Prop,(∀ b,b<W.heap.size->ok b)->ni W ok E.glob) :
  Calls P f args W fun e W'=>e=.returned (.bool true)/\Below W.heap.size W W':=
 (Zq h hF hsl hob hob' hfs hown hty hrs rfl (fun _ _ _ _ h=>h) hgd hargs hglob).mono fun _ _ h=>⟨h.1,h.2.toBelow⟩
end
end Go.Am
end
section
set_option linter.unusedVariables false
set_option linter.unusedSimpArgs false
namespace Go.Am
open Go.RowKit
theorem Rel.deferred {C:Ctx} {S:St} {θ:Nm->Option Value} {a:Act} {w:World} (h:Rel C S θ a w) (ds:List Deferred):Rel C S θ { a with defers:=ds } w:=
 ⟨h.len,h.slots,h.objs,h.fresh,h.sep,h.os,h.tape,h.output,h.size,h.frame,h.globs,h.base,h.pin⟩
def ka (id:Nat):Code->List (Array Oper × Bool)
 | .region i o d=>if Nat.beq i id then [(o,d)] else []
 | .seq a b=>ka id a++ka id b
 | .cond _ a b=>ka id a++ka id b
 | .block _ b=>ka id b
 | .loop b=>ka id b
 | .scope b=>ka id b
 | _=>[]
theorem pd {id:Nat} {ops:Array Oper} {draw:Bool}:∀ {c:Code},zl id ops draw c->(ops,draw)∈ka id c:=by
 intro c
 induction c with
 | region i o d=>
  rintro ⟨rfl,rfl,rfl⟩
  simp [ka]
 | seq a b iha ihb=>
  rintro (h | h)
  ·exact List.mem_append_left _ (iha h)
  ·exact List.mem_append_right _ (ihb h)
 | cond q a b iha ihb=>
  rintro (h | h)
  ·exact List.mem_append_left _ (iha h)
  ·exact List.mem_append_right _ (ihb h)
 | block q b ih=>exact fun h=>ih h
 | loop b ih=>exact fun h=>ih h
 | scope b ih=>exact fun h=>ih h
 | _=>exact fun h=>h.elim
theorem bv {P : Program} {f : FuncId} {fn : Func} {i : Nat} {q1 q2 : Oper} {X : Code} {d1 d2 : Tmp} {at1 : Array TypeId} (hf : P.funcs[f]? = some fn) (hb : fn.body = some (.seq (.region i #[q1, q2] false) (.cond (.tmp d2) X .skip))) (hn : fn.name ≠ "runtime.NumGoroutine") (hres : fn.results = #[])
  (g1:q1.guard=none) (p1:q1.op=.call { callee:=.builtin .recover,args:=#[],argTypes:=at1 }) (r1:q1.dst=some d1) (g2:q2.guard=none) (r2:q2.dst=some d2)
  (hd1:d1<fn.ntmps) (hd2:d2<fn.ntmps) (hx:∀ (a:Act) (w:World),a.eval (.tmp d1)=.nilIface->(execOp a.eval q2).run P w=.ok (.value (.bool false)) w) (us:Array Value):rg P { target:=.fn (.func f) us,args:=#[] }:=by
 refine ⟨.func f,us,f,#[]++us,rfl,fun w=>⟨vW hf (by rw [hb]; rfl) hn,callsD_of_wpS hf hb (fun c₀ cs hu=>?_)⟩⟩;refine wpS_seq (wpS_region ?_)
 show wpOpsS P #[q1,q2] _ [0,1] _ _ w;have hsz:fn.ntmps<=(#[]++us++Array.replicate (fn.ntmps - (#[]++us).size) undef).size:=by simp; omega
 generalize #[]++us++Array.replicate (fn.ntmps - (#[]++us).size) undef=tm at hsz;simp only [wpOpsS,show (#[q1,q2]:Array Oper)[0]? = some q1 from rfl,show (#[q1,q2]:Array Oper)[1]? = some q2 from rfl];rw [if_pos (by simp [Region.wanted,g1])]
 have hrun:∀ ρ,(execOp ρ q1).run P w=.ok .recover w:=fun ρ=>by
  simp [execOp,p1,resolve,invoke,builtin]
 rw [hrun];have hrec:recoverD (c₀::cs)=none:=by simp [recoverD,hu]
 simp only [hrec];rw [if_pos (by simp [Region.wanted,g2])];rw [r1,r2]
 have hev:(Act.put { tmps:=tm,defers:=[] } (some d1) .nilIface).eval (.tmp d1)=.nilIface:=by
  have:d1<tm.size:=Nat.lt_of_lt_of_le hd1 hsz;simp [Act.eval,Act.put,this]
 rw [hx _ w hev];simp only [Oper.upon_value]
 have hev2:(Act.put (Act.put { tmps:=tm,defers:=[] } (some d1) .nilIface) q2.dst (.bool false)).eval (.tmp d2)=.bool false:=by
  have:d2<tm.size:=Nat.lt_of_lt_of_le hd2 hsz;simp [Act.eval,Act.put,r2,this]
 have hdf:(Act.put (Act.put { tmps:=tm,defers:=[] } (some d1) .nilIface) q2.dst (.bool false)).defers=[]:=by
  rw [r2]; rfl
 generalize Act.put (Act.put { tmps:=tm,defers:=[] } (some d1) .nilIface) q2.dst (.bool false)=a2 at hev2 hdf
 show (Code.cond (.tmp d2) X .skip).wpS P _ a2 (c₀::cs) w;refine wpS_cond hev2 (wpS_of_wp (wp_skip ?_));refine ⟨hdf,.returning,by rw [<-hu],.tuple #[],?_,⟨_,rfl⟩,rfl,rfl⟩;simp [results,hres]
end Go.Am
end
