/-
  Calls of functions that are described.
-/
import Derived.Test.YtlmnjnhmhacgkaaGreatDoorAmC
section
set_option linter.unusedVariables false
set_option linter.unusedSimpArgs false
namespace Go.Am
open Go.RowKit
section
variable {C:Ctx} {S S' : St} {θ θ' : Nm->Option Value} {a:Act} {w w' : World} {n:Rp} {ok:Nat->Prop} {P:Program} {o:Oper} {ks vs:Sh}
theorem rN {t:TypeId} {x y:Operand} {u uy:AV} {two:Bool} (ho:o.op=.lookup t x y two) (h:Rel C S θ a w) (hu:CV w (qx C w S θ) θ u (a.eval x)) (hy:CV w (qx C w S θ) θ uy (a.eval y))
  (hh:(rS P C.E o t u uy two).exe n S=some S'):Does P C S' o a w:=(qw hh).elim
theorem dq {t:TypeId} {x y z:Operand} {u uy uz:AV} (ho:o.op=.mapUpdate t x y z) (hd:o.dst=none) (h:Rel C S θ a w) (hu:CV w (qx C w S θ) θ u (a.eval x)) (hy:CV w (qx C w S θ) θ uy (a.eval y)) (hz:CV w (qx C w S θ) θ uz (a.eval z))
  (hh:(pI P C.E o t u uy uz).exe n S=some S'):Does P C S' o a w:=(qw hh).elim
theorem dA {t:TypeId} {x y:Operand} {u uy:AV} (ho:o.op=.mapEntry t x y) (h:Rel C S θ a w) (hu:CV w (qx C w S θ) θ u (a.eval x)) (hy:CV w (qx C w S θ) θ uy (a.eval y))
  (hh:(cQ P C.E o t u uy).exe n S=some S'):Does P C S' o a w:=(qw hh).elim
theorem uV {t:TypeId} {x y z:Operand} {u uy uz:AV} (ho:o.op=.entryStore t x y z) (hd:o.dst=none) (h:Rel C S θ a w) (hu:CV w (qx C w S θ) θ u (a.eval x)) (hy:CV w (qx C w S θ) θ uy (a.eval y)) (hz:CV w (qx C w S θ) θ uz (a.eval z))
  (hh:(mi P C.E o t u uy uz).exe n S=some S'):Does P C S' o a w:=(qw hh).elim
theorem lK {t:TypeId} {ts:List TypeId} {x y:Operand} {ats:Array TypeId} {u uy:AV} (ho:o.op=.call { callee:=.builtin .delete,args:=#[x,y],argTypes:=ats }) (hts:ats.toList=t::ts) (h:Rel C S θ a w) (hu:CV w (qx C w S θ) θ u (a.eval x)) (hy:CV w (qx C w S θ) θ uy (a.eval y))
  (hh:(rF P C.E o t u uy).exe n S=some S'):Does P C S' o a w:=(qw hh).elim
theorem nb {t:TypeId} (ho:o.op=.makeMap t none) (h:Rel C S θ a w) (hh:(bf P C.E o t).exe n S=some S'):Does P C S' o a w:=(qw hh).elim
theorem sL {t:TypeId} {x:Operand} {u:AV} (ho:o.op=.range t x) (h:Rel C S θ a w) (hu:CV w (qx C w S θ) θ u (a.eval x)) (hh:(eF P C.E o t u).exe n S=some S'):Does P C S' o a w:=(qw hh).elim
theorem lA {x:Operand} {u:AV} (ho:o.op=.entry x) (h:Rel C S θ a w) (hu:CV w (qx C w S θ) θ u (a.eval x)) (hh:(eA o u).exe n S=some S'):Does P C S' o a w:=(qw hh).elim
theorem lu {t:TypeId} {x:Operand} {u:AV} (ho:o.op=.call { callee:=.builtin .len,args:=#[x],argTypes:=#[t] }) (h:Rel C S θ a w) (hu:CV w (qx C w S θ) θ u (a.eval x)) (hh:(rm P C.E o t u).exe n S=some S'):Does P C S' o a w:=(qw hh).elim
theorem aW {x:Operand} {u:AV} {N:Nat} (ho:o.op=.next x false) (h:Rel C S θ a w) (hu:CV w (qx C w S θ) θ u (a.eval x)):∃ c,∀ S',(si o u).exe ⟨N,c⟩ S=some S'->Does P C S' o a w:=⟨0,fun S' hh=>(qw hh).elim⟩
theorem Qc {fn:Fn} {first caps:Array Operand} {us uc:List AV} (ho:o.op=.makeFunc fn first caps) (h:Rel C S θ a w) (hu:CVt w (qx C w S θ) θ us (first.toList.map a.eval)) (hc:CVt w (qx C w S θ) θ uc (caps.toList.map a.eval))
  (hh:(Zg o fn us uc).exe n S=some S'):Does P C S' o a w:=by
 unfold Zg at hh
 split at hh <;> first | exact (qw hh).elim | skip
 rename_i f
 have hf:first.map a.eval = #[]:=by
  have hu:first.toList.map a.eval=[]:=hu
  apply Array.ext';simpa using hu
 refine Does.value (v:=.func (.func f) #[] (caps.map a.eval)) ?_ (qu hh h ⟨_,rfl,by simpa using hc⟩);simp only [execOp,ho,Instr.makeFunc,hf,Sem.run_bind,Sem.run_pure,Result.andThen_ok]
end
end Go.Am
end
section
set_option linter.unusedVariables false
set_option linter.unusedSimpArgs false
namespace Go.Am
open Go.RowKit
def yp:List Pk->Nat->List AV->List (Nat × Ob)
 | [],_,_=>[]
 | .io s::ps,j,x::as=>(par j,.box (eta s x))::yp ps (j+1) as
 | _::ps,j,_::as=>yp ps (j+1) as
 | _::_,_,[]=>[]
def xe:List Pk->Nat->List AV->List AV
 | [],_,_=>[]
 | .val _::ps,j,x::as=>x::xe ps (j+1) as
 | .io _::ps,j,_::as=>.ref (.top (par j)) 0::xe ps (j+1) as
 | .fn f::ps,j,_::as=>.fn f::xe ps (j+1) as
 | _::_,_,[]=>[]
def vj:List zZ->List AV->List (Nat × Fam)
 | D::r,x::xs=>(D.f,⟨D.e,D.s,D.ks,x.qz⟩)::vj r xs
 | _,_=>[]
def jZ:List Pk->Nat->List AV->List (Nat × Ob)
 | [],_,_=>[]
 | .io s::ps,j,x::xs=>(par j,.box (eta s x))::jZ ps (j+1) xs
 | .io _::_,_,[]=>[]
 | _::ps,j,xs=>jZ ps (j+1) xs
def Cal.hp (c:Cal) (as:List AV):St:=⟨[],yp c.ps 0 as,vj c.fs (as.drop c.ps.length)⟩
def Cal.hq (c:Cal) (r:List AV):St:=⟨[],jZ c.ps 0 (r.drop c.ty.length),vj c.fs (r.drop (c.ty.length+jv c.ps))⟩
def Cal.full (c:Cal) (as r:List AV):List AV:=r++Ku c.ro (as.drop c.ps.length)
structure sF (C:Ctx) (ok:Nat->Prop) (S:St) (θ:Nm->Option Value) (w:World):Prop where
 objs:∀ d o,S.has d->S.obj d=some o->OV C w ok θ d o
 fresh:∀ d,¬ S.has d->θ d=none
 sep:∀ d d' o o' v v' b,S.obj d=some o->S.obj d' = some o'->o.isOwn=true->o'.isOwn=true->d≠d'->θ d=some v->θ d' = some v'->blk v=some b->blk v'≠some b
 os:w.os=C.w0.os
 tape:w.tape=C.w0.tape
 output:Out C.w0 w
 size:C.w0.heap.size<=w.heap.size
 frame:∀ b,b<C.B->¬ C.I b->w.heap[b]? = C.w0.heap[b]?
 base:∀ d v,θ d=some v->vi v
def okR (C:Ctx) (w' : World) (S1:St) (θ1:Nm->Option Value) (esc:Bool) (u:Option Nat) (b:Nat):Prop:=b<w'.heap.size/\¬ C.F b/\¬ jm S1 θ1 b/\some b≠u/\(esc=false->C.w0.heap.size<=b)
def Qa (P:Program) (C:Ctx) (w' : World) (ok:Nat->Prop) (S1:St) (θ1:Nm->Option Value) (t:TypeId) (a:AV) (u:Value):Prop:=
 vi u/\(∃ A n c,u=.slice A n c)/\(∀ b,blk u=some b->¬ jm S1 θ1 b/\¬ C.F b)/\∃ e,yd P t=some e/\
  ((∃ k xs,a=.fs k xs/\OwnRow w' (fun g=>C.w0.heap.size<=g) e 1 u xs.length (qr k xs))\/
   (∃ s xs cs,a=.fv s xs/\(∀ x∈xs,WT s x)/\CVs w' ok θ1 xs cs/\OwnRow w' (fun g=>C.w0.heap.size<=g) e s.width u xs.length cs))
def gr (fs:List zZ) (a:AV):Prop:=∃ s,WT s a/\inF fs s=true
def Ko (P:Program) (C:Ctx) (fs:List zZ) (w' : World) (S1:St) (θ1:Nm->Option Value) (esc:Bool) (ty:List TypeId) (own:Option Nat) (as:List AV) (v:Value):Prop:=
 as.length=ty.length/\∃ vs:List Value,((ty.length=1/\vs=[v])\/(ty.length≠1/\v=.tuple vs.toArray))/\
  match own with
  | none=>sF C (okR C w' S1 θ1 esc none) S1 θ1 w'/\CVt w' (okR C w' S1 θ1 esc none) θ1 as vs/\∀ a∈as,gr fs a
  | some j=>∃ a u t,as[j]? = some a/\vs[j]? = some u/\ty[j]? = some t/\gr fs a/\sF C (okR C w' S1 θ1 esc (blk u)) S1 θ1 w'/\Qa P C w' (okR C w' S1 θ1 esc (blk u)) S1 θ1 t a u/\
    CVt w' (okR C w' S1 θ1 esc (blk u)) θ1 (as.set j .undef) vs/\∀ i b,i≠j->as[i]? = some b->gr fs b
def ni (w:World) (ok:Nat->Prop) (G:Nat->Option AV):Prop:=∀ g t,G g=some t->CV w ok (fun _=>none) (.fp t) (.pointer (some ⟨g,0,none⟩))
mutual
def vT:Sh->Bool
 | .int _=>true
 | .bool=>true
 | .str=>true
 | .arr _ _=>true
 | .agg l=>nN l
 | .fs _=>false
 | .nl _=>false
 | .fv _=>false
 | .pt _=>true
 | .mp _=>true
def nN:List Sh->Bool
 | []=>true
 | s::l=>vT s && nN l
end
def Pk.flat:Pk->Bool
 | .io s=>vT s
 | _=>true
def eY (D:zZ):Bool:=vT D.s && (match D.ks with | some ks=>vT ks | none=>true)
def mj (ps:List Pk) (fs:List zZ):Bool:=ps.all Pk.flat && fs.all eY
def cf (P:Program) (E:Env) (f:FuncId) (c:Cal) (e:TypeId) (k:IntKind):Prop:=
 (∃ fn, P.funcs[f]? = some fn /\ fn.body.isSome = true /\ fn.name ≠ "runtime.NumGoroutine") /\
 ∀ (n:Nat) (xs:List Int) (r q:List AV),c.F n (.fs k xs::r)=some q->r.all WH=true->∀ (C:Ctx) (S:St) (θ:Nm->Option Value) (a:Act) (w:World) (v:Value) (us:List Value),C.E=E->Rel C S θ a w->
  OwnRow w (fun b=>blk v=some b) e 1 v xs.length (qr k xs)->vi v->(∃ A n c,v=.slice A n c)->(∀ b,blk v=some b->¬ qx C w S θ b)->CVt w (qx C w S θ) θ r us->
  Calls P f (v::us).toArray w fun ed w'=>∃ v' ys,ed=.returned v'/\q=[.fs k ys]/\OwnRow w' (fun b=>blk v=some b\/w.heap.size<=b) e 1 v' ys.length (qr k ys)/\(∃ A n c,v' = .slice A n c)/\Wz v v' w w'
def pp (P:Program) (E:Env) (f:FuncId) (c:Cal):Prop:=
 (∃ fn, P.funcs[f]? = some fn /\ fn.body.isSome = true /\ fn.name ≠ "runtime.NumGoroutine") /\ (c.esc = true \/ mj c.ps c.fs = true) /\
 ∀ (n:Nat) (as r:List AV),c.F n as=some r->∀ (C:Ctx) (args:Array Value) (θ0:Nm->Option Value),C.E=E->(∀ b,C.I b↔jm (c.hp as) θ0 b)->
  sF C (qx C C.w0 (c.hp as) θ0) (c.hp as) θ0 C.w0->CVt C.w0 (qx C C.w0 (c.hp as) θ0) θ0 (xe c.ps 0 as) args.toList->ni C.w0 (qx C C.w0 (c.hp as) θ0) E.glob->
  Calls P f args C.w0 fun e w'=>∃ v θ1,e=.returned v/\(∀ d x,θ0 d=some x->θ1 d=some x)/\Ko P C c.fs w' (c.hq (c.full as r)) θ1 c.esc c.ty c.own (c.res (c.full as r)) v
def qU (P:Program) (E:Env) (f:FuncId) (c:Cal):Prop:=match c.row with
 | none=>pp P E f c
 | some ek=>cf P E f c ek.1 ek.2
section
variable {C:Ctx} {S S' : St} {θ θ' : Nm->Option Value} {a:Act} {w w' : World} {n:Rp} {ok ok' : Nat->Prop} {P:Program} {o:Oper} {fs:List zZ}
def jV (fs:List zZ) (θ θ' : Nm->Option Value):Prop:=∀ D∈fs,∀ i x,θ (.mem D.f i)=some x->θ' (.mem D.f i)=some x
theorem gR {f:Nat} (h:(fs.any fun D=>Nat.beq f D.f)=true):∃ D∈fs,D.f=f:=by
 rw [List.any_eq_true] at h;obtain ⟨D,h1,h2⟩:=h;exact ⟨D,h1,(Nat.eq_of_beq_eq_true h2).symm⟩
mutual
theorem ja (hθ:jV fs θ θ') (hok:∀ b,ok b->ok' b):∀ (s:Sh) (x:AV) (v:Value),WT s x->inF fs s=true->CV w ok θ x v->CV w ok' θ' x v
 | .int k,x,v,hw,_,h=>by obtain ⟨_,rfl⟩:=hw; exact h
 | .bool,x,v,hw,_,h=>by obtain ⟨_,rfl⟩:=hw; exact h
 | .str,x,v,hw,_,h=>by obtain ⟨_,rfl⟩:=hw; exact h
 | .arr k n,x,v,hw,_,h=>by obtain ⟨_,rfl⟩:=hw; exact h
 | .agg l,x,v,hw,hi,h=>by
  obtain ⟨cs,rfl,hc⟩:=hw;obtain ⟨vs,rfl,h1⟩:=h;exact ⟨vs,rfl,oT hθ hok l cs _ hc hi h1⟩
 | .nl k,x,v,hw,_,h=>by
  rcases hw with rfl | ⟨xs,rfl⟩
  ·exact h
  ·obtain ⟨A,c,e,hc,hr⟩:=h;exact ⟨A,c,e,hc,fun h0=>by obtain ⟨ad,h1,h2,h3⟩:=hr h0; exact ⟨ad,h1,hok _ h2,h3⟩⟩
 | .fs k,x,v,hw,_,h=>by
  obtain ⟨xs,rfl⟩:=hw;obtain ⟨A,c,e,hc,hr⟩:=h;exact ⟨A,c,e,hc,fun h0=>by obtain ⟨ad,h1,h2,h3⟩:=hr h0; exact ⟨ad,h1,hok _ h2,h3⟩⟩
 | .fv s,x,v,hw,hi,h=>by
  obtain ⟨xs,rfl⟩:=hw;obtain ⟨A,c,cs,e,hc,hx,hcs,hr⟩:=h;have hi:inF fs s=true:=hi;refine ⟨A,c,cs,e,hc,hx,?_,fun h0=>by obtain ⟨ad,h1,h2,h3⟩:=hr h0; exact ⟨ad,h1,hok _ h2,h3⟩⟩
  have:∀ (xs:List AV) (cs:List Value),(∀ x∈xs,WT s x)->CVs w ok θ xs cs->CVs w ok' θ' xs cs:=by
   intro xs
   induction xs with
   | nil=>intro cs _ h; exact h
   | cons x xs ih=>
    intro cs hw h;obtain ⟨v,rest,rfl,hs,h1,h2⟩:=h;exact ⟨v,rest,rfl,hs,ja hθ hok s x v (hw x (by simp)) hi h1,ih rest (fun y hy=>hw y (by simp [hy])) h2⟩
  exact this xs cs hx hcs
 | .pt f,x,v,hw,hi,h=>by
  obtain ⟨q,rfl⟩:=hw;obtain ⟨D,hD,rfl⟩:=gR hi
  cases q with
  | none=>exact h
  | some i=>exact ⟨hθ D hD i v h.1,h.2⟩
 | .mp f,x,v,hw,hi,h=>by
  obtain ⟨q,rfl⟩:=hw;obtain ⟨D,hD,rfl⟩:=gR hi
  cases q with
  | none=>exact h
  | some i=>exact ⟨hθ D hD i v h.1,h.2⟩
theorem oT (hθ:jV fs θ θ') (hok:∀ b,ok b->ok' b):∀ (l:List Sh) (cs:List AV) (vs:List Value),WTs l cs->ur fs l=true->CVs w ok θ cs vs->CVs w ok' θ' cs vs
 | [],cs,vs,hw,_,h=>by simp only [WTs] at hw; subst hw; exact h
 | s::l,cs,vs,hw,hi,h=>by
  obtain ⟨c,r,rfl,h1,h2⟩:=hw;have hi:(inF fs s && ur fs l)=true:=hi;rw [Bool.and_eq_true] at hi;obtain ⟨v,rest,rfl,hs,k1,k2⟩:=h;exact ⟨v,rest,rfl,hs,ja hθ hok s c v h1 hi.1 k1,oT hθ hok l r rest h2 hi.2 k2⟩
end
theorem fe {s:Sh} (hθ:jV fs θ θ') (hok:∀ b,ok b->ok' b) (hi:inF fs s=true):∀ {xs:List AV} {cs:List Value},(∀ x∈xs,WT s x)->CVs w ok θ xs cs->CVs w ok' θ' xs cs
 | [],cs,_,h=>h
 | x::xs,cs,hw,h=>by
  obtain ⟨v,rest,rfl,hs,h1,h2⟩:=h;exact ⟨v,rest,rfl,hs,ja hθ hok s x v (hw x (by simp)) hi h1,fe hθ hok hi (fun y hy=>hw y (by simp [hy])) h2⟩
mutual
theorem ik (hθ:jV fs θ θ'):∀ (s:Sh) (x:AV) (v:Value),WT s x->inF fs s=true->vT s=true->CV w ok θ x v->CV w' ok' θ' x v
 | .int k,x,v,hw,_,hf,h=>by obtain ⟨_,rfl⟩:=hw; exact h
 | .bool,x,v,hw,_,hf,h=>by obtain ⟨_,rfl⟩:=hw; exact h
 | .str,x,v,hw,_,hf,h=>by obtain ⟨_,rfl⟩:=hw; exact h
 | .arr k n,x,v,hw,_,hf,h=>by obtain ⟨_,rfl⟩:=hw; exact h
 | .agg l,x,v,hw,hi,hf,h=>by
  obtain ⟨cs,rfl,hc⟩:=hw;obtain ⟨vs,rfl,h1⟩:=h;exact ⟨vs,rfl,rI hθ l cs _ hc hi hf h1⟩
 | .fs k,x,v,hw,_,hf,h=>by cases (show false=true from hf)
 | .nl k,x,v,hw,_,hf,h=>by cases (show false=true from hf)
 | .fv s,x,v,hw,_,hf,h=>by cases (show false=true from hf)
 | .pt f,x,v,hw,hi,_,h=>by
  obtain ⟨q,rfl⟩:=hw;obtain ⟨D,hD,rfl⟩:=gR hi
  cases q with
  | none=>exact h
  | some i=>exact ⟨hθ D hD i v h.1,h.2⟩
 | .mp f,x,v,hw,hi,_,h=>by
  obtain ⟨q,rfl⟩:=hw;obtain ⟨D,hD,rfl⟩:=gR hi
  cases q with
  | none=>exact h
  | some i=>exact ⟨hθ D hD i v h.1,h.2⟩
theorem rI (hθ:jV fs θ θ'):∀ (l:List Sh) (cs:List AV) (vs:List Value),WTs l cs->ur fs l=true->nN l=true->CVs w ok θ cs vs->CVs w' ok' θ' cs vs
 | [],cs,vs,hw,_,hf,h=>by simp only [WTs] at hw; subst hw; exact h
 | s::l,cs,vs,hw,hi,hf,h=>by
  obtain ⟨c,r,rfl,h1,h2⟩:=hw;have hf:(vT s && nN l)=true:=hf;have hi:(inF fs s && ur fs l)=true:=hi;rw [Bool.and_eq_true] at hf hi;obtain ⟨v,rest,rfl,hs,k1,k2⟩:=h;exact ⟨v,rest,rfl,hs,ik hθ s c v h1 hi.1 hf.1 k1,rI hθ l r rest h2 hi.2 hf.2 k2⟩
end
theorem jD {e:Nat} {o:Ob}:∀ {ps:List Pk} {j:Nat} {as:List AV},kp (yp ps j as) e=some o->∃ k s x,ps[k]? = some (.io s)/\as[k]? = some x/\e=par (j+k)/\o=.box (eta s x)
 | [],j,as,h=>by cases h
 | p::ps,j,[],h=>by cases p <;> cases h
 | .val s::ps,j,x::as,h=>by
  obtain ⟨k,s,x,h1,h2,h3,h4⟩:=jD (ps:=ps) (as:=as) h;exact ⟨k+1,s,x,h1,h2,by rw [h3]; congr 1; omega,h4⟩
 | .fn f::ps,j,x::as,h=>by
  obtain ⟨k,s,x,h1,h2,h3,h4⟩:=jD (ps:=ps) (as:=as) h;exact ⟨k+1,s,x,h1,h2,by rw [h3]; congr 1; omega,h4⟩
 | .io s::ps,j,x::as,h=>by
  simp only [yp,kp] at h
  split at h
  ·rename_i hb
   cases h
   exact ⟨0,s,x,rfl,rfl,by simpa using hb,rfl⟩
  ·obtain ⟨k,s,x,h1,h2,h3,h4⟩:=jD (ps:=ps) (as:=as) h;exact ⟨k+1,s,x,h1,h2,by rw [h3]; congr 1; omega,h4⟩
theorem uP {i j:Nat} (h:par i=par j):i=j:=by unfold par at h; omega
theorem sM {k:Nat} {s:Sh} {x:AV}:∀ {ps:List Pk} {j:Nat} {as:List AV},ps[k]? = some (.io s)->as[k]? = some x->kp (yp ps j as) (par (j+k))=some (.box (eta s x)):=by
 induction k with
 | zero=>
  intro ps j as h1 h2
  cases ps with
  | nil=>simp at h1
  | cons p ps=>
   cases as with
   | nil=>simp at h2
   | cons y as=>
    cases h1
    cases h2
    simp [yp,kp]
 | succ k ih=>
  intro ps j as h1 h2
  cases ps with
  | nil=>simp at h1
  | cons p ps=>
   cases as with
   | nil=>simp at h2
   | cons y as=>
    have:=ih (ps:=ps) (j:=j+1) (as:=as) (by simpa using h1) (by simpa using h2);rw [show j+1+k=j+(k+1) by omega] at this
    cases p with
    | val=>exact this
    | fn=>exact this
    | io s'=>
     simp only [yp,kp]
     have hne:Nat.beq (par (j+(k+1))) (par j)=false:=by
      cases hb:Nat.beq (par (j+(k+1))) (par j) with
      | false=>rfl
      | true=>have:=uP (Nat.eq_of_beq_eq_true hb); omega
     rw [hne];exact this
def zh:List Pk->Nat->Option (Nat × Sh)
 | [],_=>none
 | .io s::ps,0=>some (0,s)
 | .io _::ps,q+1=>(zh ps q).map fun p=>(p.1+1,p.2)
 | _::ps,q=>(zh ps q).map fun p=>(p.1+1,p.2)
theorem kR:∀ {ps:List Pk} {q k:Nat} {s:Sh},zh ps q=some (k,s)->ps[k]? = some (.io s)
 | [],q,k,s,h=>by cases h
 | .io s'::ps,0,k,s,h=>by cases h; rfl
 | .io s'::ps,q+1,k,s,h=>by
  simp only [zh,Option.map_eq_some_iff] at h;obtain ⟨⟨k',s'⟩,h1,h2⟩:=h
  cases h2
  simpa using kR h1
 | .val s'::ps,q,k,s,h=>by
  simp only [zh,Option.map_eq_some_iff] at h;obtain ⟨⟨k',s'⟩,h1,h2⟩:=h
  cases h2
  simpa using kR h1
 | .fn s'::ps,q,k,s,h=>by
  simp only [zh,Option.map_eq_some_iff] at h;obtain ⟨⟨k',s'⟩,h1,h2⟩:=h
  cases h2
  simpa using kR h1
theorem uF:∀ {ps:List Pk} {k:Nat} {s:Sh},ps[k]? = some (.io s)->∃ q,q<jv ps/\zh ps q=some (k,s)
 | [],k,s,h=>by simp at h
 | p::ps,0,s,h=>by cases h; exact ⟨0,by simp [jv],rfl⟩
 | p::ps,k+1,s,h=>by
  obtain ⟨q,h1,h2⟩:=uF (ps:=ps) (k:=k) (s:=s) (by simpa using h)
  cases p with
  | io s'=>exact ⟨q+1,by simp [jv]; omega,by simp [zh,h2]⟩
  | val s'=>exact ⟨q,by simpa [jv] using h1,by simp [zh,h2]⟩
  | fn f=>exact ⟨q,by simpa [jv] using h1,by simp [zh,h2]⟩
theorem gl:∀ {ps:List Pk} {q q' k:Nat} {s s' : Sh},zh ps q=some (k,s)->zh ps q' = some (k,s')->q=q'
 | [],q,q',k,s,s',h,_=>by cases h
 | .io t::ps,0,0,k,s,s',h,h'=>rfl
 | .io t::ps,0,q' + 1,k,s,s',h,h'=>by
  simp only [zh,Option.map_eq_some_iff,Option.some.injEq,Prod.mk.injEq] at h h';obtain ⟨p,_,h3,_⟩:=h';omega
 | .io t::ps,q+1,0,k,s,s',h,h'=>by
  simp only [zh,Option.map_eq_some_iff,Option.some.injEq,Prod.mk.injEq] at h h';obtain ⟨p,_,h3,_⟩:=h;omega
 | .io t::ps,q+1,q' + 1,k,s,s',h,h'=>by
  simp only [zh,Option.map_eq_some_iff] at h h';obtain ⟨⟨k1,s1⟩,h1,h2⟩:=h;obtain ⟨⟨k2,s2⟩,h3,h4⟩:=h'
  cases h2
  simp only [Prod.mk.injEq] at h4;have:k2=k1:=by omega
  subst this;rw [gl h1 h3]
 | .val t::ps,q,q',k,s,s',h,h'=>by
  simp only [zh,Option.map_eq_some_iff] at h h';obtain ⟨⟨k1,s1⟩,h1,h2⟩:=h;obtain ⟨⟨k2,s2⟩,h3,h4⟩:=h'
  cases h2
  simp only [Prod.mk.injEq] at h4;have:k2=k1:=by omega
  subst this;exact gl h1 h3
 | .fn t::ps,q,q',k,s,s',h,h'=>by
  simp only [zh,Option.map_eq_some_iff] at h h';obtain ⟨⟨k1,s1⟩,h1,h2⟩:=h;obtain ⟨⟨k2,s2⟩,h3,h4⟩:=h'
  cases h2
  simp only [Prod.mk.injEq] at h4;have:k2=k1:=by omega
  subst this;exact gl h1 h3
theorem yN {e:Nat} {o:Ob}:∀ {ps:List Pk} {j:Nat} {xs:List AV},kp (jZ ps j xs) e=some o->∃ q k s x,zh ps q=some (k,s)/\xs[q]? = some x/\e=par (j+k)/\o=.box (eta s x)
 | [],j,xs,h=>by cases h
 | .io s::ps,j,[],h=>by cases h
 | .io s::ps,j,x::xs,h=>by
  simp only [jZ,kp] at h
  split at h
  ·rename_i hb
   cases h
   exact ⟨0,0,s,x,rfl,rfl,by simpa using hb,rfl⟩
  ·obtain ⟨q,k,s',x',h1,h2,h3,h4⟩:=yN (ps:=ps) (xs:=xs) h;exact ⟨q+1,k+1,s',x',by simp [zh,h1],by simpa using h2,by rw [h3]; congr 1; omega,h4⟩
 | .val s::ps,j,xs,h=>by
  have h:kp (jZ ps (j+1) xs) e=some o:=by simpa [jZ] using h
  obtain ⟨q,k,s',x',h1,h2,h3,h4⟩:=yN (ps:=ps) (xs:=xs) h;exact ⟨q,k+1,s',x',by simp [zh,h1],h2,by rw [h3]; congr 1; omega,h4⟩
 | .fn s::ps,j,xs,h=>by
  have h:kp (jZ ps (j+1) xs) e=some o:=by simpa [jZ] using h
  obtain ⟨q,k,s',x',h1,h2,h3,h4⟩:=yN (ps:=ps) (xs:=xs) h;exact ⟨q,k+1,s',x',by simp [zh,h1],h2,by rw [h3]; congr 1; omega,h4⟩
theorem kL:∀ {ps:List Pk} {j q k:Nat} {s:Sh} {x:AV} {xs:List AV},zh ps q=some (k,s)->xs[q]? = some x->kp (jZ ps j xs) (par (j+k))=some (.box (eta s x))
 | [],j,q,k,s,x,xs,h,_=>by cases h
 | .io t::ps,j,0,k,s,x,xs,h,hx=>by
  cases h
  cases xs with
  | nil=>simp at hx
  | cons y xs=>cases hx; simp [jZ,kp]
 | .io t::ps,j,q+1,k,s,x,xs,h,hx=>by
  simp only [zh,Option.map_eq_some_iff] at h;obtain ⟨⟨k1,s1⟩,h1,h2⟩:=h
  cases h2
  cases xs with
  | nil=>simp at hx
  | cons y xs=>
   have:=kL (j:=j+1) h1 (by simpa using hx);simp only [jZ,kp]
   have hne:Nat.beq (par (j+(k1+1))) (par j)=false:=by
    cases hb:Nat.beq (par (j+(k1+1))) (par j) with
    | false=>rfl
    | true=>have:=uP (Nat.eq_of_beq_eq_true hb); omega
   rw [hne];rw [show j+1+k1=j+(k1+1) by omega] at this;exact this
 | .val t::ps,j,q,k,s,x,xs,h,hx=>by
  simp only [zh,Option.map_eq_some_iff] at h;obtain ⟨⟨k1,s1⟩,h1,h2⟩:=h
  cases h2
  have:=kL (j:=j+1) h1 hx;rw [show j+1+k1=j+(k1+1) by omega] at this;simpa [jZ] using this
 | .fn t::ps,j,q,k,s,x,xs,h,hx=>by
  simp only [zh,Option.map_eq_some_iff] at h;obtain ⟨⟨k1,s1⟩,h1,h2⟩:=h
  cases h2
  have:=kL (j:=j+1) h1 hx;rw [show j+1+k1=j+(k1+1) by omega] at this;simpa [jZ] using this
theorem kB {f:Nat} {F:Fam}:∀ {fs:List zZ} {xs:List AV},zu (vj fs xs) f=some F->∃ (k:Nat) (D:zZ) (x:AV),fs[k]? = some D/\xs[k]? = some x/\D.f=f/\F=⟨D.e,D.s,D.ks,x.qz⟩
 | [],xs,h=>by cases h
 | D::r,[],h=>by cases h
 | D::r,x::xs,h=>by
  simp only [vj,zu] at h
  split at h
  ·rename_i hb
   cases h
   exact ⟨0,D,x,rfl,rfl,(Nat.eq_of_beq_eq_true hb).symm,rfl⟩
  ·obtain ⟨k,D',x',h1,h2,h3⟩:=kB h;exact ⟨k+1,D',x',by simpa using h1,by simpa using h2,h3⟩
theorem kS:∀ {fs:List zZ} {xs:List AV} {k:Nat} {D:zZ} {x:AV},xm fs=true->fs[k]? = some D->xs[k]? = some x->zu (vj fs xs) D.f=some ⟨D.e,D.s,D.ks,x.qz⟩
 | [],xs,k,D,x,_,h,_=>by simp at h
 | D'::r,[],k,D,x,_,_,h=>by simp at h
 | D'::r,y::xs,0,D,x,_,h1,h2=>by
  cases h1
  cases h2
  simp [vj,zu]
 | D'::r,y::xs,k+1,D,x,hn,h1,h2=>by
  simp only [xm,Bool.and_eq_true,Bool.not_eq_true'] at hn;have ih:=kS (xs:=xs) hn.2 (by simpa using h1) (by simpa using h2);simp only [vj,zu]
  have hne:Nat.beq D.f D'.f=false:=by
   cases hb:Nat.beq D.f D'.f with
   | false=>rfl
   | true=>
    have hmem:D∈r:=List.mem_of_getElem? (by simpa using h1);have:=List.any_eq_false.1 hn.1 D hmem;rw [Nat.eq_of_beq_eq_true hb] at this;simp at this
  rw [hne];exact ih
end
end Go.Am
end
section
set_option linter.unusedVariables false
set_option linter.unusedSimpArgs false
namespace Go.Am
open Go.RowKit
section
variable {C:Ctx} {S S' : St} {θ θ' : Nm->Option Value} {a:Act} {w w' : World} {n:Rp} {ok ok' : Nat->Prop} {P:Program} {o:Oper} {fs:List zZ}
def hZ (C:Ctx) (S:St) (θ:Nm->Option Value) (w:World) (l:List Nm):List Pk->List Value->List AV->List Nat->Prop
 | [],[],[],[]=>True
 | .val s::ps,v::vs,x::xs,is=>WT s x/\CV w (okX C w S θ l) θ x v/\hZ C S θ w l ps vs xs is
 | .io s::ps,v::vs,x::xs,d::is=>(∃ t,S.obj (.top d)=some (.box t)/\x=nrm s t/\WT s x)/\θ (.top d)=some v/\(∃ g,v=.pointer (some ⟨g,0,none⟩))/\d ∉ is/\hZ C S θ w l ps vs xs is
 | .fn f::ps,v::vs,_::xs,is=>v=.func (.func f) #[] #[]/\hZ C S θ w l ps vs xs is
 | _,_,_,_=>False
theorem gJ {l l' : List Nm} (hl:∀ d∈l,d∈l'):∀ {ps:List Pk} {vs:List Value} {xs:List AV} {is:List Nat},hZ C S θ w l ps vs xs is->hZ C S θ w l' ps vs xs is
 | [],[],[],[],h=>trivial
 | .val s::ps,v::vs,x::xs,is,h=>⟨h.1,qE (ww fun b hb=>kE hl hb) _ _ h.2.1,gJ hl h.2.2⟩
 | .io s::ps,v::vs,x::xs,d::is,h=>⟨h.1,h.2.1,h.2.2.1,h.2.2.2.1,gJ hl h.2.2.2.2⟩
 | .fn f::ps,v::vs,_::xs,is,h=>⟨h.1,gJ hl h.2⟩
theorem zp {l:List Nat} {d:Nat}:zS l d=false->d ∉ l:=by
 induction l with
 | nil=>simp
 | cons x r ih=>
  intro h;simp only [zS] at h
  split at h
  ·cases h
  ·rename_i hx;have:d≠x:=fun e=>by subst e; simp at hx
   simp only [List.mem_cons,this,false_or];exact ih h
theorem gG (h:Rel C S θ a w):∀ (ps:List Pk) (us:List AV) (vs:List Value) (K:List AV->List Nm->List Nat->Pg),CVt w (qx C w S θ) θ us vs->(gk ps us K).exe n S=some S'->
  ∃ as' l is,(K as' l is).exe n S=some S'/\hZ C S θ w l ps vs as' is
 | [],[],vs,K,hv,hh=>by
  have hv:vs=[]:=hv;subst hv;exact ⟨[],[],[],hh,trivial⟩
 | .val s::ps,[],vs,K,hv,hh=>(qw hh).elim
 | .io s::ps,[],vs,K,hv,hh=>(qw hh).elim
 | .fn s::ps,[],vs,K,hv,hh=>(qw hh).elim
 | [],_::_,vs,K,hv,hh=>(qw hh).elim
 | .val s::ps,u::us,vs,K,hv,hh=>by
  obtain ⟨v,rest,rfl,h1,h2⟩:=hv;simp only [gk] at hh;obtain ⟨u',l,hk,hw,hcv⟩:=xw h 9 s _ v _ (kF s u v h1) hh;obtain ⟨as',l',is,hk',hr⟩:=gG h ps us rest _ h2 hk;exact ⟨u'::as',l++l',is,hk',hw,qE (ww fun b hb=>kE (fun d hd=>List.mem_append_left _ hd) hb) _ _ hcv,gJ (fun d hd=>List.mem_append_right _ hd) hr⟩
 | .io s::ps,u::us,vs,K,hv,hh=>by
  obtain ⟨v,rest,rfl,h1,h2⟩:=hv;simp only [gk] at hh
  split at hh <;> first | exact (qw hh).elim | skip
  rename_i d off;obtain ⟨ho,hh1⟩:=qy hh;have ho:=Nat.eq_of_beq_eq_true ho;subst ho;have hh2:=qN hh1
  split at hh2 <;> first | exact (qw hh2).elim | skip
  rename_i t hob;obtain ⟨hf,hh3⟩:=qy hh2;obtain ⟨as',l',is,hk',hr⟩:=gG h ps us rest _ h2 hh3;obtain ⟨hn,hk''⟩:=qy hk';obtain ⟨g,hd,rfl⟩:=h1;simp only [Bool.not_eq_true'] at hn;exact ⟨_,l',d::is,hk'',⟨t,hob,rfl,jd _ _ hf⟩,hd,⟨g,rfl⟩,zp hn,hr⟩
 | .fn f::ps,u::us,vs,K,hv,hh=>by
  obtain ⟨v,rest,rfl,h1,h2⟩:=hv;simp only [gk] at hh
  split at hh <;> first | exact (qw hh).elim | skip
  rename_i g;obtain ⟨hf,hh1⟩:=qy hh;have hf:=Nat.eq_of_beq_eq_true hf;subst hf;obtain ⟨as',l',is,hk',hr⟩:=gG h ps us rest _ h2 hh1;exact ⟨_,l',is,hk',h1,hr⟩
theorem kw:∀ {ps:List Pk} {vs:List Value} {xs:List AV} {is:List Nat} {l:List Nm},hZ C S θ w l ps vs xs is->xs.length=ps.length/\is.length=jv ps
 | [],[],[],[],l,h=>⟨rfl,rfl⟩
 | .val s::ps,v::vs,x::xs,is,l,h=>by have:=kw h.2.2; simp [this.1,jv,this.2]
 | .io s::ps,v::vs,x::xs,d::is,l,h=>by have:=kw h.2.2.2.2; simp [this.1,jv,this.2]
 | .fn f::ps,v::vs,_::xs,is,l,h=>by have:=kw h.2; simp [this.1,jv,this.2]
theorem mM:∀ {ps:List Pk} {vs:List Value} {xs:List AV} {is:List Nat} {l:List Nm},hZ C S θ w l ps vs xs is->∀ {q k:Nat} {s:Sh},zh ps q=some (k,s)->
  ∃ d t x g,is[q]? = some d/\xs[k]? = some x/\S.obj (.top d)=some (.box t)/\x=nrm s t/\WT s x/\θ (.top d)=some (.pointer (some ⟨g,0,none⟩))/\vs[k]? = some (.pointer (some ⟨g,0,none⟩))
 | [],[],[],[],l,h,q,k,s,hq=>by cases hq
 | .val s'::ps,v::vs,x::xs,is,l,h,q,k,s,hq=>by
  simp only [zh,Option.map_eq_some_iff] at hq;obtain ⟨⟨k1,s1⟩,h1,h2⟩:=hq
  cases h2
  obtain ⟨d,t,x',g,r1,r2,r3⟩:=mM h.2.2 h1;exact ⟨d,t,x',g,r1,by simpa using r2,r3⟩
 | .fn s'::ps,v::vs,x::xs,is,l,h,q,k,s,hq=>by
  simp only [zh,Option.map_eq_some_iff] at hq;obtain ⟨⟨k1,s1⟩,h1,h2⟩:=hq
  cases h2
  obtain ⟨d,t,x',g,r1,r2,r3⟩:=mM h.2 h1;exact ⟨d,t,x',g,r1,by simpa using r2,r3⟩
 | .io s'::ps,v::vs,x::xs,d::is,l,h,0,k,s,hq=>by
  cases hq
  obtain ⟨⟨t,h1,h2,h3⟩,h4,⟨g,rfl⟩,_⟩:=h;exact ⟨d,t,x,g,rfl,rfl,h1,h2,h3,h4,rfl⟩
 | .io s'::ps,v::vs,x::xs,d::is,l,h,q+1,k,s,hq=>by
  simp only [zh,Option.map_eq_some_iff] at hq;obtain ⟨⟨k1,s1⟩,h1,h2⟩:=hq
  cases h2
  obtain ⟨d',t,x',g,r1,r2,r3⟩:=mM h.2.2.2.2 h1;exact ⟨d',t,x',g,by simpa using r1,by simpa using r2,r3⟩
theorem xf:∀ {ps:List Pk} {vs:List Value} {xs:List AV} {is:List Nat} {l:List Nm},hZ C S θ w l ps vs xs is->is.Nodup
 | [],[],[],[],l,h=>List.nodup_nil
 | .val s'::ps,v::vs,x::xs,is,l,h=>xf h.2.2
 | .fn s'::ps,v::vs,x::xs,is,l,h=>xf h.2
 | .io s'::ps,v::vs,x::xs,d::is,l,h=>List.nodup_cons.2 ⟨h.2.2.2.1,xf h.2.2.2.2⟩
theorem xz {l:List Nm} {okc:Nat->Prop} {θ0:Nm->Option Value} (hθ:jV fs θ θ0) (hok:∀ b,okX C w S θ l b->okc b):∀ {ps:List Pk} {vs:List Value} {xs:List AV} {is:List Nat} {j:Nat},hZ C S θ w l ps vs xs is->(ps.all fun p=>inF fs p.sh)=true->
  (∀ (q k:Nat) (s:Sh) (d:Nat),zh ps q=some (k,s)->is[q]? = some d->θ0 (.top (par (j+k)))=θ (.top d))->∀ (ys:List AV),CVt w okc θ0 (xe ps j (xs++ys)) vs
 | [],[],[],[],j,h,hi,hp,ys=>by cases ys <;> rfl
 | .val s'::ps,v::vs,x::xs,is,j,h,hi,hp,ys=>by
  rw [List.all_cons,Bool.and_eq_true] at hi;refine ⟨v,vs,rfl,ja hθ hok s' x v h.1 hi.1 h.2.1,xz hθ hok h.2.2 hi.2 (fun q k s d h1 h2=>?_) ys⟩;have:=hp q (k+1) s d (by simp [zh,h1]) h2
  rwa [show j+(k+1)=j+1+k by omega] at this
 | .fn s'::ps,v::vs,x::xs,is,j,h,hi,hp,ys=>by
  rw [List.all_cons,Bool.and_eq_true] at hi;refine ⟨v,vs,rfl,h.1,xz hθ hok h.2 hi.2 (fun q k s d h1 h2=>?_) ys⟩;have:=hp q (k+1) s d (by simp [zh,h1]) h2
  rwa [show j+(k+1)=j+1+k by omega] at this
 | .io s'::ps,v::vs,x::xs,d::is,j,h,hi,hp,ys=>by
  rw [List.all_cons,Bool.and_eq_true] at hi;obtain ⟨h1,h2,⟨g,rfl⟩,h4,h5⟩:=h;have h0:=hp 0 0 s' d rfl rfl;refine ⟨_,vs,rfl,⟨g,by rw [Nat.add_zero] at h0; rw [h0]; exact h2,rfl⟩,xz hθ hok h5 hi.2 (fun q k s d' h1 h2=>?_) ys⟩;have:=hp (q+1) (k+1) s d' (by simp [zh,h1]) (by simpa using h2)
  rwa [show j+(k+1)=j+1+k by omega] at this
theorem bp:∀ (fs:List zZ) (K:List AV->Pg),(tW fs K).exe n S=some S'->∃ xs,(K xs).exe n S=some S'/\xs.length=fs.length/\
  ∀ (k:Nat) (D:zZ),fs[k]? = some D->∃ F,S.fam D.f=some F/\F.e=D.e/\F.s=D.s/\F.ks=D.ks/\xs[k]? = some (.tup F.l)
 | [],K,hh=>⟨[],hh,rfl,fun k D h=>by simp at h⟩
 | D::r,K,hh=>by
  simp only [tW] at hh;replace hh:=nT hh
  cases hF:S.fam D.f with
  | none=>rw [hF] at hh; exact (qw hh).elim
  | some F=>
   rw [hF] at hh;simp only at hh;obtain ⟨hm,hh1⟩:=qy hh;obtain ⟨xs,h1,h2,h3⟩:=bp r _ hh1;simp only [Bool.and_eq_true] at hm;refine ⟨.tup F.l::xs,h1,by simp [h2],fun k D' hk=>?_⟩
   cases k with
   | zero=>
    cases hk
    refine ⟨F,hF,Nat.eq_of_beq_eq_true hm.1,wD hm.2.1,?_,rfl⟩;have:=hm.2.2
    cases h4:F.ks with
    | none=>cases h5:D.ks with
     | none=>rfl
     | some s=>rw [h4,h5] at this; cases this
    | some s=>cases h5:D.ks with
     | none=>rw [h4,h5] at this; cases this
     | some t=>rw [h4,h5] at this; rw [wD this]
   | succ k=>simpa using h3 k D' (by simpa using hk)
theorem gN:∀ (ps:List Pk) (is:List Nat) (xs:List AV) (p:Pg) (S:St),(yn ps is xs p).exe n S=some S'->is.Nodup->∃ S2,p.exe n S2=some S'/\S2.tm=S.tm/\S2.fm=S.fm/\
  (∀ d,(∀ q,q<jv ps->is[q]?≠some d)->S2.obj (.top d)=S.obj (.top d))/\∀ q k s,zh ps q=some (k,s)->∃ d x,is[q]? = some d/\xs[q]? = some x/\S2.obj (.top d)=some (.box (eta s x))
 | [],is,xs,p,S,hh,hn=>⟨S,hh,rfl,rfl,fun _ _=>rfl,fun q k s h=>by cases h⟩
 | .val t::ps,is,xs,p,S,hh,hn=>by
  have hh:(yn ps is xs p).exe n S=some S':=by simpa [yn] using hh
  obtain ⟨S2,h1,h2,h3,h4,h5⟩:=gN ps is xs p S hh hn;refine ⟨S2,h1,h2,h3,h4,fun q k s h=>?_⟩;simp only [zh,Option.map_eq_some_iff] at h;obtain ⟨⟨k1,s1⟩,h6,h7⟩:=h
  cases h7
  exact h5 q k1 _ h6
 | .fn t::ps,is,xs,p,S,hh,hn=>by
  have hh:(yn ps is xs p).exe n S=some S':=by simpa [yn] using hh
  obtain ⟨S2,h1,h2,h3,h4,h5⟩:=gN ps is xs p S hh hn;refine ⟨S2,h1,h2,h3,h4,fun q k s h=>?_⟩;simp only [zh,Option.map_eq_some_iff] at h;obtain ⟨⟨k1,s1⟩,h6,h7⟩:=h
  cases h7
  exact h5 q k1 _ h6
 | .io t::ps,[],xs,p,S,hh,hn=>(qw hh).elim
 | .io t::ps,d::is,[],p,S,hh,hn=>(qw hh).elim
 | .io t::ps,d::is,x::xs,p,S,hh,hn=>by
  simp only [yn] at hh;obtain ⟨hd,hn⟩:=List.nodup_cons.1 hn;obtain ⟨S2,h1,h2,h3,h4,h5⟩:=gN ps is xs p _ (zM hh) hn;refine ⟨S2,h1,h2,h3,fun e he=>?_,fun q k s h=>?_⟩
  ·rw [h4 e (fun q hq hq'=>he (q+1) (by simp [jv]; omega) (by simpa using hq'))];refine qt _ _ _ _ (fun hne=>he 0 (by simp [jv]) ?_)
   cases hne
   rfl
  ·cases q with
   | zero=>
    cases h
    refine ⟨d,x,rfl,rfl,?_⟩;rw [h4 d (fun q hq hq'=>hd (List.mem_of_getElem? hq')),qZ]
   | succ q=>
    simp only [zh,Option.map_eq_some_iff] at h;obtain ⟨⟨k1,s1⟩,h6,h7⟩:=h
    cases h7
    obtain ⟨d',x',r1,r2,r3⟩:=h5 q k1 _ h6;exact ⟨d',x',by simpa using r1,by simpa using r2,r3⟩
theorem dK:∀ (fs:List zZ) (xs:List AV) (p:Pg) (S:St),(tK fs xs p).exe n S=some S'->xm fs=true->(∀ D∈fs,∃ F,S.fam D.f=some F/\F.e=D.e/\F.s=D.s/\F.ks=D.ks)->
  ∃ S2,p.exe n S2=some S'/\S2.tm=S.tm/\(∀ d,S2.obj (.top d)=S.obj (.top d))/\(∀ f,(∀ D∈fs,D.f≠f)->S2.fam f=S.fam f)/\
   ∀ (k:Nat) (D:zZ),fs[k]? = some D->∃ x,xs[k]? = some x/\S2.fam D.f=some ⟨D.e,D.s,D.ks,x.qz⟩
 | [],xs,p,S,hh,hn,hF=>⟨S,hh,rfl,fun _=>rfl,fun _ _=>rfl,fun k D h=>by simp at h⟩
 | D::r,[],p,S,hh,hn,hF=>(qw hh).elim
 | D::r,x::xs,p,S,hh,hn,hF=>by
  simp only [xm,Bool.and_eq_true,Bool.not_eq_true'] at hn;simp only [tK] at hh;obtain ⟨F,hF0,he,hs,hks⟩:=hF D (by simp)
  have hne:∀ D'∈r,D'.f≠D.f:=fun D' hD' e=>by
   have:=List.any_eq_false.1 hn.1 D' hD';rw [e] at this;simp at this
  obtain ⟨S2,h1,h2,h3,h4,h5⟩:=dK r xs p _ (cG hh) hn.2 (fun D' hD'=>by
   obtain ⟨F',q1,q2⟩:=hF D' (by simp [hD'])
   exact ⟨F',by rw [Js (hne D' hD')]; exact q1,q2⟩)
  refine ⟨S2,h1,h2,h3,fun f hf=>?_,fun k D' hk=>?_⟩
  ·rw [h4 f (fun D' hD'=>hf D' (by simp [hD'])),Js (fun e=>hf D (by simp) e.symm)]
  ·cases k with
   | zero=>
    cases hk
    refine ⟨x,rfl,?_⟩;rw [h4 D.f hne,wT hF0,he,hs,hks]
   | succ k=>simpa using h5 k D' (by simpa using hk)
theorem rW (ro:Bool) (fs:List zZ) (xs:List AV) (p:Pg) (S:St) (hh:(co ro fs xs p).exe n S=some S') (hn:xm fs=true) (hF:∀ D∈fs,∃ F,S.fam D.f=some F/\F.e=D.e/\F.s=D.s/\F.ks=D.ks)
  (hro:ro=true->∀ (k:Nat) (D:zZ),fs[k]? = some D->∃ F,S.fam D.f=some F/\F.e=D.e/\F.s=D.s/\F.ks=D.ks/\xs[k]? = some (.tup F.l)) :
  ∃ S2,p.exe n S2=some S'/\S2.tm=S.tm/\(∀ d,S2.obj (.top d)=S.obj (.top d))/\(∀ f,(∀ D∈fs,D.f≠f)->S2.fam f=S.fam f)/\
   ∀ (k:Nat) (D:zZ),fs[k]? = some D->∃ x,xs[k]? = some x/\S2.fam D.f=some ⟨D.e,D.s,D.ks,x.qz⟩:=by
 cases ro with
 | false=>exact dK fs xs p S hh hn hF
 | true=>
  refine ⟨S,hh,rfl,fun _=>rfl,fun _ _=>rfl,fun k D hk=>?_⟩;obtain ⟨F,h1,h2,h3,h4,h5⟩:=hro rfl k D hk;refine ⟨_,h5,?_⟩;rw [h1,<-h2,<-h3,<-h4];rfl
theorem vW {f : FuncId} {fn : Func} {args : Array Value} (hf : P.funcs[f]? = some fn) (hb : fn.body.isSome = true) (hn : fn.name ≠ "runtime.NumGoroutine") : (callFunc f args).run P w = .ok (.enter f args) w := by
 obtain ⟨c,hc⟩ : ∃ c,fn.body=some c:=Option.isSome_iff_exists.1 hb;simp [callFunc,hf,hn,hc]
theorem wc (a:Act) (d:Option Tmp) (v:Value):(a.put d v).defers=a.defers:=by cases d <;> rfl
theorem tf {us:List AV} {vs:List Value} {v:Value} {ty:List TypeId} (hh:(nR o us).exe n S=some S') (h:Rel C S θ a w) (hv:(ty.length=1/\vs=[v])\/(ty.length≠1/\v=.tuple vs.toArray)) (hl:us.length=ty.length)
  (hc:CVt w (qx C w S θ) θ us vs):Rel C S' θ (a.put o.dst v) w:=by
 unfold nR at hh
 split at hh
 ·rename_i u
  rcases hv with ⟨_,rfl⟩ | ⟨hn,_⟩
  ·obtain ⟨v',rest,e,h1,_⟩:=hc
   cases e
   exact qu hh h h1
  ·exact (hn hl.symm).elim
 ·rename_i hne
  rcases hv with ⟨h1,rfl⟩ | ⟨_,rfl⟩
  ·rw [h1] at hl
   cases us with
   | nil=>simp at hl
   | cons u r=>cases r with
    | nil=>exact (hne u rfl).elim
    | cons=>simp at hl
  ·exact qu hh h ⟨vs.toArray,rfl,hc⟩
theorem eJ {ok:Nat->Prop} {θ:Nm->Option Value} {x:AV} {u:Value}:∀ {us:List AV} {vs:List Value} {j:Nat},CVt w ok θ (us.set j .undef) vs->vs[j]? = some u->CV w ok θ x u->CVt w ok θ (us.set j x) vs
 | [],vs,j,h,hj,hx=>by simpa using h
 | y::us,vs,0,h,hj,hx=>by
  obtain ⟨v,rest,rfl,_,h2⟩:=h
  cases hj
  exact ⟨u,rest,rfl,hx,h2⟩
 | y::us,vs,j+1,h,hj,hx=>by
  obtain ⟨v,rest,rfl,h1,h2⟩:=h;exact ⟨v,rest,rfl,h1,eJ (us:=us) h2 hj hx⟩
theorem sS (hθ:jV fs θ θ') (hok:∀ b,ok b->ok' b):∀ {us:List AV} {vs:List Value},(∀ a∈us,a=.undef\/gr fs a)->CVt w ok θ us vs->CVt w ok' θ' us vs
 | [],vs,_,h=>h
 | x::us,vs,hw,h=>by
  obtain ⟨v,rest,rfl,h1,h2⟩:=h;refine ⟨v,rest,rfl,?_,sS hθ hok (fun a ha=>hw a (by simp [ha])) h2⟩
  rcases hw x (by simp) with rfl | ⟨s,hs,hi⟩
  ·trivial
  ·exact ja hθ hok s x v hs hi h1
end
end Go.Am
end
section
set_option linter.unusedVariables false
set_option linter.unusedSimpArgs false
namespace Go.Am
open Go.RowKit
theorem yK:∀ {ps:List Pk} {q:Nat},q<jv ps->∃ k s,zh ps q=some (k,s)
 | [],q,h=>by simp [jv] at h
 | .io s::ps,0,h=>⟨0,s,rfl⟩
 | .io s::ps,q+1,h=>by
  obtain ⟨k,s',h1⟩:=yK (ps:=ps) (q:=q) (by simp [jv] at h; omega);exact ⟨k+1,s',by simp [zh,h1]⟩
 | .val s::ps,q,h=>by
  obtain ⟨k,s',h1⟩:=yK (ps:=ps) (q:=q) (by simpa [jv] using h);exact ⟨k+1,s',by simp [zh,h1]⟩
 | .fn s::ps,q,h=>by
  obtain ⟨k,s',h1⟩:=yK (ps:=ps) (q:=q) (by simpa [jv] using h);exact ⟨k+1,s',by simp [zh,h1]⟩
section
variable {C C' : Ctx} {S S' : St} {θ θ' : Nm->Option Value} {a:Act} {w w' : World} {n:Rp} {ok ok' : Nat->Prop} {P:Program} {o:Oper} {fs:List zZ}
noncomputable def vA (ps:List Pk) (is:List Nat) (fs:List zZ) (θ:Nm->Option Value):Nm->Option Value:=open Classical in fun d=>match d with
 | .top e=>if h:∃ d,∃ q k s,zh ps q=some (k,s)/\is[q]? = some d/\e=par k then θ (.top h.choose) else none
 | .mem f i=>if ∃ D∈fs,D.f=f then θ (.mem f i) else none
theorem kX {ps:List Pk} {is:List Nat} {q k:Nat} {s:Sh} {d:Nat} (h1:zh ps q=some (k,s)) (h2:is[q]? = some d):vA ps is fs θ (.top (par k))=θ (.top d):=by
 have hh:∃ d,∃ q k' s,zh ps q=some (k',s)/\is[q]? = some d/\par k=par k':=⟨d,q,k,s,h1,h2,rfl⟩;simp only [vA];rw [dif_pos hh];obtain ⟨q',k',s',h3,h4,h5⟩:=hh.choose_spec;have:=uP h5;subst this;have:=gl h1 h3;subst this;rw [h2] at h4
 cases h4
 rfl
theorem fo {ps:List Pk} {is:List Nat} {e:Nat} {v:Value} (h:vA ps is fs θ (.top e)=some v):∃ q k s d,zh ps q=some (k,s)/\is[q]? = some d/\e=par k/\θ (.top d)=some v:=by
 simp only [vA] at h
 split at h
 ·rename_i hh;obtain ⟨q,k,s,h1,h2,h3⟩:=hh.choose_spec;exact ⟨q,k,s,_,h1,h2,h3,h⟩
 ·cases h
theorem vp {ps:List Pk} {is:List Nat} {D:zZ} {i:Nat} (h:D∈fs):vA ps is fs θ (.mem D.f i)=θ (.mem D.f i):=by
 simp only [vA];rw [if_pos ⟨D,h,rfl⟩]
theorem vu {ps:List Pk} {is:List Nat} {f i:Nat} {v:Value} (h:vA ps is fs θ (.mem f i)=some v):(∃ D∈fs,D.f=f)/\θ (.mem f i)=some v:=by
 simp only [vA] at h
 split at h
 ·rename_i hh; exact ⟨hh,h⟩
 ·cases h
mutual
theorem nZ:∀ (s:Sh) (x:AV),nrm s (eta s x)=eta s x
 | .int k,x=>rfl
 | .bool,x=>rfl
 | .str,x=>rfl
 | .arr k n,x=>rfl
 | .fs k,x=>rfl
 | .nl k,x=>rfl
 | .fv s,x=>rfl
 | .pt f,x=>rfl
 | .mp f,x=>rfl
 | .agg l,x=>by simp only [eta,nrm,bE l 0 x]
theorem bE:∀ (l:List Sh) (i:Nat) (x:AV),yl l (nI l i x)=nI l i x
 | [],i,x=>rfl
 | s::l,i,x=>by simp only [nI,yl,nZ s,bE l (i+1) x]
end
theorem yu {A:Sh->Prop} (hc:∀ s x v,A s->WT s x->CV w ok θ x v->CV w ok' θ' x v) {d d' : Nm} {s:Sh} {t x:AV} (hA:A s) (h:OV C w ok θ d (.box t)) (hx:x=nrm s t) (hw:WT s x) (hd:∀ v,θ d=some v->θ' d' = some v)
  (hM:∀ g,θ d=some (.pointer (some ⟨g,0,none⟩))->C'.M g):OV C' w ok' θ' d' (.box (eta s x)):=by
 obtain ⟨g,e,fr,v,h1,h2,h3,h4,h5,h6⟩:=h;rw [zE s x hw];refine ⟨g,e,fr,v,hd _ h1,h2,h3,hc s x v hA hw (by rw [hx]; exact kF s t v h4),?_,hM g h1⟩;rw [hx,vV];exact h5
theorem yO {A:Sh->Prop} (hc:∀ s x v,A s->WT s x->CV w ok θ x v->CV w ok' θ' x v) {d d' : Nm} {F:Fam} {i:Nat} (hA:A F.s) (hK:∀ ks,F.ks=some ks->A ks) (h:OV C w ok θ d (F.at i)) (hd:∀ v,θ d=some v->θ' d' = some v)
  (hM:∀ g v,θ d=some v->blk v=some g->C'.M g):OV C' w ok' θ' d' (F.at i):=by
 unfold Fam.at at h ⊢
 cases hks:F.ks with
 | none=>
  rw [hks] at h;obtain ⟨g,e,fr,v,h1,h2,h3,h4,h5,h6⟩:=h;exact ⟨g,e,fr,v,hd _ h1,h2,h3,hc F.s _ v hA (kO _ _) h4,h5,hM g _ h1 rfl⟩
 | some ks=>
  rw [hks] at h;obtain ⟨g,ents,c,h1,h2,h3,h4,h5⟩:=h;refine ⟨g,ents,c,hd _ h1,h2,h3,?_,hM g _ h1 rfl⟩
  have:∀ (es:List AV) (ms:List MapEntry),MEs w ok θ ks F.s es ms->MEs w ok' θ' ks F.s es ms:=by
   intro es
   induction es with
   | nil=>intro ms h; cases ms with | nil=>trivial | cons=>exact h.elim
   | cons e es ih=>
    intro ms h
    cases ms with
    | nil=>exact h.elim
    | cons m ms=>
     obtain ⟨⟨k,v,q1,q2,q3,q4,q5⟩,q6⟩:=h;exact ⟨⟨k,v,q1,q2,hc ks k _ (hK ks hks) q2 q3,q4,hc F.s v _ hA q4 q5⟩,ih ms q6⟩
  exact this _ _ h4
theorem yA (F:Fam) (i:Nat):(F.at i).isOwn=true:=by
 unfold Fam.at
 split <;> rfl
theorem OwnRow.monoM {M M' : Nat->Prop} (hM:∀ b,M b->M' b) {e:TypeId} {size m:Nat} {v:Value} {cs:List Value} (h:OwnRow w M e size v m cs):OwnRow w M' e size v m cs:=by
 refine ⟨h.1,?_⟩
 rcases h.2 with q | ⟨g,cap,cur,fr,q1,q2,q3⟩
 ·exact .inl q
 ·exact .inr ⟨g,cap,cur,fr,q1,hM _ q2,q3⟩
theorem OwnRow.self {M:Nat->Prop} {e:TypeId} {size m:Nat} {v:Value} {cs:List Value} (h:OwnRow w M e size v m cs):OwnRow w (fun b=>blk v=some b) e size v m cs:=by
 refine ⟨h.1,?_⟩
 rcases h.2 with q | ⟨g,cap,cur,fr,rfl,q2,q3⟩
 ·exact .inl q
 ·exact .inr ⟨g,cap,cur,fr,rfl,rfl,q3⟩
theorem Qu {c:Cal} {e:TypeId} {k:IntKind} {f:FuncId} {args:Array Value} {us:List AV} (hs:cf P C.E f c e k)
  (hent:(callFunc f args).run P w=.ok (.enter f args) w->(execOp a.eval o).run P w=.ok (.enter f args) w) (h:Rel C S θ a w) (hu:CVt w (qx C w S θ) θ us args.toList)
  (hh:(Qo c e k o us).exe n S=some S') (K:Act->World->Prop) (Q:Exit->Act->World->Prop)
  (hK:∀ a' w' θ',Rel C S' θ' a' w'->a'.defers=a.defers->K a' w'):o.wp P a w K Q:=by
 unfold Qo at hh
 split at hh <;> first | exact (qw hh).elim | skip
 rename_i dd u r hdd;obtain ⟨hsc,hh⟩:=qy hh;obtain ⟨v,vs,hvs,hv,hr⟩:=hu;obtain ⟨⟨fn,hf1,hf2,hf3⟩,hcall⟩:=hs;have hargs:args=(v::vs).toArray:=by rw [<-hvs]
 have hrun:=hent (vW hf1 hf2 hf3);unfold Oper.wp;rw [hrun,Oper.upon_enter,hargs]
 split at hh
 ·
  obtain ⟨q,hF,hh⟩:=cq hh;obtain ⟨_,hh⟩:=qX hh;replace hh:=qN hh
  cases hq:S.obj (.top dd) with
  | some y=>rw [hq] at hh; exact (qw hh).elim
  | none=>
   rw [hq] at hh;have hS:=wk (zG (zM hh));have hv:v=.slice none 0 0:=hv;subst hv;refine Calls.mono (hcall n.n [] r q hF hsc C S θ a w _ vs rfl h ⟨by simp [qr],.inl ⟨rfl,rfl⟩⟩ (fun ad n c e=>by cases e) ⟨none,0,0,rfl⟩ (fun b hb=>by cases hb) hr) ?_
   rintro ed w' ⟨v',ys,rfl,rfl,ho,⟨A,n1,c1,hform⟩,hg⟩
   dsimp only;rw [hS] at hK;have hw:gz w w':=⟨⟨hg.os,hg.tape,hg.output.1,hg.size,fun b hb=>hg.far b hb (by simp [blk])⟩,hg.output.2⟩;have hrel:=h.born (b:=.row true e k ys) (v:=v') hq hw (fun g hgb=>by rcases hg.blk g hgb with hh | hh; exact (by cases hh); exact hh) hg.base
    (fun ok' hk=>⟨v',qb _ _ _,fun _=>ho.monoM (fun b hb=>by
     rcases hb with hb | hb
     ·cases hb
     ·exact .inl (Nat.le_trans h.size hb)),fun h=>by cases h⟩)
   refine hK _ w' (upd θ (.top dd) v') ?_ (wc _ _ _);rw [hdd];exact hrel.put ⟨qb _ _ _,A,n1,c1,hform⟩
 ·rename_i d;obtain ⟨hd,A0,m0,c0,hsv⟩:=hv;replace hh:=qN hh
  split at hh <;> first | exact (qw hh).elim | skip
  rename_i ob hob
  split at hh <;> first | exact (qw hh).elim | skip
  rename_i e' xs has;obtain ⟨he,hh2⟩:=qy hh
  clear hh
  have he:=Nat.eq_of_beq_eq_true he;subst he;obtain ⟨q,hF,hh3⟩:=cq hh2
  clear hh2
  obtain ⟨_,hh4⟩:=qX hh3
  clear hh3
  have hh5:=qN hh4
  clear hh4
  cases hq:S.obj (.top dd) with
  | some y=>rw [hq] at hh5; exact (qw hh5).elim
  | none=>
   rw [hq] at hh5;obtain ⟨hisO,v1,k1,k2⟩:=kv h hob (h.has_of hd) has;obtain ⟨dt,rfl,hh8⟩:=kZ hh5;have hS:=wk (zG (zM hh8));rw [hd] at k1
   cases k1
   refine Calls.mono (hcall n.n xs r q hF hsc C S θ a w v vs rfl h k2.self (h.base _ _ hd) ⟨A0,m0,c0,hsv⟩ (fun b hb hok=>hok.2.2 ⟨_,_,v,hob,hisO,hd,hb⟩) hr) ?_
   rintro ed w' ⟨v',ys,rfl,rfl,ho,⟨A,n1,c1,hform⟩,hg⟩
   dsimp only;rw [hS] at hK;have hrel:=h.moved (ob:=.row true e k ys) hob hisO hd hq hg
    (fun ok' hk=>⟨v',qb _ _ _,fun _=>ho.monoM (fun b hb=>by
     rcases hb with hb | hb
     ·exact (k2.lt hb).2
     ·exact .inl (Nat.le_trans h.size hb)),fun h=>by cases h⟩)
   refine hK _ w' (upd θ (.top dd) v') ?_ (wc _ _ _);rw [hdd];exact hrel.put ⟨qb _ _ _,A,n1,c1,hform⟩
 ·exact (qw hh).elim
theorem bG {cal:FuncId->Option Cal} (hcal:∀ f c,cal f=some c->qU P C.E f c) {f:FuncId} {args:Array Value} {us:List AV}
  (hent:(callFunc f args).run P w=.ok (.enter f args) w->(execOp a.eval o).run P w=.ok (.enter f args) w) (h:Rel C S θ a w) (hu:CVt w (qx C w S θ) θ us args.toList)
  (hh:(na P cal o f us).exe n S=some S') (K:Act->World->Prop) (Q:Exit->Act->World->Prop)
  (hK:∀ a' w' θ',Rel C S' θ' a' w'->a'.defers=a.defers->K a' w'):o.wp P a w K Q:=by
 unfold na at hh
 split at hh <;> first | exact (qw hh).elim | skip
 rename_i c hc;have hsc:=hcal f c hc;unfold qU at hsc
 split at hh
 ·rename_i ek hek;rw [hek] at hsc;exact Qu hsc hent h hu hh K Q hK
 rename_i hek;rw [hek] at hsc;obtain ⟨hin,hh0⟩:=qy hh
 clear hh
 rw [Bool.and_eq_true] at hin;obtain ⟨hin,hty⟩:=hin;obtain ⟨as',l,is,hh1,hA⟩:=gG h _ _ _ _ hu hh0
 clear hh0
 obtain ⟨hlall,hh2⟩:=qy hh1
 clear hh1
 obtain ⟨xs,hh3,hxl,hxs⟩:=bp _ _ hh2
 clear hh2
 obtain ⟨r0,hF,hh4'⟩:=cq hh3
 clear hh3
 obtain ⟨hrl,hh4⟩:=qX hh4'
 clear hh4'
 rw [oH (Nat.eq_of_beq_eq_true hrl)] at hh4
 have hfull:c.full (as'++xs) r0=r0++Ku c.ro xs:=by
  unfold Cal.full;rw [<-(kw hA).1,List.drop_left]
 have hrd:c.ro=true->(c.full (as'++xs) r0).drop (c.ty.length+jv c.ps)=xs:=fun hro=>by
  rw [hfull,hro]
  have:r0.length=c.ty.length+jv c.ps:=by
   have:=Nat.eq_of_beq_eq_true hrl;rw [hro] at this;simpa [Ql] using this
  rw [<-this];exact List.drop_left
 rw [<-hfull] at hh4;generalize hr0:c.full (as'++xs) r0=r at hh4 hrd;obtain ⟨⟨fn,hf1,hf2,hf3⟩,hflat,hs⟩:=hsc;simp only [iz,Bool.and_eq_true] at hin;obtain ⟨hinP,hinF,hnd⟩:=hin;obtain ⟨hal,hil⟩:=kw hA;have hisn:=xf hA
 let Dp:Nm->Prop:=fun d=>match d with | .top e=>e∈is | .mem f i=>∃ D∈c.fs,D.f=f
 have hlD:∀ d∈l,¬ Dp d:=by
  intro d hd;have:=List.all_eq_true.1 hlall d hd
  cases d with
  | top e=>
   simp only [Bool.not_eq_true'] at this;exact zp this
  | mem f i=>cases this
 let θ0:=vA c.ps is c.fs θ
 let HP:=c.hp (as'++xs)
 have hfams:∀ D∈c.fs,∃ F,S.fam D.f=some F/\F.e=D.e/\F.s=D.s/\F.ks=D.ks/\HP.fam D.f=some F:=by
  intro D hD;obtain ⟨k,hk⟩:=List.getElem?_of_mem hD;obtain ⟨F,h1,h2,h3,h4,h5⟩:=hxs k D hk;refine ⟨F,h1,h2,h3,h4,?_⟩;have:=kS hnd hk h5
  show zu (vj c.fs ((as'++xs).drop c.ps.length)) D.f=some F;rw [show (as'++xs).drop c.ps.length=xs by rw [<-hal,List.drop_left],this,<-h2,<-h3,<-h4];rfl
 have hpfam:∀ f F,HP.fam f=some F->∃ D∈c.fs,D.f=f:=by
  intro f F hF;obtain ⟨k,D,x,h1,_,h3,_⟩:=kB hF;exact ⟨D,List.mem_of_getElem? h1,h3⟩
 have hptop:∀ e ob,HP.obj (.top e)=some ob->∃ q k s d t x g,zh c.ps q=some (k,s)/\is[q]? = some d/\e=par k/\S.obj (.top d)=some (.box t)/\x=nrm s t/\WT s x/\ob=.box (eta s x)/\θ (.top d)=some (.pointer (some ⟨g,0,none⟩)):=by
  intro e ob he;obtain ⟨k,s,x,h1,h2,h3,h4⟩:=jD he;obtain ⟨q,_,hq⟩:=uF h1;obtain ⟨d,t,x',g,r1,r2,r3,r4,r5,r6,_⟩:=mM hA hq
  have hx:x=x':=by
   rw [List.getElem?_append_left (List.getElem?_eq_some_iff.1 r2).1,r2] at h2;exact (Option.some.inj h2).symm
  subst hx;exact ⟨q,k,s,d,t,x,g,hq,r1,by simpa using h3,r3,r4,r5,h4,r6⟩
 have hpio:∀ q k s,zh c.ps q=some (k,s)->∃ d t x g,is[q]? = some d/\S.obj (.top d)=some (.box t)/\x=nrm s t/\WT s x/\HP.obj (.top (par k))=some (.box (eta s x))/\θ (.top d)=some (.pointer (some ⟨g,0,none⟩)):=by
  intro q k s hq;obtain ⟨d,t,x,g,r1,r2,r3,r4,r5,r6,_⟩:=mM hA hq;refine ⟨d,t,x,g,r1,r3,r4,r5,?_,r6⟩;have:=sM (j:=0) (kR hq) (as:=as'++xs) (x:=x) (by rw [List.getElem?_append_left (List.getElem?_eq_some_iff.1 r2).1]; exact r2);rw [Nat.zero_add] at this;exact this
 have hown:∀ b,jm HP θ0 b->∃ d ob v,Dp d/\S.obj d=some ob/\ob.isOwn=true/\θ d=some v/\blk v=some b:=by
  rintro b ⟨d,ob,v,h1,h2,h3,h4⟩
  cases d with
  | top e=>
   obtain ⟨q,k,s,d,t,x,g,k1,k2,k3,k4,_,_,_,k8⟩:=hptop e ob h1;subst k3;have:θ0 (.top (par k))=θ (.top d):=kX k1 k2;rw [this] at h3;exact ⟨.top d,.box t,v,List.mem_of_getElem? k2,k4,rfl,h3,h4⟩
  | mem f i=>
   obtain ⟨F,hF1,rfl⟩:=zA h1;obtain ⟨D,hD,rfl⟩:=hpfam f F hF1;obtain ⟨F',g1,_,_,_,g5⟩:=hfams D hD;rw [hF1] at g5
   cases g5
   have:θ0 (.mem D.f i)=θ (.mem D.f i):=vp hD;rw [this] at h3;exact ⟨.mem D.f i,F.at i,v,⟨D,hD,rfl⟩,zg g1,yA _ _,h3,h4⟩
 have hown' : ∀ d ob v b,Dp d->S.obj d=some ob->ob.isOwn=true->θ d=some v->blk v=some b->jm HP θ0 b:=by
  intro d ob v b hD h1 h2 h3 h4
  cases d with
  | top e=>
   obtain ⟨q,hq⟩:=List.getElem?_of_mem (show e∈is from hD);obtain ⟨k,s,hio⟩:=yK (ps:=c.ps) (q:=q) (by rw [<-hil]; exact (List.getElem?_eq_some_iff.1 hq).1);obtain ⟨d',t,x,g,r1,r2,r3,r4,r5,r6⟩:=hpio q k s hio;rw [hq] at r1
   cases r1
   exact ⟨.top (par k),_,v,r5,rfl,by rw [show θ0 (.top (par k))=θ (.top e) from kX hio hq]; exact h3,h4⟩
  | mem f i=>
   obtain ⟨D,hD',rfl⟩:=(show ∃ D∈c.fs,D.f=f from hD);obtain ⟨F',g1,_,_,_,g5⟩:=hfams D hD';rw [zg g1] at h1
   cases h1
   exact ⟨.mem D.f i,F'.at i,v,zg g5,yA _ _,by rw [show θ0 (.mem D.f i)=θ (.mem D.f i) from vp hD']; exact h3,h4⟩
 let Fb:Nat->Prop:=fun b=>C.F b\/∃ d ob v,d ∉ l/\¬ Dp d/\S.obj d=some ob/\ob.isOwn=true/\θ d=some v/\blk v=some b
 have hFb:∀ b,Fb b->b<w.heap.size:=by
  rintro b (hb | ⟨d,ob,v,_,_,h1,h2,h3,h4⟩)
  ·exact Nat.lt_of_lt_of_le (C.fb b hb) h.size
  ·exact ((h.ob h1 h3).lt h2 h3 h4).1
 have hIb:∀ b,jm HP θ0 b->b<w.heap.size/\C.M b:=by
  intro b hb;obtain ⟨d,ob,v,_,h1,h2,h3,h4⟩:=hown b hb;exact (h.ob h1 h3).lt h2 h3 h4
 have hiF:∀ b,jm HP θ0 b->¬ Fb b:=by
  intro b hb hF
  rcases hF with hF | ⟨d',ob',v',_,hnD,h1',h2',h3',h4'⟩
  ·exact C.M_F (hIb b hb).2 hF
  ·obtain ⟨d,ob,v,hD,h1,h2,h3,h4⟩:=hown b hb;exact h.sep d d' ob ob' v v' b h1 h1' h2 h2' (fun e=>hnD (e ▸ hD)) h3 h3' h4 h4'
 let C0:Ctx:={ w0:=w,I:=jm HP θ0,F:=Fb,E:=C.E,ib:=fun b hb=>(hIb b hb).1,fb:=hFb,gd:=C.gd,iF:=hiF }
 have hokX:∀ b,okX C w S θ l b->qx C0 w HP θ0 b:=by
  intro b hb;refine ⟨hb.1,?_,?_⟩
  ·rintro (hF | ⟨d,ob,v,h1,_,h2⟩)
   ·exact hb.2.1 hF
   ·exact hb.2.2 ⟨d,ob,v,h1,h2⟩
  ·intro hB;obtain ⟨d,ob,v,hD,h2⟩:=hown b hB;exact hb.2.2 ⟨d,ob,v,fun hl=>hlD d hl hD,h2⟩
 have hok0:∀ b,qx C w S θ b->qx C0 w HP θ0 b:=fun b hb=>hokX b (jU hb)
 have hmem0:jV c.fs θ θ0:=fun D hD i x hx=>by rw [show θ0 (.mem D.f i)=θ (.mem D.f i) from vp hD]; exact hx
 have hinS:∀ q k s,zh c.ps q=some (k,s)->inF c.fs s=true:=fun q k s hq=>List.all_eq_true.1 hinP (.io s) (List.mem_of_getElem? (kR hq))
 have hinD:∀ D∈c.fs,inF c.fs D.s=true/\∀ ks,D.ks=some ks->inF c.fs ks=true:=fun D hD=>by
  have:=List.all_eq_true.1 hinF D hD;unfold tq at this;rw [Bool.and_eq_true] at this;refine ⟨this.1,fun ks hks=>?_⟩;have h2:=this.2;rw [hks] at h2;exact h2
 have conv0:∀ s x v,inF c.fs s=true->WT s x->CV w (qx C w S θ) θ x v->CV w (qx C0 w HP θ0) θ0 x v:=fun s x v hi hw hv=>ja hmem0 hok0 s x v hw hi hv
 have hrel0:sF C0 (qx C0 w HP θ0) HP θ0 w:=by
  refine ⟨fun d ob hhas hd=>?_,fun d hd=>?_,fun d d' ob ob' v v' b h1 h2 h3 h4 hne h5 h6 h7 h8=>?_,rfl,rfl,⟨rfl,.inr trivial⟩,Nat.le_refl _,fun _ _ _=>rfl,fun d v hv=>?_⟩
  ·cases d with
   | top e=>
    obtain ⟨q,k,s,d,t,x,g,k1,k2,k3,k4,k5,k6,k7,k8⟩:=hptop e ob hd;subst k3 k7;have ht:θ0 (.top (par k))=θ (.top d):=kX k1 k2;refine yu (A:=fun s=>inF c.fs s=true) conv0 (hinS q k s k1) (h.ob k4 k8) k5 k6 (fun v hv=>by rw [ht]; exact hv) (fun g' hg'=>.inr ?_);exact hown' (.top d) _ _ g' (List.mem_of_getElem? k2) k4 rfl hg' rfl
   | mem f i=>
    obtain ⟨F,hF1,rfl⟩:=zA hd;obtain ⟨D,hD,rfl⟩:=hpfam f F hF1;obtain ⟨F',g1,g2,g3,g4,g5⟩:=hfams D hD;rw [hF1] at g5
    cases g5
    have ht:θ0 (.mem D.f i)=θ (.mem D.f i):=vp hD
    have hhS:S.has (.mem D.f i):=by
     obtain ⟨F2,q1,q2⟩:=hhas;rw [hF1] at q1
     cases q1
     exact ⟨F,g1,q2⟩
    refine yO (A:=fun s=>inF c.fs s=true) conv0 (by rw [g3]; exact (hinD D hD).1) (fun ks hks=>(hinD D hD).2 ks (by rw [<-g4]; exact hks)) (h.objs _ _ hhS (zg g1)) (fun v hv=>by rw [ht]; exact hv) (fun g v hv hb=>.inr ?_);exact hown' (.mem D.f i) _ v g ⟨D,hD,rfl⟩ (zg g1) (yA _ _) hv hb
  ·cases hv:θ0 d with
   | none=>rfl
   | some v=>
    exfalso
    cases d with
    | top e=>
     obtain ⟨q,k,s,d,h1,h2,h3,h4⟩:=fo hv;subst h3;obtain ⟨_,_,_,_,_,_,_,_,h5,_⟩:=hpio q k s h1;exact hd (wM h5)
    | mem f i=>
     obtain ⟨⟨D,hD,rfl⟩,h2⟩:=vu hv;obtain ⟨F',g1,_,_,_,g5⟩:=hfams D hD;obtain ⟨F2,q1,q2⟩:=h.has_of h2;rw [g1] at q1
     cases q1
     exact hd ⟨F',g5,q2⟩
  ·
   have find:∀ d ob v,HP.obj d=some ob->θ0 d=some v->∃ e ob',S.obj e=some ob'/\ob'.isOwn=true/\θ e=some v/\(match d with | .top x=>∃ q k s y,zh c.ps q=some (k,s)/\is[q]? = some y/\x=par k/\e=.top y | .mem f i=>e=.mem f i):=by
    intro d ob v h1 h3
    cases d with
    | top e=>
     obtain ⟨q,k,s,d,t,x,g,k1,k2,k3,k4,_,_,_,k8⟩:=hptop e ob h1;have hq:=h3;rw [k3,show θ0 (.top (par k))=θ (.top d) from kX k1 k2] at hq;exact ⟨.top d,_,k4,rfl,hq,q,k,s,d,k1,k2,k3,rfl⟩
    | mem f i=>
     obtain ⟨F,hF1,rfl⟩:=zA h1;obtain ⟨D,hD,rfl⟩:=hpfam f F hF1;obtain ⟨F',g1,_,_,_,g5⟩:=hfams D hD;rw [hF1] at g5
     cases g5
     have hq:=h3;rw [show θ0 (.mem D.f i)=θ (.mem D.f i) from vp hD] at hq;exact ⟨.mem D.f i,_,zg g1,yA _ _,hq,rfl⟩
   obtain ⟨e,oe,q1,q2,q3,q4⟩:=find d ob v h1 h5;obtain ⟨e',oe',q5,q6,q7,q8⟩:=find d' ob' v' h2 h6;refine h.sep e e' oe oe' v v' b q1 q5 q2 q6 (fun ee=>hne ?_) q3 q7 h7 h8;subst ee
   cases d with
   | top x=>
    obtain ⟨q,k,s,y,r1,r2,r3,rfl⟩:=q4
    cases d' with
    | top x'=>
     obtain ⟨q',k',s',y',r1',r2',r3',e2⟩:=q8
     cases e2
     have:q=q':=by
      exact (List.getElem?_inj (List.getElem?_eq_some_iff.1 r2).1 hisn).1 (by rw [r2,r2'])
     subst this;rw [r1] at r1'
     cases r1'
     rw [r3,r3']
    | mem f i=>cases q8
   | mem f i=>
    cases d' with
    | top x'=>obtain ⟨_,_,_,_,_,_,_,e2⟩:=q8; subst e2; cases q4
    | mem f' i'=>rw [<-q4,<-q8]
  ·cases d with
   | top e=>
    obtain ⟨q,k,s,d,h1,h2,h3,h4⟩:=fo hv;exact h.base _ _ h4
   | mem f i=>exact h.base _ _ (vu hv).2
 have hcalls:=hs n.n (as'++xs) r0 hF C0 args θ0 rfl (fun b=>Iff.rfl) hrel0
  (xz hmem0 hokX hA hinP (fun q k s d h1 h2=>by rw [Nat.zero_add]; exact kX h1 h2) xs) (by
   intro g t hg;obtain ⟨s,hst,hsi⟩:=C.gd g t hg;obtain ⟨ad,u,e,hok,hu',hcl⟩:=h.globs g t hg
   exact ⟨ad,u,e,hok0 _ hok,ja (fs:=[]) (fun D hD=>by cases hD) hok0 s t u hst hsi hu',hcl⟩)
 clear hs
 unfold Oper.wp;rw [hent (vW hf1 hf2 hf3),Oper.upon_enter];refine hcalls.mono ?_
 rintro e w' ⟨v,θ1,rfl,hmono,hlen,vs,hvs,hres⟩
 rw [hr0] at hlen hres;simp only
 let HQ:=c.hq r
 have hmono:∀ d x,θ0 d=some x->θ1 d=some x:=hmono
 let fin:Pg:=yn c.ps is (r.drop c.ty.length) (co c.ro c.fs (r.drop (c.ty.length+jv c.ps)) (lR P o c.ty c.own (c.res r)))
 have hfr:∃ S1,Rel C S1 θ a w/\fin.exe n S1=some S'/\(∀ d,S.has d↔S1.has d)/\(∀ d,d ∉ l->S1.obj d=S.obj d)/\S1.fm=S.fm/\(c.esc=true->∀ b,okX C w S θ l b->qx C w S1 θ b)/\(c.esc=false->S1=S):=by
  cases hesc:c.esc with
  | true=>
   rw [hesc] at hh4;obtain ⟨S1,k1,k2,k3,k4,k5,k6,k7,k8⟩:=fW l h hh4;exact ⟨S1,k1,k2,k5,k7,k8,fun _=>k3,fun h=>by cases h⟩
  | false=>
   rw [hesc] at hh4;exact ⟨S,h,hh4,fun _=>Iff.rfl,fun _ _=>rfl,rfl,(fun h=>by cases h),fun _=>rfl⟩
 obtain ⟨S1,h1,hh5,hhas1,hobj1,hfm1,hesc1,hesc2⟩:=hfr
 clear hh4
 obtain ⟨S2,hh6,htm2,hfm2,hobj2,hios⟩:=gN _ _ _ _ _ hh5 hisn
 obtain ⟨S3,hh7,htm3,hobj3,hfam3,hfams3⟩:=rW _ _ _ _ _ hh6 hnd (fun D hD=>by
  obtain ⟨F,q1,q2,q3,q4,_⟩:=hfams D hD
  exact ⟨F,by unfold St.fam; rw [hfm2,hfm1]; exact q1,q2,q3,q4⟩) (fun hro k D hk=>by
  obtain ⟨F,q1,q2,q3,q4,q5⟩:=hxs k D hk;rw [hrd hro]
  exact ⟨F,by unfold St.fam; rw [hfm2,hfm1]; exact q1,q2,q3,q4,q5⟩)
 clear hh5 hh6
 have hfamS:∀ f,S1.fam f=S.fam f:=fun f=>by unfold St.fam; rw [hfm1]
 have hfamS2:∀ f,S2.fam f=S.fam f:=fun f=>by unfold St.fam; rw [hfm2,hfm1]
 have hout3:∀ d,¬ Dp d->S3.obj d=S1.obj d/\(S3.has d↔S1.has d):=by
  intro d hD
  cases d with
  | top e=>
   have:S3.obj (.top e)=S1.obj (.top e):=by
    rw [hobj3,hobj2];intro q _ hq;exact hD (List.mem_of_getElem? hq)
   exact ⟨this,by show S3.obj (.top e)≠none↔S1.obj (.top e)≠none; rw [this]⟩
  | mem f i=>
   have hf:S3.fam f=S1.fam f:=by
    rw [hfam3 f (fun D hD' e=>hD ⟨D,hD',e⟩),hfamS2,hfamS]
   have hf' : zu S3.fm f=zu S1.fm f:=hf;exact ⟨by simp only [St.obj,hf'],by simp only [St.has,hf]⟩
 let θ2:Nm->Option Value:=open Classical in fun d=>match d with | .top e=>θ (.top e) | .mem f i=>if ∃ D∈c.fs,D.f=f then θ1 (.mem f i) else θ (.mem f i)
 have hθ2m:∀ D∈c.fs,∀ i,θ2 (.mem D.f i)=θ1 (.mem D.f i):=fun D hD i=>by
  simp only [θ2];rw [if_pos ⟨D,hD,rfl⟩]
 have hθ2o:∀ d,¬ Dp d->θ2 d=θ d:=fun d hD=>by
  cases d with
  | top e=>rfl
  | mem f i=>
   simp only [θ2];rw [if_neg hD]
 have hnm2:∀ d x,θ d=some x->θ2 d=some x:=by
  intro d x hx
  by_cases hD:Dp d
  ·cases d with
   | top e=>exact hx
   | mem f i=>
    obtain ⟨D,hD',rfl⟩:=(show ∃ D∈c.fs,D.f=f from hD);rw [hθ2m D hD' i];exact hmono _ _ (by rw [show θ0 (.mem D.f i)=θ (.mem D.f i) from vp hD']; exact hx)
  ·rw [hθ2o d hD];exact hx
 have uJ:∀ d,Dp d->∃ e,(∀ x,θ2 d=some x->θ1 e=some x)/\(∀ x,θ1 e=some x->θ2 d=some x)/\HQ.obj e=S3.obj d/\(HQ.has e↔S3.has d)/\(∃ ob,S3.obj d=some ob/\ob.isOwn=true)/\
   (match d with | .top y=>∃ q k s,zh c.ps q=some (k,s)/\is[q]? = some y/\e=.top (par k) | .mem f i=>e=.mem f i):=by
  intro d hD
  cases d with
  | top y=>
   obtain ⟨q,hq⟩:=List.getElem?_of_mem (show y∈is from hD);obtain ⟨k,s,hio⟩:=yK (ps:=c.ps) (q:=q) (by rw [<-hil]; exact (List.getElem?_eq_some_iff.1 hq).1);obtain ⟨d',x,r1,r2,r3⟩:=hios q k s hio;rw [hq] at r1
   cases r1
   have e1:HQ.obj (.top (par k))=some (.box (eta s x)):=by
    have:=kL (j:=0) hio r2;rw [Nat.zero_add] at this;exact this
   have e2:S3.obj (.top y)=some (.box (eta s x)):=by rw [hobj3]; exact r3
   obtain ⟨d2,t,x2,g,z1,z2,z3,z4,z5,z6⟩:=hpio q k s hio;rw [hq] at z1
   cases z1
   have e3:θ0 (.top (par k))=θ (.top y):=kX hio hq;have e4:θ1 (.top (par k))=θ (.top y):=by rw [z6]; exact hmono _ _ (by rw [e3]; exact z6)
   exact ⟨.top (par k),fun x hx=>by rw [e4]; exact hx,fun x hx=>by rw [e4] at hx; exact hx,by rw [e1,e2],⟨fun _=>wM e2,fun _=>wM e1⟩,⟨_,e2,rfl⟩,q,k,s,hio,hq,rfl⟩
  | mem f i=>
   obtain ⟨D,hD',rfl⟩:=(show ∃ D∈c.fs,D.f=f from hD);obtain ⟨k,hk⟩:=List.getElem?_of_mem hD';obtain ⟨x,r1,r2⟩:=hfams3 k D hk;have e1:HQ.fam D.f=some ⟨D.e,D.s,D.ks,x.qz⟩:=kS hnd hk r1;exact ⟨.mem D.f i,fun x hx=>by rw [hθ2m D hD'] at hx; exact hx,fun x hx=>by rw [hθ2m D hD']; exact hx,by rw [zg e1,zg r2],by simp only [St.has,e1,r2],⟨_,zg r2,yA _ _⟩,rfl⟩
 have hgo:∀ (u:Option Nat) (X:Nm->Prop) (S4:St) (θ4:Nm->Option Value),sF C0 (okR C0 w' HQ θ1 c.esc u) HQ θ1 w'->S4.tm=S3.tm->(∀ d,¬ X d->S4.obj d=S3.obj d/\(S4.has d↔S3.has d)/\θ4 d=θ2 d)->
   (∀ d,X d->¬ S1.has d/\¬ Dp d/\S4.has d)->(∀ d d',X d->X d'->d=d')->(∀ d ob v b,X d->S4.obj d=some ob->ob.isOwn=true->θ4 d=some v->blk v=some b->w.heap.size<=b/\some b=u/\¬ jm HQ θ1 b)->
   (∀ d v,X d->θ4 d=some v->vi v)->((∀ b,okR C0 w' HQ θ1 c.esc u b->qx C w' S4 θ4 b)->∀ d ob,X d->S4.obj d=some ob->OV C w' (qx C w' S4 θ4) θ4 d ob)->
   Rel C S4 θ4 a w'/\∀ b,okR C0 w' HQ θ1 c.esc u b->qx C w' S4 θ4 b:=by
  intro u X S4 θ4 hH htm4 hX1 hX2 hX3 hX4 hX5 hX6;have hDX:∀ d,Dp d->¬ X d:=fun d hD hx=>(hX2 d hx).2.1 hD
  have hokr:∀ b,okR C0 w' HQ θ1 c.esc u b->qx C w' S4 θ4 b:=by
   intro b hb;refine ⟨hb.1,fun hF=>hb.2.1 (.inl hF),?_⟩
   rintro ⟨d,ob,v,q1,q2,q3,q4⟩
   by_cases hx:X d
   ·exact hb.2.2.2.1 (hX4 d ob v b hx q1 q2 q3 q4).2.1
   ·obtain ⟨y1,y2,y3⟩:=hX1 d hx;rw [y1] at q1;rw [y3] at q3
    by_cases hD:Dp d
    ·obtain ⟨e,g1,g2,g3,g4,g5,g6⟩:=uJ d hD;exact hb.2.2.1 ⟨e,ob,v,by rw [g3]; exact q1,q2,g1 _ q3,q4⟩
    ·rw [(hout3 d hD).1] at q1;rw [hθ2o d hD] at q3;have hlt:=((h1.ob q1 q3).lt q2 q3 q4).1
     cases hesc:c.esc with
     | false=>have:=hb.2.2.2.2 hesc; exact absurd hlt (Nat.not_lt.2 this)
     | true=>
      have hXb:okX C w S θ l b:=by
       refine ⟨hlt,fun hF=>hb.2.1 (.inl hF),?_⟩
       rintro ⟨d',o2,v2,p1,p2,p3,p4,p5⟩
       by_cases hD' : Dp d'
       ·obtain ⟨e,g1,g2,g3,g4,⟨ob',g5,g5'⟩,g6⟩:=uJ d' hD';exact hb.2.2.1 ⟨e,ob',v2,by rw [g3]; exact g5,g5',g1 _ (hnm2 _ _ p4),p5⟩
       ·exact hb.2.1 (.inr ⟨d',o2,v2,p1,hD',p2,p3,p4,p5⟩)
      exact (hesc1 hesc b hXb).2.2 ⟨d,ob,v,q1,q2,q3,q4⟩
  refine ⟨?_,hokr⟩
  have hIx:∀ b,jm HP θ0 b->∃ d ob v,(Dp d\/X d)/\S1.obj d=some ob/\ob.isOwn=true/\θ d=some v/\blk v=some b:=by
   intro b hb;obtain ⟨d,ob,v,hD,q1,q2,q3,q4⟩:=hown b hb;exact ⟨d,ob,v,.inl hD,by rw [hobj1 d (fun hl=>hlD d hl hD)]; exact q1,q2,q3,q4⟩
  have hM0:∀ g,C0.M g->C.M g:=by
   rintro g (hg | hg)
   ·exact .inl (Nat.le_trans h.size hg)
   ·exact (hIb g hg).2
  refine h1.turn (fun d=>Dp d\/X d) (jm HP θ0) (by rw [htm4,htm3,htm2]) (fun d hd=>?_) (fun d hd=>?_) (fun d x hx=>?_) (hH.os) (hH.tape) (hH.output) hH.size (fun b hb hx=>hH.frame b hb hx) hIx ?_ ?_ ?_ ?_ ?_
  ·simp only [not_or] at hd;obtain ⟨y1,y2,y3⟩:=hX1 d hd.2;exact ⟨y1.trans (hout3 d hd.1).1,y3.trans (hθ2o d hd.1)⟩
  ·simp only [not_or] at hd;exact (hX1 d hd.2).2.1.trans (hout3 d hd.1).2
  ·by_cases hx' : X d
   ·exact absurd (h1.has_of hx) (hX2 d hx').1
   ·rw [(hX1 d hx').2.2];exact hnm2 d x hx
  ·rintro d ob v b (hD | hx) q1 q2 q3 q4
   ·obtain ⟨y1,y2,y3⟩:=hX1 d (hDX d hD);rw [y1] at q1;rw [y3] at q3;obtain ⟨e,g1,g2,g3,g4,g5,g6⟩:=uJ d hD;have hov:=hH.objs e ob (Classical.byContradiction fun hn=>by have:=hH.fresh e hn; rw [g1 _ q3] at this; cases this) (by rw [g3]; exact q1)
    rcases (hov.lt q2 (g1 _ q3) q4).2 with hg | hg
    ·exact .inl hg
    ·exact .inr (hIx b hg)
   ·exact .inl (hX4 d ob v b hx q1 q2 q3 q4).1
  ·rintro d d' ob ob' v v' b hd hd' q1 q2 q3 q4 hne q5 q6 q7 q8
   rcases hd with hD | hx
   ·obtain ⟨y1,y2,y3⟩:=hX1 d (hDX d hD);rw [y1] at q1;rw [y3] at q5;obtain ⟨e,g1,g2,g3,g4,g5,g6⟩:=uJ d hD
    rcases hd' with hD' | hx'
    ·obtain ⟨y1',y2',y3'⟩:=hX1 d' (hDX d' hD');rw [y1'] at q2;rw [y3'] at q6;obtain ⟨e',g1',g2',g3',g4',g5',g6'⟩:=uJ d' hD';refine hH.sep e e' ob ob' v v' b (by rw [g3]; exact q1) (by rw [g3']; exact q2) q3 q4 (fun ee=>hne ?_) (g1 _ q5) (g1' _ q6) q7 q8;subst ee
     cases d with
     | top y=>
      obtain ⟨q,k,s,z1,z2,rfl⟩:=g6
      cases d' with
      | top y'=>
       obtain ⟨q',k',s',z1',z2',e2⟩:=g6';have hk:k=k':=uP (Nm.top.inj e2);subst hk;have:=gl z1 z1';subst this;rw [z2] at z2'
       cases z2'
       rfl
      | mem f i=>cases g6'
     | mem f i=>
      subst g6
      cases d' with
      | top y'=>obtain ⟨_,_,_,_,_,e2⟩:=g6'; cases e2
      | mem f' i'=>exact g6'
    ·exact (hX4 d' ob' v' b hx' q2 q4 q6 q8).2.2 ⟨e,ob,v,by rw [g3]; exact q1,q3,g1 _ q5,q7⟩
   ·rcases hd' with hD' | hx'
    ·obtain ⟨y1',y2',y3'⟩:=hX1 d' (hDX d' hD');rw [y1'] at q2;rw [y3'] at q6;obtain ⟨e',g1',g2',g3',g4',g5',g6'⟩:=uJ d' hD';exact (hX4 d ob v b hx q1 q3 q5 q7).2.2 ⟨e',ob',v',by rw [g3']; exact q2,q4,g1' _ q6,q8⟩
    ·exact hne (hX3 d d' hx hx')
  ·rintro d (hD | hx) hn
   ·obtain ⟨y1,y2,y3⟩:=hX1 d (hDX d hD);rw [y3];obtain ⟨e,g1,g2,g3,g4,g5,g6⟩:=uJ d hD;have hne:¬ HQ.has e:=fun hh=>hn (y2.2 (g4.1 hh))
    cases hv:θ2 d with
    | none=>rfl
    | some v=>have:=hH.fresh e hne; rw [g1 _ hv] at this; cases this
   ·exact (hn (hX2 d hx).2.2).elim
  ·rintro d v (hD | hx) hv
   ·rw [(hX1 d (hDX d hD)).2.2] at hv;obtain ⟨e,g1,g2,g3,g4,g5,g6⟩:=uJ d hD;exact hH.base e v (g1 _ hv)
   ·exact hX5 d v hx hv
  ·rintro hk d ob (hD | hx) hhas q1
   ·obtain ⟨y1,y2,y3⟩:=hX1 d (hDX d hD);rw [y1] at q1;obtain ⟨e,g1,g2,g3,g4,g5,g6⟩:=uJ d hD;have hov:=hH.objs e ob (g4.2 (y2.1 hhas)) (by rw [g3]; exact q1)
    have hm4:jV c.fs θ1 θ4:=fun D hD' i x hx=>by
     rw [(hX1 _ (hDX (.mem D.f i) ⟨D,hD',rfl⟩)).2.2,hθ2m D hD'];exact hx
    have conv:∀ s x v,(inF c.fs s=true/\(c.esc=true\/vT s=true))->WT s x->CV w' (okR C0 w' HQ θ1 c.esc u) θ1 x v->CV w' (qx C w' S4 θ4) θ4 x v:=by
     intro s x v hi hw hv;exact ja hm4 hokr s x v hw hi.1 hv
    have hd:∀ v,θ1 e=some v->θ4 d=some v:=fun v hv=>by rw [y3]; exact g2 _ hv
    have hMg:∀ g v,θ1 e=some v->blk v=some g->ob.isOwn=true->C.M g:=fun g v hv hb ho=>hM0 g ((hov.lt ho hv hb).2)
    cases d with
    | top y=>
     obtain ⟨q,k,s,z1,z2,rfl⟩:=g6;obtain ⟨d',x,r1,r2,r3⟩:=hios q k s z1;rw [z2] at r1
     cases r1
     have e2:S3.obj (.top y)=some (.box (eta s x)):=by rw [hobj3]; exact r3
     rw [e2] at q1
     cases q1
     have hr:=yu (C':=C) (s:=s) (x:=nrm s (eta s x)) (A:=fun s=>inF c.fs s=true) (fun s x v hi hw hv=>ja hm4 hokr s x v hw hi hv) (hinS q k s z1) hov rfl (by
      have hx:nrm s (eta s x)=eta s x:=nZ s x
      rw [hx]; exact kO s x) hd (fun g hg=>hMg g _ hg rfl rfl)
     rw [nZ,zE s _ (kO s x)] at hr;exact hr
    | mem f i=>
     subst g6;obtain ⟨D,hD',rfl⟩:=(show ∃ D∈c.fs,D.f=f from hD);obtain ⟨kk,hk'⟩:=List.getElem?_of_mem hD';obtain ⟨x,r1,r2⟩:=hfams3 kk D hk';rw [zg r2] at q1
     cases q1
     exact yO (C':=C) (A:=fun s=>inF c.fs s=true) (fun s x v hi hw hv=>ja hm4 hokr s x v hw hi hv) (hinD D hD').1 (hinD D hD').2 hov hd (fun g v hv hb=>hMg g v hv hb (yA _ _))
   ·exact hX6 hokr d ob hx q1
 unfold lR at hh7
 split at hh7
 ·
  rename_i hownr;rw [hownr] at hres;obtain ⟨hH,hct,hwt⟩:=hres;obtain ⟨hr4,hok4⟩:=hgo none (fun _=>False) S3 θ2 hH rfl (fun d _=>⟨rfl,Iff.rfl,rfl⟩) (fun _ h=>h.elim) (fun _ _ h=>h.elim) (fun _ _ _ _ h=>h.elim) (fun _ _ h=>h.elim) (fun _ _ _ h=>h.elim);have hm2:jV c.fs θ1 θ2:=fun D hD i x hx=>by rw [hθ2m D hD]; exact hx
  exact hK _ _ θ2 (tf hh7 hr4 hvs hlen (sS hm2 hok4 (fun a ha=>.inr (hwt a ha)) hct)) (wc _ _ _)
 ·
  rename_i j hownr;rw [hownr] at hres;obtain ⟨x0,u,t,e1,e2,e3,hx0,hH,⟨hb0,hform,hnown,el,hel,hrow⟩,hct,hwt⟩:=hres;rw [e1,e3] at hh7;simp only at hh7
  split at hh7 <;> first | exact (qw hh7).elim | skip
  rename_i ob hob;have hh8:=qN hh7
  clear hh7
  cases hq:S3.obj (.top (vE (o.dst.getD 0))) with
  | some q=>rw [hq] at hh8; exact (qw hh8).elim
  | none=>
   rw [hq] at hh8;have hh9:=zM hh8
   clear hh8
   have hrn:¬ Dp (.top (vE (o.dst.getD 0))):=fun hD=>by
    obtain ⟨e,_,_,_,_,⟨ob',g5,_⟩,_⟩:=uJ (.top (vE (o.dst.getD 0))) hD;rw [hq] at g5
    cases g5
   have hblk:∀ g,blk u=some g->w.heap.size<=g:=by
    intro g hg
    rcases hrow with ⟨k,xs,_,hr1⟩ | ⟨s,xs,cs,_,_,_,hr1⟩
    ·exact (hr1.lt hg).2
    ·exact (hr1.lt hg).2
   have hobown:ob.isOwn=true:=by
    unfold Vp at hob;rw [hel] at hob
    rcases hrow with ⟨k,xs,rfl,_⟩ | ⟨s,xs,cs,rfl,_,_,_⟩ <;>(cases hob; rfl)
   have hm4:jV c.fs θ1 (upd θ2 (.top (vE (o.dst.getD 0))) u):=fun D hD i x hx=>by rw [zP _ _ (by intro e; cases e),hθ2m D hD]; exact hx
   obtain ⟨hr4,hok4⟩:=hgo (blk u) (fun d=>d=.top (vE (o.dst.getD 0))) (S3.qW (vE (o.dst.getD 0)) ob) (upd θ2 (.top (vE (o.dst.getD 0))) u) hH rfl
    (fun d hd=>⟨qt _ _ _ _ hd,zw _ _ _ _ hd,zP _ _ hd⟩)
    (fun d hd=>by subst hd; exact ⟨fun hh=>((hout3 (.top (vE (o.dst.getD 0))) hrn).2.2 hh) hq,hrn,za _ _ _⟩)
    (fun d d' hd hd'=>hd.trans hd'.symm)
    (fun d ob' v b hd q1 q2 q3 q4=>by subst hd; rw [qb] at q3; cases q3; exact ⟨hblk b q4,q4.symm,(hnown b q4).1⟩)
    (fun d v hd hv=>by subst hd; rw [qb] at hv; cases hv; exact hb0)
    (fun hok d ob' hd q1=>by
     subst hd;rw [qZ] at q1
     cases q1
     have hmk:∀ {size m:Nat} {cs:List Value},OwnRow w' (fun g=>C0.w0.heap.size<=g) el size u m cs->OwnRow w' C.M el size u m cs:=by
      intro size m cs hr1;refine ⟨hr1.1,?_⟩
      rcases hr1.2 with q | ⟨g,cap,cur,fr,q1,q2,q3⟩
      ·exact .inl q
      ·exact .inr ⟨g,cap,cur,fr,q1,.inl (Nat.le_trans h.size q2),q3⟩
     unfold Vp at hob;rw [hel] at hob
     rcases hrow with ⟨k,xs,rfl,hr1⟩ | ⟨s,xs,cs,rfl,hw,hcs,hr1⟩
     ·cases hob
      exact ⟨u,qb _ _ _,fun _=>hmk hr1,fun h=>by cases h⟩
     ·cases hob
      obtain ⟨s',hs',hi'⟩:=hx0
      have hss:inF c.fs s=true:=by
       cases s' <;> first | (rcases hs' with e | ⟨_,e⟩ <;> cases e; done) | (obtain ⟨_,e⟩:=hs'; cases e; done) | (obtain ⟨_,e,_⟩:=hs'; cases e; done) | skip
       obtain ⟨_,e⟩:=hs'
       cases e
       exact hi'
      exact ⟨u,qb _ _ _,hw,fun _=>⟨cs,fe hm4 hok hss hw hcs,hmk hr1⟩,fun h=>by cases h⟩)
   have hct2:=sS hm4 hok4 (fun a ha=>by
    obtain ⟨i,hi⟩:=List.getElem?_of_mem ha
    by_cases hij:j=i
    ·subst hij;rw [List.getElem?_set_self (by simpa using (List.getElem?_eq_some_iff.1 e1).1)] at hi;exact .inl (Option.some.inj hi).symm
    ·rw [List.getElem?_set_ne hij] at hi
     exact .inr (hwt i a (fun e=>hij e.symm) hi)) hct
   have hct3:=eJ (x:=.own (.top (vE (o.dst.getD 0)))) hct2 e2 ⟨qb _ _ _,hform⟩;exact hK _ _ _ (tf hh9 hr4 hvs (by rw [List.length_set]; exact hlen) hct3) (wc _ _ _)
end
end Go.Am
end
