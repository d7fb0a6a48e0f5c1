/-
  Calls of functions that are described.
-/
import Derived.Test.YtlmnjnhmhacgkaaDoorAmC
section
set_option linter.unusedVariables false
set_option linter.unusedSimpArgs false
namespace Go.Am
open Go.RowKit
section
variable {C:Ctx} {S S' : St} {θ θ' : Nm→Option Value} {a:Act} {w w' : World} {n:Rp} {ok:Nat→Prop} {P:Program} {o:Oper} {ks vs:Sh}
theorem opLookup_ok {t:TypeId} {x y:Operand} {u uy:AV} {two:Bool} (ho:o.op=.lookup t x y two) (h:Rel C S θ a w) (hu:CV w (okOf C w S θ) θ u (a.eval x)) (hy:CV w (okOf C w S θ) θ uy (a.eval y))
  (hh:(opLookup P C.E o t u uy two).exe n S=some S'):Does P C S' o a w:=(exe_fail hh).elim
theorem opMapUpdate_ok {t:TypeId} {x y z:Operand} {u uy uz:AV} (ho:o.op=.mapUpdate t x y z) (hd:o.dst=none) (h:Rel C S θ a w) (hu:CV w (okOf C w S θ) θ u (a.eval x)) (hy:CV w (okOf C w S θ) θ uy (a.eval y)) (hz:CV w (okOf C w S θ) θ uz (a.eval z))
  (hh:(opMapUpdate P C.E o t u uy uz).exe n S=some S'):Does P C S' o a w:=(exe_fail hh).elim
theorem opMapEntry_ok {t:TypeId} {x y:Operand} {u uy:AV} (ho:o.op=.mapEntry t x y) (h:Rel C S θ a w) (hu:CV w (okOf C w S θ) θ u (a.eval x)) (hy:CV w (okOf C w S θ) θ uy (a.eval y))
  (hh:(opMapEntry P C.E o t u uy).exe n S=some S'):Does P C S' o a w:=(exe_fail hh).elim
theorem opEntryStore_ok {t:TypeId} {x y z:Operand} {u uy uz:AV} (ho:o.op=.entryStore t x y z) (hd:o.dst=none) (h:Rel C S θ a w) (hu:CV w (okOf C w S θ) θ u (a.eval x)) (hy:CV w (okOf C w S θ) θ uy (a.eval y)) (hz:CV w (okOf C w S θ) θ uz (a.eval z))
  (hh:(opEntryStore P C.E o t u uy uz).exe n S=some S'):Does P C S' o a w:=(exe_fail hh).elim
theorem opDelete_ok {t:TypeId} {ts:List TypeId} {x y:Operand} {ats:Array TypeId} {u uy:AV} (ho:o.op=.call { callee:=.builtin .delete,args:=#[x,y],argTypes:=ats }) (hts:ats.toList=t::ts) (h:Rel C S θ a w) (hu:CV w (okOf C w S θ) θ u (a.eval x)) (hy:CV w (okOf C w S θ) θ uy (a.eval y))
  (hh:(opDelete P C.E o t u uy).exe n S=some S'):Does P C S' o a w:=(exe_fail hh).elim
theorem opMakeMap_ok {t:TypeId} (ho:o.op=.makeMap t none) (h:Rel C S θ a w) (hh:(opMakeMap P C.E o t).exe n S=some S'):Does P C S' o a w:=(exe_fail hh).elim
theorem opRange_ok {t:TypeId} {x:Operand} {u:AV} (ho:o.op=.range t x) (h:Rel C S θ a w) (hu:CV w (okOf C w S θ) θ u (a.eval x)) (hh:(opRange P C.E o t u).exe n S=some S'):Does P C S' o a w:=(exe_fail hh).elim
theorem opEntry_ok {x:Operand} {u:AV} (ho:o.op=.entry x) (h:Rel C S θ a w) (hu:CV w (okOf C w S θ) θ u (a.eval x)) (hh:(opEntry o u).exe n S=some S'):Does P C S' o a w:=(exe_fail hh).elim
theorem opMapLen_ok {t:TypeId} {x:Operand} {u:AV} (ho:o.op=.call { callee:=.builtin .len,args:=#[x],argTypes:=#[t] }) (h:Rel C S θ a w) (hu:CV w (okOf C w S θ) θ u (a.eval x)) (hh:(opMapLen P C.E o t u).exe n S=some S'):Does P C S' o a w:=(exe_fail hh).elim
theorem opNext_ok {x:Operand} {u:AV} {N:Nat} (ho:o.op=.next x false) (h:Rel C S θ a w) (hu:CV w (okOf C w S θ) θ u (a.eval x)):∃ c,∀ S',(opNext o u).exe ⟨N,c⟩ S=some S'→Does P C S' o a w:=⟨0,fun S' hh=>(exe_fail hh).elim⟩
theorem opClo_ok {fn:Fn} {first caps:Array Operand} {us uc:List AV} (ho:o.op=.makeFunc fn first caps) (h:Rel C S θ a w) (hu:CVt w (okOf C w S θ) θ us (first.toList.map a.eval)) (hc:CVt w (okOf C w S θ) θ uc (caps.toList.map a.eval))
  (hh:(opClo o fn us uc).exe n S=some S'):Does P C S' o a w:=by
 unfold opClo at hh
 split at hh <;> first | exact (exe_fail hh).elim | skip
 rename_i f
 have hf:first.map a.eval = #[]:=by
  have hu:first.toList.map a.eval=[]:=hu
  apply Array.ext'
  simpa using hu
 refine Does.value (v:=.func (.func f) #[] (caps.map a.eval)) ?_ (put_ok' hh h ⟨_,rfl,by simpa using hc⟩)
 simp only [execOp,ho,Instr.makeFunc,hf,Sem.run_bind,Sem.run_pure,Result.andThen_ok]
end
end Go.Am
end
section
set_option linter.unusedVariables false
set_option linter.unusedSimpArgs false
namespace Go.Am
open Go.RowKit
def iniOb:List Pk→Nat→List AV→List (Nat × Ob)
 | [],_,_=>[]
 | .io s::ps,j,x::as=>(par j,.box (eta s x))::iniOb ps (j+1) as
 | _::ps,j,_::as=>iniOb ps (j+1) as
 | _::_,_,[]=>[]
def iniSl:List Pk→Nat→List AV→List AV
 | [],_,_=>[]
 | .val _::ps,j,x::as=>x::iniSl ps (j+1) as
 | .io _::ps,j,_::as=>.ref (.top (par j)) 0::iniSl ps (j+1) as
 | .fn f::ps,j,_::as=>.fn f::iniSl ps (j+1) as
 | _::_,_,[]=>[]
def iniFm:List FamD→List AV→List (Nat × Fam)
 | D::r,x::xs=>(D.f,⟨D.e,D.s,D.ks,x.toElems⟩)::iniFm r xs
 | _,_=>[]
def finOb:List Pk→Nat→List AV→List (Nat × Ob)
 | [],_,_=>[]
 | .io s::ps,j,x::xs=>(par j,.box (eta s x))::finOb ps (j+1) xs
 | .io _::_,_,[]=>[]
 | _::ps,j,xs=>finOb ps (j+1) xs
def Cal.hp (c:Cal) (as:List AV):St:=⟨[],iniOb c.ps 0 as,iniFm c.fs (as.drop c.ps.length)⟩
def Cal.hq (c:Cal) (r:List AV):St:=⟨[],finOb c.ps 0 (r.drop c.ty.length),iniFm c.fs (r.drop (c.ty.length+nIos c.ps))⟩
def Cal.full (c:Cal) (as r:List AV):List AV:=r++famsR c.ro (as.drop c.ps.length)
structure HRel (C:Ctx) (ok:Nat→Prop) (S:St) (θ:Nm→Option Value) (w:World):Prop where
 objs:∀ d o,S.has d→S.obj d=some o→OV C w ok θ d o
 fresh:∀ d,¬ S.has d→θ d=none
 sep:∀ d d' o o' v v' b,S.obj d=some o→S.obj d' = some o'→o.isOwn=true→o'.isOwn=true→d≠d'→θ d=some v→θ d' = some v'→blk v=some b→blk v'≠some b
 os:w.os=C.w0.os
 tape:w.tape=C.w0.tape
 output:Out C.w0 w
 size:C.w0.heap.size≤w.heap.size
 frame:∀ b,b<C.B→¬ C.I b→w.heap[b]? = C.w0.heap[b]?
 base:∀ d v,θ d=some v→base0 v
def okR (C:Ctx) (w' : World) (S1:St) (θ1:Nm→Option Value) (esc:Bool) (u:Option Nat) (b:Nat):Prop:=b<w'.heap.size∧¬ C.F b∧¬ OwnB S1 θ1 b∧some b≠u∧(esc=false→C.w0.heap.size≤b)
def OwnRes (P:Program) (C:Ctx) (w' : World) (ok:Nat→Prop) (S1:St) (θ1:Nm→Option Value) (t:TypeId) (a:AV) (u:Value):Prop:=
 base0 u∧(∃ A n c,u=.slice A n c)∧(∀ b,blk u=some b→¬ OwnB S1 θ1 b∧¬ C.F b)∧∃ e,elemT P t=some e∧
  ((∃ k xs,a=.fs k xs∧OwnRow w' (fun g=>C.w0.heap.size≤g) e 1 u xs.length (ints k xs))∨
   (∃ s xs cs,a=.fv s xs∧(∀ x∈xs,WT s x)∧CVs w' ok θ1 xs cs∧OwnRow w' (fun g=>C.w0.heap.size≤g) e s.width u xs.length cs))
def DataIn (fs:List FamD) (a:AV):Prop:=∃ s,WT s a∧inF fs s=true
def ResOK (P:Program) (C:Ctx) (fs:List FamD) (w' : World) (S1:St) (θ1:Nm→Option Value) (esc:Bool) (ty:List TypeId) (own:Option Nat) (as:List AV) (v:Value):Prop:=
 as.length=ty.length∧∃ vs:List Value,((ty.length=1∧vs=[v])∨(ty.length≠1∧v=.tuple vs.toArray))∧
  match own with
  | none=>HRel C (okR C w' S1 θ1 esc none) S1 θ1 w'∧CVt w' (okR C w' S1 θ1 esc none) θ1 as vs∧∀ a∈as,DataIn fs a
  | some j=>∃ a u t,as[j]? = some a∧vs[j]? = some u∧ty[j]? = some t∧DataIn fs a∧HRel C (okR C w' S1 θ1 esc (blk u)) S1 θ1 w'∧OwnRes P C w' (okR C w' S1 θ1 esc (blk u)) S1 θ1 t a u∧
    CVt w' (okR C w' S1 θ1 esc (blk u)) θ1 (as.set j .undef) vs∧∀ i b,i≠j→as[i]? = some b→DataIn fs b
def GlobOK (w:World) (ok:Nat→Prop) (G:Nat→Option AV):Prop:=∀ g t,G g=some t→CV w ok (fun _=>none) (.fp t) (.pointer (some ⟨g,0,none⟩))
mutual
def flatS:Sh→Bool
 | .int _=>true
 | .bool=>true
 | .str=>true
 | .arr _ _=>true
 | .agg l=>flatsS l
 | .fs _=>false
 | .nl _=>false
 | .fv _=>false
 | .pt _=>true
 | .mp _=>true
def flatsS:List Sh→Bool
 | []=>true
 | s::l=>flatS s && flatsS l
end
def Pk.flat:Pk→Bool
 | .io s=>flatS s
 | _=>true
def famFlat (D:FamD):Bool:=flatS D.s && (match D.ks with | some ks=>flatS ks | none=>true)
def calFlat (ps:List Pk) (fs:List FamD):Bool:=ps.all Pk.flat && fs.all famFlat
def SoundRow (P:Program) (E:Env) (f:FuncId) (c:Cal) (e:TypeId) (k:IntKind):Prop:=
 (∃ fn, P.funcs[f]? = some fn ∧ fn.body.isSome = true ∧ fn.name ≠ "runtime.NumGoroutine") ∧
 ∀ (n:Nat) (xs:List Int) (r q:List AV),c.F n (.fs k xs::r)=some q→r.all scal=true→∀ (C:Ctx) (S:St) (θ:Nm→Option Value) (a:Act) (w:World) (v:Value) (us:List Value),C.E=E→Rel C S θ a w→
  OwnRow w (fun b=>blk v=some b) e 1 v xs.length (ints k xs)→base0 v→(∃ A n c,v=.slice A n c)→(∀ b,blk v=some b→¬ okOf C w S θ b)→CVt w (okOf C w S θ) θ r us→
  Calls P f (v::us).toArray w fun ed w'=>∃ v' ys,ed=.returned v'∧q=[.fs k ys]∧OwnRow w' (fun b=>blk v=some b∨w.heap.size≤b) e 1 v' ys.length (ints k ys)∧(∃ A n c,v' = .slice A n c)∧Grew v v' w w'
def SoundCal0 (P:Program) (E:Env) (f:FuncId) (c:Cal):Prop:=
 (∃ fn, P.funcs[f]? = some fn ∧ fn.body.isSome = true ∧ fn.name ≠ "runtime.NumGoroutine") ∧ (c.esc = true ∨ calFlat c.ps c.fs = true) ∧
 ∀ (n:Nat) (as r:List AV),c.F n as=some r→∀ (C:Ctx) (args:Array Value) (θ0:Nm→Option Value),C.E=E→(∀ b,C.I b↔OwnB (c.hp as) θ0 b)→
  HRel C (okOf C C.w0 (c.hp as) θ0) (c.hp as) θ0 C.w0→CVt C.w0 (okOf C C.w0 (c.hp as) θ0) θ0 (iniSl c.ps 0 as) args.toList→GlobOK C.w0 (okOf C C.w0 (c.hp as) θ0) E.glob→
  Calls P f args C.w0 fun e w'=>∃ v θ1,e=.returned v∧(∀ d x,θ0 d=some x→θ1 d=some x)∧ResOK P C c.fs w' (c.hq (c.full as r)) θ1 c.esc c.ty c.own (c.res (c.full as r)) v
def SoundCal (P:Program) (E:Env) (f:FuncId) (c:Cal):Prop:=match c.row with
 | none=>SoundCal0 P E f c
 | some ek=>SoundRow P E f c ek.1 ek.2
section
variable {C:Ctx} {S S' : St} {θ θ' : Nm→Option Value} {a:Act} {w w' : World} {n:Rp} {ok ok' : Nat→Prop} {P:Program} {o:Oper} {fs:List FamD}
def MemLe (fs:List FamD) (θ θ' : Nm→Option Value):Prop:=∀ D∈fs,∀ i x,θ (.mem D.f i)=some x→θ' (.mem D.f i)=some x
theorem any_fam {f:Nat} (h:(fs.any fun D=>Nat.beq f D.f)=true):∃ D∈fs,D.f=f:=by
 rw [List.any_eq_true] at h
 obtain ⟨D,h1,h2⟩:=h
 exact ⟨D,h1,(Nat.eq_of_beq_eq_true h2).symm⟩
mutual
theorem CV_in (hθ:MemLe fs θ θ') (hok:∀ b,ok b→ok' b):∀ (s:Sh) (x:AV) (v:Value),WT s x→inF fs s=true→CV w ok θ x v→CV w ok' θ' x v
 | .int k,x,v,hw,_,h=>by obtain ⟨_,rfl⟩:=hw; exact h
 | .bool,x,v,hw,_,h=>by obtain ⟨_,rfl⟩:=hw; exact h
 | .str,x,v,hw,_,h=>by obtain ⟨_,rfl⟩:=hw; exact h
 | .arr k n,x,v,hw,_,h=>by obtain ⟨_,rfl⟩:=hw; exact h
 | .agg l,x,v,hw,hi,h=>by
  obtain ⟨cs,rfl,hc⟩:=hw
  obtain ⟨vs,rfl,h1⟩:=h
  exact ⟨vs,rfl,CVs_in hθ hok l cs _ hc hi h1⟩
 | .nl k,x,v,hw,_,h=>by
  rcases hw with rfl | ⟨xs,rfl⟩
  ·exact h
  ·obtain ⟨A,c,e,hc,hr⟩:=h
   exact ⟨A,c,e,hc,fun h0=>by obtain ⟨ad,h1,h2,h3⟩:=hr h0; exact ⟨ad,h1,hok _ h2,h3⟩⟩
 | .fs k,x,v,hw,_,h=>by
  obtain ⟨xs,rfl⟩:=hw
  obtain ⟨A,c,e,hc,hr⟩:=h
  exact ⟨A,c,e,hc,fun h0=>by obtain ⟨ad,h1,h2,h3⟩:=hr h0; exact ⟨ad,h1,hok _ h2,h3⟩⟩
 | .fv s,x,v,hw,hi,h=>by
  obtain ⟨xs,rfl⟩:=hw
  obtain ⟨A,c,cs,e,hc,hx,hcs,hr⟩:=h
  have hi:inF fs s=true:=hi
  refine ⟨A,c,cs,e,hc,hx,?_,fun h0=>by obtain ⟨ad,h1,h2,h3⟩:=hr h0; exact ⟨ad,h1,hok _ h2,h3⟩⟩
  have:∀ (xs:List AV) (cs:List Value),(∀ x∈xs,WT s x)→CVs w ok θ xs cs→CVs w ok' θ' xs cs:=by
   intro xs
   induction xs with
   | nil=>intro cs _ h; exact h
   | cons x xs ih=>
    intro cs hw h
    obtain ⟨v,rest,rfl,hs,h1,h2⟩:=h
    exact ⟨v,rest,rfl,hs,CV_in hθ hok s x v (hw x (by simp)) hi h1,ih rest (fun y hy=>hw y (by simp [hy])) h2⟩
  exact this xs cs hx hcs
 | .pt f,x,v,hw,hi,h=>by
  obtain ⟨q,rfl⟩:=hw
  obtain ⟨D,hD,rfl⟩:=any_fam hi
  cases q with
  | none=>exact h
  | some i=>exact ⟨hθ D hD i v h.1,h.2⟩
 | .mp f,x,v,hw,hi,h=>by
  obtain ⟨q,rfl⟩:=hw
  obtain ⟨D,hD,rfl⟩:=any_fam hi
  cases q with
  | none=>exact h
  | some i=>exact ⟨hθ D hD i v h.1,h.2⟩
theorem CVs_in (hθ:MemLe fs θ θ') (hok:∀ b,ok b→ok' b):∀ (l:List Sh) (cs:List AV) (vs:List Value),WTs l cs→inFs fs l=true→CVs w ok θ cs vs→CVs w ok' θ' cs vs
 | [],cs,vs,hw,_,h=>by simp only [WTs] at hw; subst hw; exact h
 | s::l,cs,vs,hw,hi,h=>by
  obtain ⟨c,r,rfl,h1,h2⟩:=hw
  have hi:(inF fs s && inFs fs l)=true:=hi
  rw [Bool.and_eq_true] at hi
  obtain ⟨v,rest,rfl,hs,k1,k2⟩:=h
  exact ⟨v,rest,rfl,hs,CV_in hθ hok s c v h1 hi.1 k1,CVs_in hθ hok l r rest h2 hi.2 k2⟩
end
theorem CVs_in_row {s:Sh} (hθ:MemLe fs θ θ') (hok:∀ b,ok b→ok' b) (hi:inF fs s=true):∀ {xs:List AV} {cs:List Value},(∀ x∈xs,WT s x)→CVs w ok θ xs cs→CVs w ok' θ' xs cs
 | [],cs,_,h=>h
 | x::xs,cs,hw,h=>by
  obtain ⟨v,rest,rfl,hs,h1,h2⟩:=h
  exact ⟨v,rest,rfl,hs,CV_in hθ hok s x v (hw x (by simp)) hi h1,CVs_in_row hθ hok hi (fun y hy=>hw y (by simp [hy])) h2⟩
mutual
theorem CV_flat (hθ:MemLe fs θ θ'):∀ (s:Sh) (x:AV) (v:Value),WT s x→inF fs s=true→flatS s=true→CV w ok θ x v→CV w' ok' θ' x v
 | .int k,x,v,hw,_,hf,h=>by obtain ⟨_,rfl⟩:=hw; exact h
 | .bool,x,v,hw,_,hf,h=>by obtain ⟨_,rfl⟩:=hw; exact h
 | .str,x,v,hw,_,hf,h=>by obtain ⟨_,rfl⟩:=hw; exact h
 | .arr k n,x,v,hw,_,hf,h=>by obtain ⟨_,rfl⟩:=hw; exact h
 | .agg l,x,v,hw,hi,hf,h=>by
  obtain ⟨cs,rfl,hc⟩:=hw
  obtain ⟨vs,rfl,h1⟩:=h
  exact ⟨vs,rfl,CVs_flat hθ l cs _ hc hi hf h1⟩
 | .fs k,x,v,hw,_,hf,h=>by cases (show false=true from hf)
 | .nl k,x,v,hw,_,hf,h=>by cases (show false=true from hf)
 | .fv s,x,v,hw,_,hf,h=>by cases (show false=true from hf)
 | .pt f,x,v,hw,hi,_,h=>by
  obtain ⟨q,rfl⟩:=hw
  obtain ⟨D,hD,rfl⟩:=any_fam hi
  cases q with
  | none=>exact h
  | some i=>exact ⟨hθ D hD i v h.1,h.2⟩
 | .mp f,x,v,hw,hi,_,h=>by
  obtain ⟨q,rfl⟩:=hw
  obtain ⟨D,hD,rfl⟩:=any_fam hi
  cases q with
  | none=>exact h
  | some i=>exact ⟨hθ D hD i v h.1,h.2⟩
theorem CVs_flat (hθ:MemLe fs θ θ'):∀ (l:List Sh) (cs:List AV) (vs:List Value),WTs l cs→inFs fs l=true→flatsS l=true→CVs w ok θ cs vs→CVs w' ok' θ' cs vs
 | [],cs,vs,hw,_,hf,h=>by simp only [WTs] at hw; subst hw; exact h
 | s::l,cs,vs,hw,hi,hf,h=>by
  obtain ⟨c,r,rfl,h1,h2⟩:=hw
  have hf:(flatS s && flatsS l)=true:=hf
  have hi:(inF fs s && inFs fs l)=true:=hi
  rw [Bool.and_eq_true] at hf hi
  obtain ⟨v,rest,rfl,hs,k1,k2⟩:=h
  exact ⟨v,rest,rfl,hs,CV_flat hθ s c v h1 hi.1 hf.1 k1,CVs_flat hθ l r rest h2 hi.2 hf.2 k2⟩
end
theorem look_iniOb {e:Nat} {o:Ob}:∀ {ps:List Pk} {j:Nat} {as:List AV},look (iniOb ps j as) e=some o→∃ k s x,ps[k]? = some (.io s)∧as[k]? = some x∧e=par (j+k)∧o=.box (eta s x)
 | [],j,as,h=>by cases h
 | p::ps,j,[],h=>by cases p <;> cases h
 | .val s::ps,j,x::as,h=>by
  obtain ⟨k,s,x,h1,h2,h3,h4⟩:=look_iniOb (ps:=ps) (as:=as) h
  exact ⟨k+1,s,x,h1,h2,by rw [h3]; congr 1; omega,h4⟩
 | .fn f::ps,j,x::as,h=>by
  obtain ⟨k,s,x,h1,h2,h3,h4⟩:=look_iniOb (ps:=ps) (as:=as) h
  exact ⟨k+1,s,x,h1,h2,by rw [h3]; congr 1; omega,h4⟩
 | .io s::ps,j,x::as,h=>by
  simp only [iniOb,look] at h
  split at h
  ·rename_i hb
   cases h
   exact ⟨0,s,x,rfl,rfl,by simpa using hb,rfl⟩
  ·obtain ⟨k,s,x,h1,h2,h3,h4⟩:=look_iniOb (ps:=ps) (as:=as) h
   exact ⟨k+1,s,x,h1,h2,by rw [h3]; congr 1; omega,h4⟩
theorem par_inj {i j:Nat} (h:par i=par j):i=j:=by unfold par at h; omega
theorem iniOb_look {k:Nat} {s:Sh} {x:AV}:∀ {ps:List Pk} {j:Nat} {as:List AV},ps[k]? = some (.io s)→as[k]? = some x→look (iniOb ps j as) (par (j+k))=some (.box (eta s x)):=by
 induction k with
 | zero=>
  intro ps j as h1 h2
  cases ps with
  | nil=>simp at h1
  | cons p ps=>
   cases as with
   | nil=>simp at h2
   | cons y as=>
    cases h1
    cases h2
    simp [iniOb,look]
 | succ k ih=>
  intro ps j as h1 h2
  cases ps with
  | nil=>simp at h1
  | cons p ps=>
   cases as with
   | nil=>simp at h2
   | cons y as=>
    have:=ih (ps:=ps) (j:=j+1) (as:=as) (by simpa using h1) (by simpa using h2)
    rw [show j+1+k=j+(k+1) by omega] at this
    cases p with
    | val=>exact this
    | fn=>exact this
    | io s'=>
     simp only [iniOb,look]
     have hne:Nat.beq (par (j+(k+1))) (par j)=false:=by
      cases hb:Nat.beq (par (j+(k+1))) (par j) with
      | false=>rfl
      | true=>have:=par_inj (Nat.eq_of_beq_eq_true hb); omega
     rw [hne]
     exact this
def ioAt:List Pk→Nat→Option (Nat × Sh)
 | [],_=>none
 | .io s::ps,0=>some (0,s)
 | .io _::ps,q+1=>(ioAt ps q).map fun p=>(p.1+1,p.2)
 | _::ps,q=>(ioAt ps q).map fun p=>(p.1+1,p.2)
theorem ioAt_get:∀ {ps:List Pk} {q k:Nat} {s:Sh},ioAt ps q=some (k,s)→ps[k]? = some (.io s)
 | [],q,k,s,h=>by cases h
 | .io s'::ps,0,k,s,h=>by cases h; rfl
 | .io s'::ps,q+1,k,s,h=>by
  simp only [ioAt,Option.map_eq_some_iff] at h
  obtain ⟨⟨k',s'⟩,h1,h2⟩:=h
  cases h2
  simpa using ioAt_get h1
 | .val s'::ps,q,k,s,h=>by
  simp only [ioAt,Option.map_eq_some_iff] at h
  obtain ⟨⟨k',s'⟩,h1,h2⟩:=h
  cases h2
  simpa using ioAt_get h1
 | .fn s'::ps,q,k,s,h=>by
  simp only [ioAt,Option.map_eq_some_iff] at h
  obtain ⟨⟨k',s'⟩,h1,h2⟩:=h
  cases h2
  simpa using ioAt_get h1
theorem ioAt_of:∀ {ps:List Pk} {k:Nat} {s:Sh},ps[k]? = some (.io s)→∃ q,q<nIos ps∧ioAt ps q=some (k,s)
 | [],k,s,h=>by simp at h
 | p::ps,0,s,h=>by cases h; exact ⟨0,by simp [nIos],rfl⟩
 | p::ps,k+1,s,h=>by
  obtain ⟨q,h1,h2⟩:=ioAt_of (ps:=ps) (k:=k) (s:=s) (by simpa using h)
  cases p with
  | io s'=>exact ⟨q+1,by simp [nIos]; omega,by simp [ioAt,h2]⟩
  | val s'=>exact ⟨q,by simpa [nIos] using h1,by simp [ioAt,h2]⟩
  | fn f=>exact ⟨q,by simpa [nIos] using h1,by simp [ioAt,h2]⟩
theorem ioAt_inj:∀ {ps:List Pk} {q q' k:Nat} {s s' : Sh},ioAt ps q=some (k,s)→ioAt ps q' = some (k,s')→q=q'
 | [],q,q',k,s,s',h,_=>by cases h
 | .io t::ps,0,0,k,s,s',h,h'=>rfl
 | .io t::ps,0,q' + 1,k,s,s',h,h'=>by
  simp only [ioAt,Option.map_eq_some_iff,Option.some.injEq,Prod.mk.injEq] at h h'
  obtain ⟨p,_,h3,_⟩:=h'
  omega
 | .io t::ps,q+1,0,k,s,s',h,h'=>by
  simp only [ioAt,Option.map_eq_some_iff,Option.some.injEq,Prod.mk.injEq] at h h'
  obtain ⟨p,_,h3,_⟩:=h
  omega
 | .io t::ps,q+1,q' + 1,k,s,s',h,h'=>by
  simp only [ioAt,Option.map_eq_some_iff] at h h'
  obtain ⟨⟨k1,s1⟩,h1,h2⟩:=h
  obtain ⟨⟨k2,s2⟩,h3,h4⟩:=h'
  cases h2
  simp only [Prod.mk.injEq] at h4
  have:k2=k1:=by omega
  subst this
  rw [ioAt_inj h1 h3]
 | .val t::ps,q,q',k,s,s',h,h'=>by
  simp only [ioAt,Option.map_eq_some_iff] at h h'
  obtain ⟨⟨k1,s1⟩,h1,h2⟩:=h
  obtain ⟨⟨k2,s2⟩,h3,h4⟩:=h'
  cases h2
  simp only [Prod.mk.injEq] at h4
  have:k2=k1:=by omega
  subst this
  exact ioAt_inj h1 h3
 | .fn t::ps,q,q',k,s,s',h,h'=>by
  simp only [ioAt,Option.map_eq_some_iff] at h h'
  obtain ⟨⟨k1,s1⟩,h1,h2⟩:=h
  obtain ⟨⟨k2,s2⟩,h3,h4⟩:=h'
  cases h2
  simp only [Prod.mk.injEq] at h4
  have:k2=k1:=by omega
  subst this
  exact ioAt_inj h1 h3
theorem finOb_look {e:Nat} {o:Ob}:∀ {ps:List Pk} {j:Nat} {xs:List AV},look (finOb ps j xs) e=some o→∃ q k s x,ioAt ps q=some (k,s)∧xs[q]? = some x∧e=par (j+k)∧o=.box (eta s x)
 | [],j,xs,h=>by cases h
 | .io s::ps,j,[],h=>by cases h
 | .io s::ps,j,x::xs,h=>by
  simp only [finOb,look] at h
  split at h
  ·rename_i hb
   cases h
   exact ⟨0,0,s,x,rfl,rfl,by simpa using hb,rfl⟩
  ·obtain ⟨q,k,s',x',h1,h2,h3,h4⟩:=finOb_look (ps:=ps) (xs:=xs) h
   exact ⟨q+1,k+1,s',x',by simp [ioAt,h1],by simpa using h2,by rw [h3]; congr 1; omega,h4⟩
 | .val s::ps,j,xs,h=>by
  have h:look (finOb ps (j+1) xs) e=some o:=by simpa [finOb] using h
  obtain ⟨q,k,s',x',h1,h2,h3,h4⟩:=finOb_look (ps:=ps) (xs:=xs) h
  exact ⟨q,k+1,s',x',by simp [ioAt,h1],h2,by rw [h3]; congr 1; omega,h4⟩
 | .fn s::ps,j,xs,h=>by
  have h:look (finOb ps (j+1) xs) e=some o:=by simpa [finOb] using h
  obtain ⟨q,k,s',x',h1,h2,h3,h4⟩:=finOb_look (ps:=ps) (xs:=xs) h
  exact ⟨q,k+1,s',x',by simp [ioAt,h1],h2,by rw [h3]; congr 1; omega,h4⟩
theorem look_finOb:∀ {ps:List Pk} {j q k:Nat} {s:Sh} {x:AV} {xs:List AV},ioAt ps q=some (k,s)→xs[q]? = some x→look (finOb ps j xs) (par (j+k))=some (.box (eta s x))
 | [],j,q,k,s,x,xs,h,_=>by cases h
 | .io t::ps,j,0,k,s,x,xs,h,hx=>by
  cases h
  cases xs with
  | nil=>simp at hx
  | cons y xs=>cases hx; simp [finOb,look]
 | .io t::ps,j,q+1,k,s,x,xs,h,hx=>by
  simp only [ioAt,Option.map_eq_some_iff] at h
  obtain ⟨⟨k1,s1⟩,h1,h2⟩:=h
  cases h2
  cases xs with
  | nil=>simp at hx
  | cons y xs=>
   have:=look_finOb (j:=j+1) h1 (by simpa using hx)
   simp only [finOb,look]
   have hne:Nat.beq (par (j+(k1+1))) (par j)=false:=by
    cases hb:Nat.beq (par (j+(k1+1))) (par j) with
    | false=>rfl
    | true=>have:=par_inj (Nat.eq_of_beq_eq_true hb); omega
   rw [hne]
   rw [show j+1+k1=j+(k1+1) by omega] at this
   exact this
 | .val t::ps,j,q,k,s,x,xs,h,hx=>by
  simp only [ioAt,Option.map_eq_some_iff] at h
  obtain ⟨⟨k1,s1⟩,h1,h2⟩:=h
  cases h2
  have:=look_finOb (j:=j+1) h1 hx
  rw [show j+1+k1=j+(k1+1) by omega] at this
  simpa [finOb] using this
 | .fn t::ps,j,q,k,s,x,xs,h,hx=>by
  simp only [ioAt,Option.map_eq_some_iff] at h
  obtain ⟨⟨k1,s1⟩,h1,h2⟩:=h
  cases h2
  have:=look_finOb (j:=j+1) h1 hx
  rw [show j+1+k1=j+(k1+1) by omega] at this
  simpa [finOb] using this
theorem iniFm_look {f:Nat} {F:Fam}:∀ {fs:List FamD} {xs:List AV},lookF (iniFm fs xs) f=some F→∃ (k:Nat) (D:FamD) (x:AV),fs[k]? = some D∧xs[k]? = some x∧D.f=f∧F=⟨D.e,D.s,D.ks,x.toElems⟩
 | [],xs,h=>by cases h
 | D::r,[],h=>by cases h
 | D::r,x::xs,h=>by
  simp only [iniFm,lookF] at h
  split at h
  ·rename_i hb
   cases h
   exact ⟨0,D,x,rfl,rfl,(Nat.eq_of_beq_eq_true hb).symm,rfl⟩
  ·obtain ⟨k,D',x',h1,h2,h3⟩:=iniFm_look h
   exact ⟨k+1,D',x',by simpa using h1,by simpa using h2,h3⟩
theorem look_iniFm:∀ {fs:List FamD} {xs:List AV} {k:Nat} {D:FamD} {x:AV},nodupF fs=true→fs[k]? = some D→xs[k]? = some x→lookF (iniFm fs xs) D.f=some ⟨D.e,D.s,D.ks,x.toElems⟩
 | [],xs,k,D,x,_,h,_=>by simp at h
 | D'::r,[],k,D,x,_,_,h=>by simp at h
 | D'::r,y::xs,0,D,x,_,h1,h2=>by
  cases h1
  cases h2
  simp [iniFm,lookF]
 | D'::r,y::xs,k+1,D,x,hn,h1,h2=>by
  simp only [nodupF,Bool.and_eq_true,Bool.not_eq_true'] at hn
  have ih:=look_iniFm (xs:=xs) hn.2 (by simpa using h1) (by simpa using h2)
  simp only [iniFm,lookF]
  have hne:Nat.beq D.f D'.f=false:=by
   cases hb:Nat.beq D.f D'.f with
   | false=>rfl
   | true=>
    have hmem:D∈r:=List.mem_of_getElem? (by simpa using h1)
    have:=List.any_eq_false.1 hn.1 D hmem
    rw [Nat.eq_of_beq_eq_true hb] at this
    simp at this
  rw [hne]
  exact ih
end
end Go.Am
end
section
set_option linter.unusedVariables false
set_option linter.unusedSimpArgs false
namespace Go.Am
open Go.RowKit
section
variable {C:Ctx} {S S' : St} {θ θ' : Nm→Option Value} {a:Act} {w w' : World} {n:Rp} {ok ok' : Nat→Prop} {P:Program} {o:Oper} {fs:List FamD}
def ARel (C:Ctx) (S:St) (θ:Nm→Option Value) (w:World) (l:List Nm):List Pk→List Value→List AV→List Nat→Prop
 | [],[],[],[]=>True
 | .val s::ps,v::vs,x::xs,is=>WT s x∧CV w (okX C w S θ l) θ x v∧ARel C S θ w l ps vs xs is
 | .io s::ps,v::vs,x::xs,d::is=>(∃ t,S.obj (.top d)=some (.box t)∧x=nrm s t∧WT s x)∧θ (.top d)=some v∧(∃ g,v=.pointer (some ⟨g,0,none⟩))∧d ∉ is∧ARel C S θ w l ps vs xs is
 | .fn f::ps,v::vs,_::xs,is=>v=.func (.func f) #[] #[]∧ARel C S θ w l ps vs xs is
 | _,_,_,_=>False
theorem ARel_mono {l l' : List Nm} (hl:∀ d∈l,d∈l'):∀ {ps:List Pk} {vs:List Value} {xs:List AV} {is:List Nat},ARel C S θ w l ps vs xs is→ARel C S θ w l' ps vs xs is
 | [],[],[],[],h=>trivial
 | .val s::ps,v::vs,x::xs,is,h=>⟨h.1,CV_mono (keepsOk fun b hb=>okX_mono hl hb) _ _ h.2.1,ARel_mono hl h.2.2⟩
 | .io s::ps,v::vs,x::xs,d::is,h=>⟨h.1,h.2.1,h.2.2.1,h.2.2.2.1,ARel_mono hl h.2.2.2.2⟩
 | .fn f::ps,v::vs,_::xs,is,h=>⟨h.1,ARel_mono hl h.2⟩
theorem hasN_mem {l:List Nat} {d:Nat}:hasN l d=false→d ∉ l:=by
 induction l with
 | nil=>simp
 | cons x r ih=>
  intro h
  simp only [hasN] at h
  split at h
  ·cases h
  ·rename_i hx
   have:d≠x:=fun e=>by subst e; simp at hx
   simp only [List.mem_cons,this,false_or]
   exact ih h
theorem doArgs_ok (h:Rel C S θ a w):∀ (ps:List Pk) (us:List AV) (vs:List Value) (K:List AV→List Nm→List Nat→Pg),CVt w (okOf C w S θ) θ us vs→(doArgs ps us K).exe n S=some S'→
  ∃ as' l is,(K as' l is).exe n S=some S'∧ARel C S θ w l ps vs as' is
 | [],[],vs,K,hv,hh=>by
  have hv:vs=[]:=hv
  subst hv
  exact ⟨[],[],[],hh,trivial⟩
 | .val s::ps,[],vs,K,hv,hh=>(exe_fail hh).elim
 | .io s::ps,[],vs,K,hv,hh=>(exe_fail hh).elim
 | .fn s::ps,[],vs,K,hv,hh=>(exe_fail hh).elim
 | [],_::_,vs,K,hv,hh=>(exe_fail hh).elim
 | .val s::ps,u::us,vs,K,hv,hh=>by
  obtain ⟨v,rest,rfl,h1,h2⟩:=hv
  simp only [doArgs] at hh
  obtain ⟨u',l,hk,hw,hcv⟩:=snap_ok h 9 s _ v _ (CV_nrm s u v h1) hh
  obtain ⟨as',l',is,hk',hr⟩:=doArgs_ok h ps us rest _ h2 hk
  exact ⟨u'::as',l++l',is,hk',hw,CV_mono (keepsOk fun b hb=>okX_mono (fun d hd=>List.mem_append_left _ hd) hb) _ _ hcv,ARel_mono (fun d hd=>List.mem_append_right _ hd) hr⟩
 | .io s::ps,u::us,vs,K,hv,hh=>by
  obtain ⟨v,rest,rfl,h1,h2⟩:=hv
  simp only [doArgs] at hh
  split at hh <;> first | exact (exe_fail hh).elim | skip
  rename_i d off
  obtain ⟨ho,hh1⟩:=exe_must hh
  have ho:=Nat.eq_of_beq_eq_true ho
  subst ho
  have hh2:=exe_obj hh1
  split at hh2 <;> first | exact (exe_fail hh2).elim | skip
  rename_i t hob
  obtain ⟨hf,hh3⟩:=exe_must hh2
  obtain ⟨as',l',is,hk',hr⟩:=doArgs_ok h ps us rest _ h2 hh3
  obtain ⟨hn,hk''⟩:=exe_must hk'
  obtain ⟨g,hd,rfl⟩:=h1
  simp only [Bool.not_eq_true'] at hn
  exact ⟨_,l',d::is,hk'',⟨t,hob,rfl,fit_WT _ _ hf⟩,hd,⟨g,rfl⟩,hasN_mem hn,hr⟩
 | .fn f::ps,u::us,vs,K,hv,hh=>by
  obtain ⟨v,rest,rfl,h1,h2⟩:=hv
  simp only [doArgs] at hh
  split at hh <;> first | exact (exe_fail hh).elim | skip
  rename_i g
  obtain ⟨hf,hh1⟩:=exe_must hh
  have hf:=Nat.eq_of_beq_eq_true hf
  subst hf
  obtain ⟨as',l',is,hk',hr⟩:=doArgs_ok h ps us rest _ h2 hh1
  exact ⟨_,l',is,hk',h1,hr⟩
theorem ARel_length:∀ {ps:List Pk} {vs:List Value} {xs:List AV} {is:List Nat} {l:List Nm},ARel C S θ w l ps vs xs is→xs.length=ps.length∧is.length=nIos ps
 | [],[],[],[],l,h=>⟨rfl,rfl⟩
 | .val s::ps,v::vs,x::xs,is,l,h=>by have:=ARel_length h.2.2; simp [this.1,nIos,this.2]
 | .io s::ps,v::vs,x::xs,d::is,l,h=>by have:=ARel_length h.2.2.2.2; simp [this.1,nIos,this.2]
 | .fn f::ps,v::vs,_::xs,is,l,h=>by have:=ARel_length h.2; simp [this.1,nIos,this.2]
theorem ARel_io:∀ {ps:List Pk} {vs:List Value} {xs:List AV} {is:List Nat} {l:List Nm},ARel C S θ w l ps vs xs is→∀ {q k:Nat} {s:Sh},ioAt ps q=some (k,s)→
  ∃ d t x g,is[q]? = some d∧xs[k]? = some x∧S.obj (.top d)=some (.box t)∧x=nrm s t∧WT s x∧θ (.top d)=some (.pointer (some ⟨g,0,none⟩))∧vs[k]? = some (.pointer (some ⟨g,0,none⟩))
 | [],[],[],[],l,h,q,k,s,hq=>by cases hq
 | .val s'::ps,v::vs,x::xs,is,l,h,q,k,s,hq=>by
  simp only [ioAt,Option.map_eq_some_iff] at hq
  obtain ⟨⟨k1,s1⟩,h1,h2⟩:=hq
  cases h2
  obtain ⟨d,t,x',g,r1,r2,r3⟩:=ARel_io h.2.2 h1
  exact ⟨d,t,x',g,r1,by simpa using r2,r3⟩
 | .fn s'::ps,v::vs,x::xs,is,l,h,q,k,s,hq=>by
  simp only [ioAt,Option.map_eq_some_iff] at hq
  obtain ⟨⟨k1,s1⟩,h1,h2⟩:=hq
  cases h2
  obtain ⟨d,t,x',g,r1,r2,r3⟩:=ARel_io h.2 h1
  exact ⟨d,t,x',g,r1,by simpa using r2,r3⟩
 | .io s'::ps,v::vs,x::xs,d::is,l,h,0,k,s,hq=>by
  cases hq
  obtain ⟨⟨t,h1,h2,h3⟩,h4,⟨g,rfl⟩,_⟩:=h
  exact ⟨d,t,x,g,rfl,rfl,h1,h2,h3,h4,rfl⟩
 | .io s'::ps,v::vs,x::xs,d::is,l,h,q+1,k,s,hq=>by
  simp only [ioAt,Option.map_eq_some_iff] at hq
  obtain ⟨⟨k1,s1⟩,h1,h2⟩:=hq
  cases h2
  obtain ⟨d',t,x',g,r1,r2,r3⟩:=ARel_io h.2.2.2.2 h1
  exact ⟨d',t,x',g,by simpa using r1,by simpa using r2,r3⟩
theorem ARel_nodup:∀ {ps:List Pk} {vs:List Value} {xs:List AV} {is:List Nat} {l:List Nm},ARel C S θ w l ps vs xs is→is.Nodup
 | [],[],[],[],l,h=>List.nodup_nil
 | .val s'::ps,v::vs,x::xs,is,l,h=>ARel_nodup h.2.2
 | .fn s'::ps,v::vs,x::xs,is,l,h=>ARel_nodup h.2
 | .io s'::ps,v::vs,x::xs,d::is,l,h=>List.nodup_cons.2 ⟨h.2.2.2.1,ARel_nodup h.2.2.2.2⟩
theorem ARel_slots {l:List Nm} {okc:Nat→Prop} {θ0:Nm→Option Value} (hθ:MemLe fs θ θ0) (hok:∀ b,okX C w S θ l b→okc b):∀ {ps:List Pk} {vs:List Value} {xs:List AV} {is:List Nat} {j:Nat},ARel C S θ w l ps vs xs is→(ps.all fun p=>inF fs p.sh)=true→
  (∀ (q k:Nat) (s:Sh) (d:Nat),ioAt ps q=some (k,s)→is[q]? = some d→θ0 (.top (par (j+k)))=θ (.top d))→∀ (ys:List AV),CVt w okc θ0 (iniSl ps j (xs++ys)) vs
 | [],[],[],[],j,h,hi,hp,ys=>by cases ys <;> rfl
 | .val s'::ps,v::vs,x::xs,is,j,h,hi,hp,ys=>by
  rw [List.all_cons,Bool.and_eq_true] at hi
  refine ⟨v,vs,rfl,CV_in hθ hok s' x v h.1 hi.1 h.2.1,ARel_slots hθ hok h.2.2 hi.2 (fun q k s d h1 h2=>?_) ys⟩
  have:=hp q (k+1) s d (by simp [ioAt,h1]) h2
  rwa [show j+(k+1)=j+1+k by omega] at this
 | .fn s'::ps,v::vs,x::xs,is,j,h,hi,hp,ys=>by
  rw [List.all_cons,Bool.and_eq_true] at hi
  refine ⟨v,vs,rfl,h.1,ARel_slots hθ hok h.2 hi.2 (fun q k s d h1 h2=>?_) ys⟩
  have:=hp q (k+1) s d (by simp [ioAt,h1]) h2
  rwa [show j+(k+1)=j+1+k by omega] at this
 | .io s'::ps,v::vs,x::xs,d::is,j,h,hi,hp,ys=>by
  rw [List.all_cons,Bool.and_eq_true] at hi
  obtain ⟨h1,h2,⟨g,rfl⟩,h4,h5⟩:=h
  have h0:=hp 0 0 s' d rfl rfl
  refine ⟨_,vs,rfl,⟨g,by rw [Nat.add_zero] at h0; rw [h0]; exact h2,rfl⟩,ARel_slots hθ hok h5 hi.2 (fun q k s d' h1 h2=>?_) ys⟩
  have:=hp (q+1) (k+1) s d' (by simp [ioAt,h1]) (by simpa using h2)
  rwa [show j+(k+1)=j+1+k by omega] at this
theorem doFams_ok:∀ (fs:List FamD) (K:List AV→Pg),(doFams fs K).exe n S=some S'→∃ xs,(K xs).exe n S=some S'∧xs.length=fs.length∧
  ∀ (k:Nat) (D:FamD),fs[k]? = some D→∃ F,S.fam D.f=some F∧F.e=D.e∧F.s=D.s∧F.ks=D.ks∧xs[k]? = some (.tup F.l)
 | [],K,hh=>⟨[],hh,rfl,fun k D h=>by simp at h⟩
 | D::r,K,hh=>by
  simp only [doFams] at hh
  replace hh:=exe_fam hh
  cases hF:S.fam D.f with
  | none=>rw [hF] at hh; exact (exe_fail hh).elim
  | some F=>
   rw [hF] at hh
   simp only at hh
   obtain ⟨hm,hh1⟩:=exe_must hh
   obtain ⟨xs,h1,h2,h3⟩:=doFams_ok r _ hh1
   simp only [Bool.and_eq_true] at hm
   refine ⟨.tup F.l::xs,h1,by simp [h2],fun k D' hk=>?_⟩
   cases k with
   | zero=>
    cases hk
    refine ⟨F,hF,Nat.eq_of_beq_eq_true hm.1,shEq_eq hm.2.1,?_,rfl⟩
    have:=hm.2.2
    cases h4:F.ks with
    | none=>cases h5:D.ks with
     | none=>rfl
     | some s=>rw [h4,h5] at this; cases this
    | some s=>cases h5:D.ks with
     | none=>rw [h4,h5] at this; cases this
     | some t=>rw [h4,h5] at this; rw [shEq_eq this]
   | succ k=>simpa using h3 k D' (by simpa using hk)
theorem putIos_ok:∀ (ps:List Pk) (is:List Nat) (xs:List AV) (p:Pg) (S:St),(putIos ps is xs p).exe n S=some S'→is.Nodup→∃ S2,p.exe n S2=some S'∧S2.tm=S.tm∧S2.fm=S.fm∧
  (∀ d,(∀ q,q<nIos ps→is[q]?≠some d)→S2.obj (.top d)=S.obj (.top d))∧∀ q k s,ioAt ps q=some (k,s)→∃ d x,is[q]? = some d∧xs[q]? = some x∧S2.obj (.top d)=some (.box (eta s x))
 | [],is,xs,p,S,hh,hn=>⟨S,hh,rfl,rfl,fun _ _=>rfl,fun q k s h=>by cases h⟩
 | .val t::ps,is,xs,p,S,hh,hn=>by
  have hh:(putIos ps is xs p).exe n S=some S':=by simpa [putIos] using hh
  obtain ⟨S2,h1,h2,h3,h4,h5⟩:=putIos_ok ps is xs p S hh hn
  refine ⟨S2,h1,h2,h3,h4,fun q k s h=>?_⟩
  simp only [ioAt,Option.map_eq_some_iff] at h
  obtain ⟨⟨k1,s1⟩,h6,h7⟩:=h
  cases h7
  exact h5 q k1 _ h6
 | .fn t::ps,is,xs,p,S,hh,hn=>by
  have hh:(putIos ps is xs p).exe n S=some S':=by simpa [putIos] using hh
  obtain ⟨S2,h1,h2,h3,h4,h5⟩:=putIos_ok ps is xs p S hh hn
  refine ⟨S2,h1,h2,h3,h4,fun q k s h=>?_⟩
  simp only [ioAt,Option.map_eq_some_iff] at h
  obtain ⟨⟨k1,s1⟩,h6,h7⟩:=h
  cases h7
  exact h5 q k1 _ h6
 | .io t::ps,[],xs,p,S,hh,hn=>(exe_fail hh).elim
 | .io t::ps,d::is,[],p,S,hh,hn=>(exe_fail hh).elim
 | .io t::ps,d::is,x::xs,p,S,hh,hn=>by
  simp only [putIos] at hh
  obtain ⟨hd,hn⟩:=List.nodup_cons.1 hn
  obtain ⟨S2,h1,h2,h3,h4,h5⟩:=putIos_ok ps is xs p _ (exe_setObj hh) hn
  refine ⟨S2,h1,h2,h3,fun e he=>?_,fun q k s h=>?_⟩
  ·rw [h4 e (fun q hq hq'=>he (q+1) (by simp [nIos]; omega) (by simpa using hq'))]
   refine obj_setObj_other _ _ _ _ (fun hne=>he 0 (by simp [nIos]) ?_)
   cases hne
   rfl
  ·cases q with
   | zero=>
    cases h
    refine ⟨d,x,rfl,rfl,?_⟩
    rw [h4 d (fun q hq hq'=>hd (List.mem_of_getElem? hq')),obj_setObj_same]
   | succ q=>
    simp only [ioAt,Option.map_eq_some_iff] at h
    obtain ⟨⟨k1,s1⟩,h6,h7⟩:=h
    cases h7
    obtain ⟨d',x',r1,r2,r3⟩:=h5 q k1 _ h6
    exact ⟨d',x',by simpa using r1,by simpa using r2,r3⟩
theorem putFams_ok:∀ (fs:List FamD) (xs:List AV) (p:Pg) (S:St),(putFams fs xs p).exe n S=some S'→nodupF fs=true→(∀ D∈fs,∃ F,S.fam D.f=some F∧F.e=D.e∧F.s=D.s∧F.ks=D.ks)→
  ∃ S2,p.exe n S2=some S'∧S2.tm=S.tm∧(∀ d,S2.obj (.top d)=S.obj (.top d))∧(∀ f,(∀ D∈fs,D.f≠f)→S2.fam f=S.fam f)∧
   ∀ (k:Nat) (D:FamD),fs[k]? = some D→∃ x,xs[k]? = some x∧S2.fam D.f=some ⟨D.e,D.s,D.ks,x.toElems⟩
 | [],xs,p,S,hh,hn,hF=>⟨S,hh,rfl,fun _=>rfl,fun _ _=>rfl,fun k D h=>by simp at h⟩
 | D::r,[],p,S,hh,hn,hF=>(exe_fail hh).elim
 | D::r,x::xs,p,S,hh,hn,hF=>by
  simp only [nodupF,Bool.and_eq_true,Bool.not_eq_true'] at hn
  simp only [putFams] at hh
  obtain ⟨F,hF0,he,hs,hks⟩:=hF D (by simp)
  have hne:∀ D'∈r,D'.f≠D.f:=fun D' hD' e=>by
   have:=List.any_eq_false.1 hn.1 D' hD'
   rw [e] at this
   simp at this
  obtain ⟨S2,h1,h2,h3,h4,h5⟩:=putFams_ok r xs p _ (exe_setFam hh) hn.2 (fun D' hD'=>by
   obtain ⟨F',q1,q2⟩:=hF D' (by simp [hD'])
   exact ⟨F',by rw [fam_setFam_other (hne D' hD')]; exact q1,q2⟩)
  refine ⟨S2,h1,h2,h3,fun f hf=>?_,fun k D' hk=>?_⟩
  ·rw [h4 f (fun D' hD'=>hf D' (by simp [hD'])),fam_setFam_other (fun e=>hf D (by simp) e.symm)]
  ·cases k with
   | zero=>
    cases hk
    refine ⟨x,rfl,?_⟩
    rw [h4 D.f hne,fam_setFam_same hF0,he,hs,hks]
   | succ k=>simpa using h5 k D' (by simpa using hk)
theorem putFamsR_ok (ro:Bool) (fs:List FamD) (xs:List AV) (p:Pg) (S:St) (hh:(putFamsR ro fs xs p).exe n S=some S') (hn:nodupF fs=true) (hF:∀ D∈fs,∃ F,S.fam D.f=some F∧F.e=D.e∧F.s=D.s∧F.ks=D.ks)
  (hro:ro=true→∀ (k:Nat) (D:FamD),fs[k]? = some D→∃ F,S.fam D.f=some F∧F.e=D.e∧F.s=D.s∧F.ks=D.ks∧xs[k]? = some (.tup F.l)) :
  ∃ S2,p.exe n S2=some S'∧S2.tm=S.tm∧(∀ d,S2.obj (.top d)=S.obj (.top d))∧(∀ f,(∀ D∈fs,D.f≠f)→S2.fam f=S.fam f)∧
   ∀ (k:Nat) (D:FamD),fs[k]? = some D→∃ x,xs[k]? = some x∧S2.fam D.f=some ⟨D.e,D.s,D.ks,x.toElems⟩:=by
 cases ro with
 | false=>exact putFams_ok fs xs p S hh hn hF
 | true=>
  refine ⟨S,hh,rfl,fun _=>rfl,fun _ _=>rfl,fun k D hk=>?_⟩
  obtain ⟨F,h1,h2,h3,h4,h5⟩:=hro rfl k D hk
  refine ⟨_,h5,?_⟩
  rw [h1,←h2,←h3,←h4]
  rfl
theorem run_callFunc {f : FuncId} {fn : Func} {args : Array Value} (hf : P.funcs[f]? = some fn) (hb : fn.body.isSome = true) (hn : fn.name ≠ "runtime.NumGoroutine") : (callFunc f args).run P w = .ok (.enter f args) w := by
 obtain ⟨c,hc⟩ : ∃ c,fn.body=some c:=Option.isSome_iff_exists.1 hb
 simp [callFunc,hf,hn,hc]
theorem put_defers (a:Act) (d:Option Tmp) (v:Value):(a.put d v).defers=a.defers:=by cases d <;> rfl
theorem resFin_ok {us:List AV} {vs:List Value} {v:Value} {ty:List TypeId} (hh:(resFin o us).exe n S=some S') (h:Rel C S θ a w) (hv:(ty.length=1∧vs=[v])∨(ty.length≠1∧v=.tuple vs.toArray)) (hl:us.length=ty.length)
  (hc:CVt w (okOf C w S θ) θ us vs):Rel C S' θ (a.put o.dst v) w:=by
 unfold resFin at hh
 split at hh
 ·rename_i u
  rcases hv with ⟨_,rfl⟩ | ⟨hn,_⟩
  ·obtain ⟨v',rest,e,h1,_⟩:=hc
   cases e
   exact put_ok' hh h h1
  ·exact (hn hl.symm).elim
 ·rename_i hne
  rcases hv with ⟨h1,rfl⟩ | ⟨_,rfl⟩
  ·rw [h1] at hl
   cases us with
   | nil=>simp at hl
   | cons u r=>cases r with
    | nil=>exact (hne u rfl).elim
    | cons=>simp at hl
  ·exact put_ok' hh h ⟨vs.toArray,rfl,hc⟩
theorem CVt_set {ok:Nat→Prop} {θ:Nm→Option Value} {x:AV} {u:Value}:∀ {us:List AV} {vs:List Value} {j:Nat},CVt w ok θ (us.set j .undef) vs→vs[j]? = some u→CV w ok θ x u→CVt w ok θ (us.set j x) vs
 | [],vs,j,h,hj,hx=>by simpa using h
 | y::us,vs,0,h,hj,hx=>by
  obtain ⟨v,rest,rfl,_,h2⟩:=h
  cases hj
  exact ⟨u,rest,rfl,hx,h2⟩
 | y::us,vs,j+1,h,hj,hx=>by
  obtain ⟨v,rest,rfl,h1,h2⟩:=h
  exact ⟨v,rest,rfl,h1,CVt_set (us:=us) h2 hj hx⟩
theorem CVt_in (hθ:MemLe fs θ θ') (hok:∀ b,ok b→ok' b):∀ {us:List AV} {vs:List Value},(∀ a∈us,a=.undef∨DataIn fs a)→CVt w ok θ us vs→CVt w ok' θ' us vs
 | [],vs,_,h=>h
 | x::us,vs,hw,h=>by
  obtain ⟨v,rest,rfl,h1,h2⟩:=h
  refine ⟨v,rest,rfl,?_,CVt_in hθ hok (fun a ha=>hw a (by simp [ha])) h2⟩
  rcases hw x (by simp) with rfl | ⟨s,hs,hi⟩
  ·trivial
  ·exact CV_in hθ hok s x v hs hi h1
end
end Go.Am
end
section
set_option linter.unusedVariables false
set_option linter.unusedSimpArgs false
namespace Go.Am
open Go.RowKit
theorem ioAt_some:∀ {ps:List Pk} {q:Nat},q<nIos ps→∃ k s,ioAt ps q=some (k,s)
 | [],q,h=>by simp [nIos] at h
 | .io s::ps,0,h=>⟨0,s,rfl⟩
 | .io s::ps,q+1,h=>by
  obtain ⟨k,s',h1⟩:=ioAt_some (ps:=ps) (q:=q) (by simp [nIos] at h; omega)
  exact ⟨k+1,s',by simp [ioAt,h1]⟩
 | .val s::ps,q,h=>by
  obtain ⟨k,s',h1⟩:=ioAt_some (ps:=ps) (q:=q) (by simpa [nIos] using h)
  exact ⟨k+1,s',by simp [ioAt,h1]⟩
 | .fn s::ps,q,h=>by
  obtain ⟨k,s',h1⟩:=ioAt_some (ps:=ps) (q:=q) (by simpa [nIos] using h)
  exact ⟨k+1,s',by simp [ioAt,h1]⟩
section
variable {C C' : Ctx} {S S' : St} {θ θ' : Nm→Option Value} {a:Act} {w w' : World} {n:Rp} {ok ok' : Nat→Prop} {P:Program} {o:Oper} {fs:List FamD}
noncomputable def thCall (ps:List Pk) (is:List Nat) (fs:List FamD) (θ:Nm→Option Value):Nm→Option Value:=open Classical in fun d=>match d with
 | .top e=>if h:∃ d,∃ q k s,ioAt ps q=some (k,s)∧is[q]? = some d∧e=par k then θ (.top h.choose) else none
 | .mem f i=>if ∃ D∈fs,D.f=f then θ (.mem f i) else none
theorem thCall_io {ps:List Pk} {is:List Nat} {q k:Nat} {s:Sh} {d:Nat} (h1:ioAt ps q=some (k,s)) (h2:is[q]? = some d):thCall ps is fs θ (.top (par k))=θ (.top d):=by
 have hh:∃ d,∃ q k' s,ioAt ps q=some (k',s)∧is[q]? = some d∧par k=par k':=⟨d,q,k,s,h1,h2,rfl⟩
 simp only [thCall]
 rw [dif_pos hh]
 obtain ⟨q',k',s',h3,h4,h5⟩:=hh.choose_spec
 have:=par_inj h5
 subst this
 have:=ioAt_inj h1 h3
 subst this
 rw [h2] at h4
 cases h4
 rfl
theorem thCall_top {ps:List Pk} {is:List Nat} {e:Nat} {v:Value} (h:thCall ps is fs θ (.top e)=some v):∃ q k s d,ioAt ps q=some (k,s)∧is[q]? = some d∧e=par k∧θ (.top d)=some v:=by
 simp only [thCall] at h
 split at h
 ·rename_i hh
  obtain ⟨q,k,s,h1,h2,h3⟩:=hh.choose_spec
  exact ⟨q,k,s,_,h1,h2,h3,h⟩
 ·cases h
theorem thCall_mem {ps:List Pk} {is:List Nat} {D:FamD} {i:Nat} (h:D∈fs):thCall ps is fs θ (.mem D.f i)=θ (.mem D.f i):=by
 simp only [thCall]
 rw [if_pos ⟨D,h,rfl⟩]
theorem thCall_mem' {ps:List Pk} {is:List Nat} {f i:Nat} {v:Value} (h:thCall ps is fs θ (.mem f i)=some v):(∃ D∈fs,D.f=f)∧θ (.mem f i)=some v:=by
 simp only [thCall] at h
 split at h
 ·rename_i hh; exact ⟨hh,h⟩
 ·cases h
mutual
theorem nrm_eta:∀ (s:Sh) (x:AV),nrm s (eta s x)=eta s x
 | .int k,x=>rfl
 | .bool,x=>rfl
 | .str,x=>rfl
 | .arr k n,x=>rfl
 | .fs k,x=>rfl
 | .nl k,x=>rfl
 | .fv s,x=>rfl
 | .pt f,x=>rfl
 | .mp f,x=>rfl
 | .agg l,x=>by simp only [eta,nrm,nrms_etas l 0 x]
theorem nrms_etas:∀ (l:List Sh) (i:Nat) (x:AV),nrms l (etas l i x)=etas l i x
 | [],i,x=>rfl
 | s::l,i,x=>by simp only [etas,nrms,nrm_eta s,nrms_etas l (i+1) x]
end
theorem OV_box_conv {A:Sh→Prop} (hc:∀ s x v,A s→WT s x→CV w ok θ x v→CV w ok' θ' x v) {d d' : Nm} {s:Sh} {t x:AV} (hA:A s) (h:OV C w ok θ d (.box t)) (hx:x=nrm s t) (hw:WT s x) (hd:∀ v,θ d=some v→θ' d' = some v)
  (hM:∀ g,θ d=some (.pointer (some ⟨g,0,none⟩))→C'.M g):OV C' w ok' θ' d' (.box (eta s x)):=by
 obtain ⟨g,e,fr,v,h1,h2,h3,h4,h5,h6⟩:=h
 rw [eta_of_WT s x hw]
 refine ⟨g,e,fr,v,hd _ h1,h2,h3,hc s x v hA hw (by rw [hx]; exact CV_nrm s t v h4),?_,hM g h1⟩
 rw [hx,nrm_width]
 exact h5
theorem OV_at_conv {A:Sh→Prop} (hc:∀ s x v,A s→WT s x→CV w ok θ x v→CV w ok' θ' x v) {d d' : Nm} {F:Fam} {i:Nat} (hA:A F.s) (hK:∀ ks,F.ks=some ks→A ks) (h:OV C w ok θ d (F.at i)) (hd:∀ v,θ d=some v→θ' d' = some v)
  (hM:∀ g v,θ d=some v→blk v=some g→C'.M g):OV C' w ok' θ' d' (F.at i):=by
 unfold Fam.at at h ⊢
 cases hks:F.ks with
 | none=>
  rw [hks] at h
  obtain ⟨g,e,fr,v,h1,h2,h3,h4,h5,h6⟩:=h
  exact ⟨g,e,fr,v,hd _ h1,h2,h3,hc F.s _ v hA (eta_WT _ _) h4,h5,hM g _ h1 rfl⟩
 | some ks=>
  rw [hks] at h
  obtain ⟨g,ents,c,h1,h2,h3,h4,h5⟩:=h
  refine ⟨g,ents,c,hd _ h1,h2,h3,?_,hM g _ h1 rfl⟩
  have:∀ (es:List AV) (ms:List MapEntry),MEs w ok θ ks F.s es ms→MEs w ok' θ' ks F.s es ms:=by
   intro es
   induction es with
   | nil=>intro ms h; cases ms with | nil=>trivial | cons=>exact h.elim
   | cons e es ih=>
    intro ms h
    cases ms with
    | nil=>exact h.elim
    | cons m ms=>
     obtain ⟨⟨k,v,q1,q2,q3,q4,q5⟩,q6⟩:=h
     exact ⟨⟨k,v,q1,q2,hc ks k _ (hK ks hks) q2 q3,q4,hc F.s v _ hA q4 q5⟩,ih ms q6⟩
  exact this _ _ h4
theorem at_own (F:Fam) (i:Nat):(F.at i).isOwn=true:=by
 unfold Fam.at
 split <;> rfl
theorem OwnRow.monoM {M M' : Nat→Prop} (hM:∀ b,M b→M' b) {e:TypeId} {size m:Nat} {v:Value} {cs:List Value} (h:OwnRow w M e size v m cs):OwnRow w M' e size v m cs:=by
 refine ⟨h.1,?_⟩
 rcases h.2 with q | ⟨g,cap,cur,fr,q1,q2,q3⟩
 ·exact .inl q
 ·exact .inr ⟨g,cap,cur,fr,q1,hM _ q2,q3⟩
theorem OwnRow.self {M:Nat→Prop} {e:TypeId} {size m:Nat} {v:Value} {cs:List Value} (h:OwnRow w M e size v m cs):OwnRow w (fun b=>blk v=some b) e size v m cs:=by
 refine ⟨h.1,?_⟩
 rcases h.2 with q | ⟨g,cap,cur,fr,rfl,q2,q3⟩
 ·exact .inl q
 ·exact .inr ⟨g,cap,cur,fr,rfl,rfl,q3⟩
theorem opRow_ok {c:Cal} {e:TypeId} {k:IntKind} {f:FuncId} {args:Array Value} {us:List AV} (hs:SoundRow P C.E f c e k)
  (hent:(callFunc f args).run P w=.ok (.enter f args) w→(execOp a.eval o).run P w=.ok (.enter f args) w) (h:Rel C S θ a w) (hu:CVt w (okOf C w S θ) θ us args.toList)
  (hh:(opRow c e k o us).exe n S=some S') (K:Act→World→Prop) (Q:Exit→Act→World→Prop)
  (hK:∀ a' w' θ',Rel C S' θ' a' w'→a'.defers=a.defers→K a' w'):o.wp P a w K Q:=by
 unfold opRow at hh
 split at hh <;> first | exact (exe_fail hh).elim | skip
 rename_i dd u r hdd
 obtain ⟨hsc,hh⟩:=exe_must hh
 obtain ⟨v,vs,hvs,hv,hr⟩:=hu
 obtain ⟨⟨fn,hf1,hf2,hf3⟩,hcall⟩:=hs
 have hargs:args=(v::vs).toArray:=by rw [←hvs]
 have hrun:=hent (run_callFunc hf1 hf2 hf3)
 unfold Oper.wp
 rw [hrun,Oper.upon_enter,hargs]
 split at hh
 ·
  obtain ⟨q,hF,hh⟩:=exe_call hh
  obtain ⟨_,hh⟩:=exe_chk hh
  replace hh:=exe_obj hh
  cases hq:S.obj (.top dd) with
  | some y=>rw [hq] at hh; exact (exe_fail hh).elim
  | none=>
   rw [hq] at hh
   have hS:=exe_done (exe_setSlot (exe_setObj hh))
   have hv:v=.slice none 0 0:=hv
   subst hv
   refine Calls.mono (hcall n.n [] r q hF hsc C S θ a w _ vs rfl h ⟨by simp [ints],.inl ⟨rfl,rfl⟩⟩ (fun ad n c e=>by cases e) ⟨none,0,0,rfl⟩ (fun b hb=>by cases hb) hr) ?_
   rintro ed w' ⟨v',ys,rfl,rfl,ho,⟨A,n1,c1,hform⟩,hg⟩
   dsimp only
   rw [hS] at hK
   have hw:Later w w':=⟨⟨hg.os,hg.tape,hg.output.1,hg.size,fun b hb=>hg.far b hb (by simp [blk])⟩,hg.output.2⟩
   have hrel:=h.born (b:=.row true e k ys) (v:=v') hq hw (fun g hgb=>by rcases hg.blk g hgb with hh | hh; exact (by cases hh); exact hh) hg.base
    (fun ok' hk=>⟨v',upd_self _ _ _,fun _=>ho.monoM (fun b hb=>by
     rcases hb with hb | hb
     ·cases hb
     ·exact .inl (Nat.le_trans h.size hb)),fun h=>by cases h⟩)
   refine hK _ w' (upd θ (.top dd) v') ?_ (put_defers _ _ _)
   rw [hdd]
   exact hrel.put ⟨upd_self _ _ _,A,n1,c1,hform⟩
 ·rename_i d
  obtain ⟨hd,A0,m0,c0,hsv⟩:=hv
  replace hh:=exe_obj hh
  split at hh <;> first | exact (exe_fail hh).elim | skip
  rename_i ob hob
  split at hh <;> first | exact (exe_fail hh).elim | skip
  rename_i e' xs has
  obtain ⟨he,hh2⟩:=exe_must hh
  clear hh
  have he:=Nat.eq_of_beq_eq_true he
  subst he
  obtain ⟨q,hF,hh3⟩:=exe_call hh2
  clear hh2
  obtain ⟨_,hh4⟩:=exe_chk hh3
  clear hh3
  have hh5:=exe_obj hh4
  clear hh4
  cases hq:S.obj (.top dd) with
  | some y=>rw [hq] at hh5; exact (exe_fail hh5).elim
  | none=>
   rw [hq] at hh5
   obtain ⟨hisO,v1,k1,k2⟩:=asRow_ok h hob (h.has_of hd) has
   obtain ⟨dt,rfl,hh8⟩:=wrT_top hh5
   have hS:=exe_done (exe_setSlot (exe_setObj hh8))
   rw [hd] at k1
   cases k1
   refine Calls.mono (hcall n.n xs r q hF hsc C S θ a w v vs rfl h k2.self (h.base _ _ hd) ⟨A0,m0,c0,hsv⟩ (fun b hb hok=>hok.2.2 ⟨_,_,v,hob,hisO,hd,hb⟩) hr) ?_
   rintro ed w' ⟨v',ys,rfl,rfl,ho,⟨A,n1,c1,hform⟩,hg⟩
   dsimp only
   rw [hS] at hK
   have hrel:=h.moved (ob:=.row true e k ys) hob hisO hd hq hg
    (fun ok' hk=>⟨v',upd_self _ _ _,fun _=>ho.monoM (fun b hb=>by
     rcases hb with hb | hb
     ·exact (k2.lt hb).2
     ·exact .inl (Nat.le_trans h.size hb)),fun h=>by cases h⟩)
   refine hK _ w' (upd θ (.top dd) v') ?_ (put_defers _ _ _)
   rw [hdd]
   exact hrel.put ⟨upd_self _ _ _,A,n1,c1,hform⟩
 ·exact (exe_fail hh).elim
theorem opCall_ok {cal:FuncId→Option Cal} (hcal:∀ f c,cal f=some c→SoundCal P C.E f c) {f:FuncId} {args:Array Value} {us:List AV}
  (hent:(callFunc f args).run P w=.ok (.enter f args) w→(execOp a.eval o).run P w=.ok (.enter f args) w) (h:Rel C S θ a w) (hu:CVt w (okOf C w S θ) θ us args.toList)
  (hh:(opCall P cal o f us).exe n S=some S') (K:Act→World→Prop) (Q:Exit→Act→World→Prop)
  (hK:∀ a' w' θ',Rel C S' θ' a' w'→a'.defers=a.defers→K a' w'):o.wp P a w K Q:=by
 unfold opCall at hh
 split at hh <;> first | exact (exe_fail hh).elim | skip
 rename_i c hc
 have hsc:=hcal f c hc
 unfold SoundCal at hsc
 split at hh
 ·rename_i ek hek
  rw [hek] at hsc
  exact opRow_ok hsc hent h hu hh K Q hK
 rename_i hek
 rw [hek] at hsc
 obtain ⟨hin,hh0⟩:=exe_must hh
 clear hh
 rw [Bool.and_eq_true] at hin
 obtain ⟨hin,hty⟩:=hin
 obtain ⟨as',l,is,hh1,hA⟩:=doArgs_ok h _ _ _ _ hu hh0
 clear hh0
 obtain ⟨hlall,hh2⟩:=exe_must hh1
 clear hh1
 obtain ⟨xs,hh3,hxl,hxs⟩:=doFams_ok _ _ hh2
 clear hh2
 obtain ⟨r0,hF,hh4'⟩:=exe_call hh3
 clear hh3
 obtain ⟨hrl,hh4⟩:=exe_chk hh4'
 clear hh4'
 rw [spell_eq (Nat.eq_of_beq_eq_true hrl)] at hh4
 have hfull:c.full (as'++xs) r0=r0++famsR c.ro xs:=by
  unfold Cal.full
  rw [←(ARel_length hA).1,List.drop_left]
 have hrd:c.ro=true→(c.full (as'++xs) r0).drop (c.ty.length+nIos c.ps)=xs:=fun hro=>by
  rw [hfull,hro]
  have:r0.length=c.ty.length+nIos c.ps:=by
   have:=Nat.eq_of_beq_eq_true hrl
   rw [hro] at this
   simpa [nFams] using this
  rw [←this]
  exact List.drop_left
 rw [←hfull] at hh4
 generalize hr0:c.full (as'++xs) r0=r at hh4 hrd
 obtain ⟨⟨fn,hf1,hf2,hf3⟩,hflat,hs⟩:=hsc
 simp only [allIn,Bool.and_eq_true] at hin
 obtain ⟨hinP,hinF,hnd⟩:=hin
 obtain ⟨hal,hil⟩:=ARel_length hA
 have hisn:=ARel_nodup hA
 let Dp:Nm→Prop:=fun d=>match d with | .top e=>e∈is | .mem f i=>∃ D∈c.fs,D.f=f
 have hlD:∀ d∈l,¬ Dp d:=by
  intro d hd
  have:=List.all_eq_true.1 hlall d hd
  cases d with
  | top e=>
   simp only [Bool.not_eq_true'] at this
   exact hasN_mem this
  | mem f i=>cases this
 let θ0:=thCall c.ps is c.fs θ
 let HP:=c.hp (as'++xs)
 have hfams:∀ D∈c.fs,∃ F,S.fam D.f=some F∧F.e=D.e∧F.s=D.s∧F.ks=D.ks∧HP.fam D.f=some F:=by
  intro D hD
  obtain ⟨k,hk⟩:=List.getElem?_of_mem hD
  obtain ⟨F,h1,h2,h3,h4,h5⟩:=hxs k D hk
  refine ⟨F,h1,h2,h3,h4,?_⟩
  have:=look_iniFm hnd hk h5
  show lookF (iniFm c.fs ((as'++xs).drop c.ps.length)) D.f=some F
  rw [show (as'++xs).drop c.ps.length=xs by rw [←hal,List.drop_left],this,←h2,←h3,←h4]
  rfl
 have hpfam:∀ f F,HP.fam f=some F→∃ D∈c.fs,D.f=f:=by
  intro f F hF
  obtain ⟨k,D,x,h1,_,h3,_⟩:=iniFm_look hF
  exact ⟨D,List.mem_of_getElem? h1,h3⟩
 have hptop:∀ e ob,HP.obj (.top e)=some ob→∃ q k s d t x g,ioAt c.ps q=some (k,s)∧is[q]? = some d∧e=par k∧S.obj (.top d)=some (.box t)∧x=nrm s t∧WT s x∧ob=.box (eta s x)∧θ (.top d)=some (.pointer (some ⟨g,0,none⟩)):=by
  intro e ob he
  obtain ⟨k,s,x,h1,h2,h3,h4⟩:=look_iniOb he
  obtain ⟨q,_,hq⟩:=ioAt_of h1
  obtain ⟨d,t,x',g,r1,r2,r3,r4,r5,r6,_⟩:=ARel_io hA hq
  have hx:x=x':=by
   rw [List.getElem?_append_left (List.getElem?_eq_some_iff.1 r2).1,r2] at h2
   exact (Option.some.inj h2).symm
  subst hx
  exact ⟨q,k,s,d,t,x,g,hq,r1,by simpa using h3,r3,r4,r5,h4,r6⟩
 have hpio:∀ q k s,ioAt c.ps q=some (k,s)→∃ d t x g,is[q]? = some d∧S.obj (.top d)=some (.box t)∧x=nrm s t∧WT s x∧HP.obj (.top (par k))=some (.box (eta s x))∧θ (.top d)=some (.pointer (some ⟨g,0,none⟩)):=by
  intro q k s hq
  obtain ⟨d,t,x,g,r1,r2,r3,r4,r5,r6,_⟩:=ARel_io hA hq
  refine ⟨d,t,x,g,r1,r3,r4,r5,?_,r6⟩
  have:=iniOb_look (j:=0) (ioAt_get hq) (as:=as'++xs) (x:=x) (by rw [List.getElem?_append_left (List.getElem?_eq_some_iff.1 r2).1]; exact r2)
  rw [Nat.zero_add] at this
  exact this
 have hown:∀ b,OwnB HP θ0 b→∃ d ob v,Dp d∧S.obj d=some ob∧ob.isOwn=true∧θ d=some v∧blk v=some b:=by
  rintro b ⟨d,ob,v,h1,h2,h3,h4⟩
  cases d with
  | top e=>
   obtain ⟨q,k,s,d,t,x,g,k1,k2,k3,k4,_,_,_,k8⟩:=hptop e ob h1
   subst k3
   have:θ0 (.top (par k))=θ (.top d):=thCall_io k1 k2
   rw [this] at h3
   exact ⟨.top d,.box t,v,List.mem_of_getElem? k2,k4,rfl,h3,h4⟩
  | mem f i=>
   obtain ⟨F,hF1,rfl⟩:=fam_of_obj h1
   obtain ⟨D,hD,rfl⟩:=hpfam f F hF1
   obtain ⟨F',g1,_,_,_,g5⟩:=hfams D hD
   rw [hF1] at g5
   cases g5
   have:θ0 (.mem D.f i)=θ (.mem D.f i):=thCall_mem hD
   rw [this] at h3
   exact ⟨.mem D.f i,F.at i,v,⟨D,hD,rfl⟩,obj_mem g1,at_own _ _,h3,h4⟩
 have hown' : ∀ d ob v b,Dp d→S.obj d=some ob→ob.isOwn=true→θ d=some v→blk v=some b→OwnB HP θ0 b:=by
  intro d ob v b hD h1 h2 h3 h4
  cases d with
  | top e=>
   obtain ⟨q,hq⟩:=List.getElem?_of_mem (show e∈is from hD)
   obtain ⟨k,s,hio⟩:=ioAt_some (ps:=c.ps) (q:=q) (by rw [←hil]; exact (List.getElem?_eq_some_iff.1 hq).1)
   obtain ⟨d',t,x,g,r1,r2,r3,r4,r5,r6⟩:=hpio q k s hio
   rw [hq] at r1
   cases r1
   exact ⟨.top (par k),_,v,r5,rfl,by rw [show θ0 (.top (par k))=θ (.top e) from thCall_io hio hq]; exact h3,h4⟩
  | mem f i=>
   obtain ⟨D,hD',rfl⟩:=(show ∃ D∈c.fs,D.f=f from hD)
   obtain ⟨F',g1,_,_,_,g5⟩:=hfams D hD'
   rw [obj_mem g1] at h1
   cases h1
   exact ⟨.mem D.f i,F'.at i,v,obj_mem g5,at_own _ _,by rw [show θ0 (.mem D.f i)=θ (.mem D.f i) from thCall_mem hD']; exact h3,h4⟩
 let Fb:Nat→Prop:=fun b=>C.F b∨∃ d ob v,d ∉ l∧¬ Dp d∧S.obj d=some ob∧ob.isOwn=true∧θ d=some v∧blk v=some b
 have hFb:∀ b,Fb b→b<w.heap.size:=by
  rintro b (hb | ⟨d,ob,v,_,_,h1,h2,h3,h4⟩)
  ·exact Nat.lt_of_lt_of_le (C.fb b hb) h.size
  ·exact ((h.ob h1 h3).lt h2 h3 h4).1
 have hIb:∀ b,OwnB HP θ0 b→b<w.heap.size∧C.M b:=by
  intro b hb
  obtain ⟨d,ob,v,_,h1,h2,h3,h4⟩:=hown b hb
  exact (h.ob h1 h3).lt h2 h3 h4
 have hiF:∀ b,OwnB HP θ0 b→¬ Fb b:=by
  intro b hb hF
  rcases hF with hF | ⟨d',ob',v',_,hnD,h1',h2',h3',h4'⟩
  ·exact C.M_F (hIb b hb).2 hF
  ·obtain ⟨d,ob,v,hD,h1,h2,h3,h4⟩:=hown b hb
   exact h.sep d d' ob ob' v v' b h1 h1' h2 h2' (fun e=>hnD (e ▸ hD)) h3 h3' h4 h4'
 let C0:Ctx:={ w0:=w,I:=OwnB HP θ0,F:=Fb,E:=C.E,ib:=fun b hb=>(hIb b hb).1,fb:=hFb,gd:=C.gd,iF:=hiF }
 have hokX:∀ b,okX C w S θ l b→okOf C0 w HP θ0 b:=by
  intro b hb
  refine ⟨hb.1,?_,?_⟩
  ·rintro (hF | ⟨d,ob,v,h1,_,h2⟩)
   ·exact hb.2.1 hF
   ·exact hb.2.2 ⟨d,ob,v,h1,h2⟩
  ·intro hB
   obtain ⟨d,ob,v,hD,h2⟩:=hown b hB
   exact hb.2.2 ⟨d,ob,v,fun hl=>hlD d hl hD,h2⟩
 have hok0:∀ b,okOf C w S θ b→okOf C0 w HP θ0 b:=fun b hb=>hokX b (okX_of_ok hb)
 have hmem0:MemLe c.fs θ θ0:=fun D hD i x hx=>by rw [show θ0 (.mem D.f i)=θ (.mem D.f i) from thCall_mem hD]; exact hx
 have hinS:∀ q k s,ioAt c.ps q=some (k,s)→inF c.fs s=true:=fun q k s hq=>List.all_eq_true.1 hinP (.io s) (List.mem_of_getElem? (ioAt_get hq))
 have hinD:∀ D∈c.fs,inF c.fs D.s=true∧∀ ks,D.ks=some ks→inF c.fs ks=true:=fun D hD=>by
  have:=List.all_eq_true.1 hinF D hD
  unfold famIn at this
  rw [Bool.and_eq_true] at this
  refine ⟨this.1,fun ks hks=>?_⟩
  have h2:=this.2
  rw [hks] at h2
  exact h2
 have conv0:∀ s x v,inF c.fs s=true→WT s x→CV w (okOf C w S θ) θ x v→CV w (okOf C0 w HP θ0) θ0 x v:=fun s x v hi hw hv=>CV_in hmem0 hok0 s x v hw hi hv
 have hrel0:HRel C0 (okOf C0 w HP θ0) HP θ0 w:=by
  refine ⟨fun d ob hhas hd=>?_,fun d hd=>?_,fun d d' ob ob' v v' b h1 h2 h3 h4 hne h5 h6 h7 h8=>?_,rfl,rfl,⟨rfl,.inr trivial⟩,Nat.le_refl _,fun _ _ _=>rfl,fun d v hv=>?_⟩
  ·cases d with
   | top e=>
    obtain ⟨q,k,s,d,t,x,g,k1,k2,k3,k4,k5,k6,k7,k8⟩:=hptop e ob hd
    subst k3 k7
    have ht:θ0 (.top (par k))=θ (.top d):=thCall_io k1 k2
    refine OV_box_conv (A:=fun s=>inF c.fs s=true) conv0 (hinS q k s k1) (h.ob k4 k8) k5 k6 (fun v hv=>by rw [ht]; exact hv) (fun g' hg'=>.inr ?_)
    exact hown' (.top d) _ _ g' (List.mem_of_getElem? k2) k4 rfl hg' rfl
   | mem f i=>
    obtain ⟨F,hF1,rfl⟩:=fam_of_obj hd
    obtain ⟨D,hD,rfl⟩:=hpfam f F hF1
    obtain ⟨F',g1,g2,g3,g4,g5⟩:=hfams D hD
    rw [hF1] at g5
    cases g5
    have ht:θ0 (.mem D.f i)=θ (.mem D.f i):=thCall_mem hD
    have hhS:S.has (.mem D.f i):=by
     obtain ⟨F2,q1,q2⟩:=hhas
     rw [hF1] at q1
     cases q1
     exact ⟨F,g1,q2⟩
    refine OV_at_conv (A:=fun s=>inF c.fs s=true) conv0 (by rw [g3]; exact (hinD D hD).1) (fun ks hks=>(hinD D hD).2 ks (by rw [←g4]; exact hks)) (h.objs _ _ hhS (obj_mem g1)) (fun v hv=>by rw [ht]; exact hv) (fun g v hv hb=>.inr ?_)
    exact hown' (.mem D.f i) _ v g ⟨D,hD,rfl⟩ (obj_mem g1) (at_own _ _) hv hb
  ·cases hv:θ0 d with
   | none=>rfl
   | some v=>
    exfalso
    cases d with
    | top e=>
     obtain ⟨q,k,s,d,h1,h2,h3,h4⟩:=thCall_top hv
     subst h3
     obtain ⟨_,_,_,_,_,_,_,_,h5,_⟩:=hpio q k s h1
     exact hd (has_top h5)
    | mem f i=>
     obtain ⟨⟨D,hD,rfl⟩,h2⟩:=thCall_mem' hv
     obtain ⟨F',g1,_,_,_,g5⟩:=hfams D hD
     obtain ⟨F2,q1,q2⟩:=h.has_of h2
     rw [g1] at q1
     cases q1
     exact hd ⟨F',g5,q2⟩
  ·
   have find:∀ d ob v,HP.obj d=some ob→θ0 d=some v→∃ e ob',S.obj e=some ob'∧ob'.isOwn=true∧θ e=some v∧(match d with | .top x=>∃ q k s y,ioAt c.ps q=some (k,s)∧is[q]? = some y∧x=par k∧e=.top y | .mem f i=>e=.mem f i):=by
    intro d ob v h1 h3
    cases d with
    | top e=>
     obtain ⟨q,k,s,d,t,x,g,k1,k2,k3,k4,_,_,_,k8⟩:=hptop e ob h1
     have hq:=h3
     rw [k3,show θ0 (.top (par k))=θ (.top d) from thCall_io k1 k2] at hq
     exact ⟨.top d,_,k4,rfl,hq,q,k,s,d,k1,k2,k3,rfl⟩
    | mem f i=>
     obtain ⟨F,hF1,rfl⟩:=fam_of_obj h1
     obtain ⟨D,hD,rfl⟩:=hpfam f F hF1
     obtain ⟨F',g1,_,_,_,g5⟩:=hfams D hD
     rw [hF1] at g5
     cases g5
     have hq:=h3
     rw [show θ0 (.mem D.f i)=θ (.mem D.f i) from thCall_mem hD] at hq
     exact ⟨.mem D.f i,_,obj_mem g1,at_own _ _,hq,rfl⟩
   obtain ⟨e,oe,q1,q2,q3,q4⟩:=find d ob v h1 h5
   obtain ⟨e',oe',q5,q6,q7,q8⟩:=find d' ob' v' h2 h6
   refine h.sep e e' oe oe' v v' b q1 q5 q2 q6 (fun ee=>hne ?_) q3 q7 h7 h8
   subst ee
   cases d with
   | top x=>
    obtain ⟨q,k,s,y,r1,r2,r3,rfl⟩:=q4
    cases d' with
    | top x'=>
     obtain ⟨q',k',s',y',r1',r2',r3',e2⟩:=q8
     cases e2
     have:q=q':=by
      exact (List.getElem?_inj (List.getElem?_eq_some_iff.1 r2).1 hisn).1 (by rw [r2,r2'])
     subst this
     rw [r1] at r1'
     cases r1'
     rw [r3,r3']
    | mem f i=>cases q8
   | mem f i=>
    cases d' with
    | top x'=>obtain ⟨_,_,_,_,_,_,_,e2⟩:=q8; subst e2; cases q4
    | mem f' i'=>rw [←q4,←q8]
  ·cases d with
   | top e=>
    obtain ⟨q,k,s,d,h1,h2,h3,h4⟩:=thCall_top hv
    exact h.base _ _ h4
   | mem f i=>exact h.base _ _ (thCall_mem' hv).2
 have hcalls:=hs n.n (as'++xs) r0 hF C0 args θ0 rfl (fun b=>Iff.rfl) hrel0
  (ARel_slots hmem0 hokX hA hinP (fun q k s d h1 h2=>by rw [Nat.zero_add]; exact thCall_io h1 h2) xs) (by
   intro g t hg
   obtain ⟨s,hst,hsi⟩:=C.gd g t hg
   obtain ⟨ad,u,e,hok,hu',hcl⟩:=h.globs g t hg
   exact ⟨ad,u,e,hok0 _ hok,CV_in (fs:=[]) (fun D hD=>by cases hD) hok0 s t u hst hsi hu',hcl⟩)
 clear hs
 unfold Oper.wp
 rw [hent (run_callFunc hf1 hf2 hf3),Oper.upon_enter]
 refine hcalls.mono ?_
 rintro e w' ⟨v,θ1,rfl,hmono,hlen,vs,hvs,hres⟩
 rw [hr0] at hlen hres
 simp only
 let HQ:=c.hq r
 have hmono:∀ d x,θ0 d=some x→θ1 d=some x:=hmono
 let fin:Pg:=putIos c.ps is (r.drop c.ty.length) (putFamsR c.ro c.fs (r.drop (c.ty.length+nIos c.ps)) (resPut P o c.ty c.own (c.res r)))
 have hfr:∃ S1,Rel C S1 θ a w∧fin.exe n S1=some S'∧(∀ d,S.has d↔S1.has d)∧(∀ d,d ∉ l→S1.obj d=S.obj d)∧S1.fm=S.fm∧(c.esc=true→∀ b,okX C w S θ l b→okOf C w S1 θ b)∧(c.esc=false→S1=S):=by
  cases hesc:c.esc with
  | true=>
   rw [hesc] at hh4
   obtain ⟨S1,k1,k2,k3,k4,k5,k6,k7,k8⟩:=freezeL_ok l h hh4
   exact ⟨S1,k1,k2,k5,k7,k8,fun _=>k3,fun h=>by cases h⟩
  | false=>
   rw [hesc] at hh4
   exact ⟨S,h,hh4,fun _=>Iff.rfl,fun _ _=>rfl,rfl,(fun h=>by cases h),fun _=>rfl⟩
 obtain ⟨S1,h1,hh5,hhas1,hobj1,hfm1,hesc1,hesc2⟩:=hfr
 clear hh4
 obtain ⟨S2,hh6,htm2,hfm2,hobj2,hios⟩:=putIos_ok _ _ _ _ _ hh5 hisn
 obtain ⟨S3,hh7,htm3,hobj3,hfam3,hfams3⟩:=putFamsR_ok _ _ _ _ _ hh6 hnd (fun D hD=>by
  obtain ⟨F,q1,q2,q3,q4,_⟩:=hfams D hD
  exact ⟨F,by unfold St.fam; rw [hfm2,hfm1]; exact q1,q2,q3,q4⟩) (fun hro k D hk=>by
  obtain ⟨F,q1,q2,q3,q4,q5⟩:=hxs k D hk
  rw [hrd hro]
  exact ⟨F,by unfold St.fam; rw [hfm2,hfm1]; exact q1,q2,q3,q4,q5⟩)
 clear hh5 hh6
 have hfamS:∀ f,S1.fam f=S.fam f:=fun f=>by unfold St.fam; rw [hfm1]
 have hfamS2:∀ f,S2.fam f=S.fam f:=fun f=>by unfold St.fam; rw [hfm2,hfm1]
 have hout3:∀ d,¬ Dp d→S3.obj d=S1.obj d∧(S3.has d↔S1.has d):=by
  intro d hD
  cases d with
  | top e=>
   have:S3.obj (.top e)=S1.obj (.top e):=by
    rw [hobj3,hobj2]
    intro q _ hq
    exact hD (List.mem_of_getElem? hq)
   exact ⟨this,by show S3.obj (.top e)≠none↔S1.obj (.top e)≠none; rw [this]⟩
  | mem f i=>
   have hf:S3.fam f=S1.fam f:=by
    rw [hfam3 f (fun D hD' e=>hD ⟨D,hD',e⟩),hfamS2,hfamS]
   have hf' : lookF S3.fm f=lookF S1.fm f:=hf
   exact ⟨by simp only [St.obj,hf'],by simp only [St.has,hf]⟩
 let θ2:Nm→Option Value:=open Classical in fun d=>match d with | .top e=>θ (.top e) | .mem f i=>if ∃ D∈c.fs,D.f=f then θ1 (.mem f i) else θ (.mem f i)
 have hθ2m:∀ D∈c.fs,∀ i,θ2 (.mem D.f i)=θ1 (.mem D.f i):=fun D hD i=>by
  simp only [θ2]
  rw [if_pos ⟨D,hD,rfl⟩]
 have hθ2o:∀ d,¬ Dp d→θ2 d=θ d:=fun d hD=>by
  cases d with
  | top e=>rfl
  | mem f i=>
   simp only [θ2]
   rw [if_neg hD]
 have hnm2:∀ d x,θ d=some x→θ2 d=some x:=by
  intro d x hx
  by_cases hD:Dp d
  ·cases d with
   | top e=>exact hx
   | mem f i=>
    obtain ⟨D,hD',rfl⟩:=(show ∃ D∈c.fs,D.f=f from hD)
    rw [hθ2m D hD' i]
    exact hmono _ _ (by rw [show θ0 (.mem D.f i)=θ (.mem D.f i) from thCall_mem hD']; exact hx)
  ·rw [hθ2o d hD]
   exact hx
 have back:∀ d,Dp d→∃ e,(∀ x,θ2 d=some x→θ1 e=some x)∧(∀ x,θ1 e=some x→θ2 d=some x)∧HQ.obj e=S3.obj d∧(HQ.has e↔S3.has d)∧(∃ ob,S3.obj d=some ob∧ob.isOwn=true)∧
   (match d with | .top y=>∃ q k s,ioAt c.ps q=some (k,s)∧is[q]? = some y∧e=.top (par k) | .mem f i=>e=.mem f i):=by
  intro d hD
  cases d with
  | top y=>
   obtain ⟨q,hq⟩:=List.getElem?_of_mem (show y∈is from hD)
   obtain ⟨k,s,hio⟩:=ioAt_some (ps:=c.ps) (q:=q) (by rw [←hil]; exact (List.getElem?_eq_some_iff.1 hq).1)
   obtain ⟨d',x,r1,r2,r3⟩:=hios q k s hio
   rw [hq] at r1
   cases r1
   have e1:HQ.obj (.top (par k))=some (.box (eta s x)):=by
    have:=look_finOb (j:=0) hio r2
    rw [Nat.zero_add] at this
    exact this
   have e2:S3.obj (.top y)=some (.box (eta s x)):=by rw [hobj3]; exact r3
   obtain ⟨d2,t,x2,g,z1,z2,z3,z4,z5,z6⟩:=hpio q k s hio
   rw [hq] at z1
   cases z1
   have e3:θ0 (.top (par k))=θ (.top y):=thCall_io hio hq
   have e4:θ1 (.top (par k))=θ (.top y):=by rw [z6]; exact hmono _ _ (by rw [e3]; exact z6)
   exact ⟨.top (par k),fun x hx=>by rw [e4]; exact hx,fun x hx=>by rw [e4] at hx; exact hx,by rw [e1,e2],⟨fun _=>has_top e2,fun _=>has_top e1⟩,⟨_,e2,rfl⟩,q,k,s,hio,hq,rfl⟩
  | mem f i=>
   obtain ⟨D,hD',rfl⟩:=(show ∃ D∈c.fs,D.f=f from hD)
   obtain ⟨k,hk⟩:=List.getElem?_of_mem hD'
   obtain ⟨x,r1,r2⟩:=hfams3 k D hk
   have e1:HQ.fam D.f=some ⟨D.e,D.s,D.ks,x.toElems⟩:=look_iniFm hnd hk r1
   exact ⟨.mem D.f i,fun x hx=>by rw [hθ2m D hD'] at hx; exact hx,fun x hx=>by rw [hθ2m D hD']; exact hx,by rw [obj_mem e1,obj_mem r2],by simp only [St.has,e1,r2],⟨_,obj_mem r2,at_own _ _⟩,rfl⟩
 have hgo:∀ (u:Option Nat) (X:Nm→Prop) (S4:St) (θ4:Nm→Option Value),HRel C0 (okR C0 w' HQ θ1 c.esc u) HQ θ1 w'→S4.tm=S3.tm→(∀ d,¬ X d→S4.obj d=S3.obj d∧(S4.has d↔S3.has d)∧θ4 d=θ2 d)→
   (∀ d,X d→¬ S1.has d∧¬ Dp d∧S4.has d)→(∀ d d',X d→X d'→d=d')→(∀ d ob v b,X d→S4.obj d=some ob→ob.isOwn=true→θ4 d=some v→blk v=some b→w.heap.size≤b∧some b=u∧¬ OwnB HQ θ1 b)→
   (∀ d v,X d→θ4 d=some v→base0 v)→((∀ b,okR C0 w' HQ θ1 c.esc u b→okOf C w' S4 θ4 b)→∀ d ob,X d→S4.obj d=some ob→OV C w' (okOf C w' S4 θ4) θ4 d ob)→
   Rel C S4 θ4 a w'∧∀ b,okR C0 w' HQ θ1 c.esc u b→okOf C w' S4 θ4 b:=by
  intro u X S4 θ4 hH htm4 hX1 hX2 hX3 hX4 hX5 hX6
  have hDX:∀ d,Dp d→¬ X d:=fun d hD hx=>(hX2 d hx).2.1 hD
  have hokr:∀ b,okR C0 w' HQ θ1 c.esc u b→okOf C w' S4 θ4 b:=by
   intro b hb
   refine ⟨hb.1,fun hF=>hb.2.1 (.inl hF),?_⟩
   rintro ⟨d,ob,v,q1,q2,q3,q4⟩
   by_cases hx:X d
   ·exact hb.2.2.2.1 (hX4 d ob v b hx q1 q2 q3 q4).2.1
   ·obtain ⟨y1,y2,y3⟩:=hX1 d hx
    rw [y1] at q1
    rw [y3] at q3
    by_cases hD:Dp d
    ·obtain ⟨e,g1,g2,g3,g4,g5,g6⟩:=back d hD
     exact hb.2.2.1 ⟨e,ob,v,by rw [g3]; exact q1,q2,g1 _ q3,q4⟩
    ·rw [(hout3 d hD).1] at q1
     rw [hθ2o d hD] at q3
     have hlt:=((h1.ob q1 q3).lt q2 q3 q4).1
     cases hesc:c.esc with
     | false=>have:=hb.2.2.2.2 hesc; exact absurd hlt (Nat.not_lt.2 this)
     | true=>
      have hXb:okX C w S θ l b:=by
       refine ⟨hlt,fun hF=>hb.2.1 (.inl hF),?_⟩
       rintro ⟨d',o2,v2,p1,p2,p3,p4,p5⟩
       by_cases hD' : Dp d'
       ·obtain ⟨e,g1,g2,g3,g4,⟨ob',g5,g5'⟩,g6⟩:=back d' hD'
        exact hb.2.2.1 ⟨e,ob',v2,by rw [g3]; exact g5,g5',g1 _ (hnm2 _ _ p4),p5⟩
       ·exact hb.2.1 (.inr ⟨d',o2,v2,p1,hD',p2,p3,p4,p5⟩)
      exact (hesc1 hesc b hXb).2.2 ⟨d,ob,v,q1,q2,q3,q4⟩
  refine ⟨?_,hokr⟩
  have hIx:∀ b,OwnB HP θ0 b→∃ d ob v,(Dp d∨X d)∧S1.obj d=some ob∧ob.isOwn=true∧θ d=some v∧blk v=some b:=by
   intro b hb
   obtain ⟨d,ob,v,hD,q1,q2,q3,q4⟩:=hown b hb
   exact ⟨d,ob,v,.inl hD,by rw [hobj1 d (fun hl=>hlD d hl hD)]; exact q1,q2,q3,q4⟩
  have hM0:∀ g,C0.M g→C.M g:=by
   rintro g (hg | hg)
   ·exact .inl (Nat.le_trans h.size hg)
   ·exact (hIb g hg).2
  refine h1.turn (fun d=>Dp d∨X d) (OwnB HP θ0) (by rw [htm4,htm3,htm2]) (fun d hd=>?_) (fun d hd=>?_) (fun d x hx=>?_) (hH.os) (hH.tape) (hH.output) hH.size (fun b hb hx=>hH.frame b hb hx) hIx ?_ ?_ ?_ ?_ ?_
  ·simp only [not_or] at hd
   obtain ⟨y1,y2,y3⟩:=hX1 d hd.2
   exact ⟨y1.trans (hout3 d hd.1).1,y3.trans (hθ2o d hd.1)⟩
  ·simp only [not_or] at hd
   exact (hX1 d hd.2).2.1.trans (hout3 d hd.1).2
  ·by_cases hx' : X d
   ·exact absurd (h1.has_of hx) (hX2 d hx').1
   ·rw [(hX1 d hx').2.2]
    exact hnm2 d x hx
  ·rintro d ob v b (hD | hx) q1 q2 q3 q4
   ·obtain ⟨y1,y2,y3⟩:=hX1 d (hDX d hD)
    rw [y1] at q1
    rw [y3] at q3
    obtain ⟨e,g1,g2,g3,g4,g5,g6⟩:=back d hD
    have hov:=hH.objs e ob (Classical.byContradiction fun hn=>by have:=hH.fresh e hn; rw [g1 _ q3] at this; cases this) (by rw [g3]; exact q1)
    rcases (hov.lt q2 (g1 _ q3) q4).2 with hg | hg
    ·exact .inl hg
    ·exact .inr (hIx b hg)
   ·exact .inl (hX4 d ob v b hx q1 q2 q3 q4).1
  ·rintro d d' ob ob' v v' b hd hd' q1 q2 q3 q4 hne q5 q6 q7 q8
   rcases hd with hD | hx
   ·obtain ⟨y1,y2,y3⟩:=hX1 d (hDX d hD)
    rw [y1] at q1
    rw [y3] at q5
    obtain ⟨e,g1,g2,g3,g4,g5,g6⟩:=back d hD
    rcases hd' with hD' | hx'
    ·obtain ⟨y1',y2',y3'⟩:=hX1 d' (hDX d' hD')
     rw [y1'] at q2
     rw [y3'] at q6
     obtain ⟨e',g1',g2',g3',g4',g5',g6'⟩:=back d' hD'
     refine hH.sep e e' ob ob' v v' b (by rw [g3]; exact q1) (by rw [g3']; exact q2) q3 q4 (fun ee=>hne ?_) (g1 _ q5) (g1' _ q6) q7 q8
     subst ee
     cases d with
     | top y=>
      obtain ⟨q,k,s,z1,z2,rfl⟩:=g6
      cases d' with
      | top y'=>
       obtain ⟨q',k',s',z1',z2',e2⟩:=g6'
       have hk:k=k':=par_inj (Nm.top.inj e2)
       subst hk
       have:=ioAt_inj z1 z1'
       subst this
       rw [z2] at z2'
       cases z2'
       rfl
      | mem f i=>cases g6'
     | mem f i=>
      subst g6
      cases d' with
      | top y'=>obtain ⟨_,_,_,_,_,e2⟩:=g6'; cases e2
      | mem f' i'=>exact g6'
    ·exact (hX4 d' ob' v' b hx' q2 q4 q6 q8).2.2 ⟨e,ob,v,by rw [g3]; exact q1,q3,g1 _ q5,q7⟩
   ·rcases hd' with hD' | hx'
    ·obtain ⟨y1',y2',y3'⟩:=hX1 d' (hDX d' hD')
     rw [y1'] at q2
     rw [y3'] at q6
     obtain ⟨e',g1',g2',g3',g4',g5',g6'⟩:=back d' hD'
     exact (hX4 d ob v b hx q1 q3 q5 q7).2.2 ⟨e',ob',v',by rw [g3']; exact q2,q4,g1' _ q6,q8⟩
    ·exact hne (hX3 d d' hx hx')
  ·rintro d (hD | hx) hn
   ·obtain ⟨y1,y2,y3⟩:=hX1 d (hDX d hD)
    rw [y3]
    obtain ⟨e,g1,g2,g3,g4,g5,g6⟩:=back d hD
    have hne:¬ HQ.has e:=fun hh=>hn (y2.2 (g4.1 hh))
    cases hv:θ2 d with
    | none=>rfl
    | some v=>have:=hH.fresh e hne; rw [g1 _ hv] at this; cases this
   ·exact (hn (hX2 d hx).2.2).elim
  ·rintro d v (hD | hx) hv
   ·rw [(hX1 d (hDX d hD)).2.2] at hv
    obtain ⟨e,g1,g2,g3,g4,g5,g6⟩:=back d hD
    exact hH.base e v (g1 _ hv)
   ·exact hX5 d v hx hv
  ·rintro hk d ob (hD | hx) hhas q1
   ·obtain ⟨y1,y2,y3⟩:=hX1 d (hDX d hD)
    rw [y1] at q1
    obtain ⟨e,g1,g2,g3,g4,g5,g6⟩:=back d hD
    have hov:=hH.objs e ob (g4.2 (y2.1 hhas)) (by rw [g3]; exact q1)
    have hm4:MemLe c.fs θ1 θ4:=fun D hD' i x hx=>by
     rw [(hX1 _ (hDX (.mem D.f i) ⟨D,hD',rfl⟩)).2.2,hθ2m D hD']
     exact hx
    have conv:∀ s x v,(inF c.fs s=true∧(c.esc=true∨flatS s=true))→WT s x→CV w' (okR C0 w' HQ θ1 c.esc u) θ1 x v→CV w' (okOf C w' S4 θ4) θ4 x v:=by
     intro s x v hi hw hv
     exact CV_in hm4 hokr s x v hw hi.1 hv
    have hd:∀ v,θ1 e=some v→θ4 d=some v:=fun v hv=>by rw [y3]; exact g2 _ hv
    have hMg:∀ g v,θ1 e=some v→blk v=some g→ob.isOwn=true→C.M g:=fun g v hv hb ho=>hM0 g ((hov.lt ho hv hb).2)
    cases d with
    | top y=>
     obtain ⟨q,k,s,z1,z2,rfl⟩:=g6
     obtain ⟨d',x,r1,r2,r3⟩:=hios q k s z1
     rw [z2] at r1
     cases r1
     have e2:S3.obj (.top y)=some (.box (eta s x)):=by rw [hobj3]; exact r3
     rw [e2] at q1
     cases q1
     have hr:=OV_box_conv (C':=C) (s:=s) (x:=nrm s (eta s x)) (A:=fun s=>inF c.fs s=true) (fun s x v hi hw hv=>CV_in hm4 hokr s x v hw hi hv) (hinS q k s z1) hov rfl (by
      have hx:nrm s (eta s x)=eta s x:=nrm_eta s x
      rw [hx]; exact eta_WT s x) hd (fun g hg=>hMg g _ hg rfl rfl)
     rw [nrm_eta,eta_of_WT s _ (eta_WT s x)] at hr
     exact hr
    | mem f i=>
     subst g6
     obtain ⟨D,hD',rfl⟩:=(show ∃ D∈c.fs,D.f=f from hD)
     obtain ⟨kk,hk'⟩:=List.getElem?_of_mem hD'
     obtain ⟨x,r1,r2⟩:=hfams3 kk D hk'
     rw [obj_mem r2] at q1
     cases q1
     exact OV_at_conv (C':=C) (A:=fun s=>inF c.fs s=true) (fun s x v hi hw hv=>CV_in hm4 hokr s x v hw hi hv) (hinD D hD').1 (hinD D hD').2 hov hd (fun g v hv hb=>hMg g v hv hb (at_own _ _))
   ·exact hX6 hokr d ob hx q1
 unfold resPut at hh7
 split at hh7
 ·
  rename_i hownr
  rw [hownr] at hres
  obtain ⟨hH,hct,hwt⟩:=hres
  obtain ⟨hr4,hok4⟩:=hgo none (fun _=>False) S3 θ2 hH rfl (fun d _=>⟨rfl,Iff.rfl,rfl⟩) (fun _ h=>h.elim) (fun _ _ h=>h.elim) (fun _ _ _ _ h=>h.elim) (fun _ _ h=>h.elim) (fun _ _ _ h=>h.elim)
  have hm2:MemLe c.fs θ1 θ2:=fun D hD i x hx=>by rw [hθ2m D hD]; exact hx
  exact hK _ _ θ2 (resFin_ok hh7 hr4 hvs hlen (CVt_in hm2 hok4 (fun a ha=>.inr (hwt a ha)) hct)) (put_defers _ _ _)
 ·
  rename_i j hownr
  rw [hownr] at hres
  obtain ⟨x0,u,t,e1,e2,e3,hx0,hH,⟨hb0,hform,hnown,el,hel,hrow⟩,hct,hwt⟩:=hres
  rw [e1,e3] at hh7
  simp only at hh7
  split at hh7 <;> first | exact (exe_fail hh7).elim | skip
  rename_i ob hob
  have hh8:=exe_obj hh7
  clear hh7
  cases hq:S3.obj (.top (resName (o.dst.getD 0))) with
  | some q=>rw [hq] at hh8; exact (exe_fail hh8).elim
  | none=>
   rw [hq] at hh8
   have hh9:=exe_setObj hh8
   clear hh8
   have hrn:¬ Dp (.top (resName (o.dst.getD 0))):=fun hD=>by
    obtain ⟨e,_,_,_,_,⟨ob',g5,_⟩,_⟩:=back (.top (resName (o.dst.getD 0))) hD
    rw [hq] at g5
    cases g5
   have hblk:∀ g,blk u=some g→w.heap.size≤g:=by
    intro g hg
    rcases hrow with ⟨k,xs,_,hr1⟩ | ⟨s,xs,cs,_,_,_,hr1⟩
    ·exact (hr1.lt hg).2
    ·exact (hr1.lt hg).2
   have hobown:ob.isOwn=true:=by
    unfold asOb at hob
    rw [hel] at hob
    rcases hrow with ⟨k,xs,rfl,_⟩ | ⟨s,xs,cs,rfl,_,_,_⟩ <;>(cases hob; rfl)
   have hm4:MemLe c.fs θ1 (upd θ2 (.top (resName (o.dst.getD 0))) u):=fun D hD i x hx=>by rw [upd_ne _ _ (by intro e; cases e),hθ2m D hD]; exact hx
   obtain ⟨hr4,hok4⟩:=hgo (blk u) (fun d=>d=.top (resName (o.dst.getD 0))) (S3.setObj (resName (o.dst.getD 0)) ob) (upd θ2 (.top (resName (o.dst.getD 0))) u) hH rfl
    (fun d hd=>⟨obj_setObj_other _ _ _ _ hd,has_setObj_other _ _ _ _ hd,upd_ne _ _ hd⟩)
    (fun d hd=>by subst hd; exact ⟨fun hh=>((hout3 (.top (resName (o.dst.getD 0))) hrn).2.2 hh) hq,hrn,has_setObj_same _ _ _⟩)
    (fun d d' hd hd'=>hd.trans hd'.symm)
    (fun d ob' v b hd q1 q2 q3 q4=>by subst hd; rw [upd_self] at q3; cases q3; exact ⟨hblk b q4,q4.symm,(hnown b q4).1⟩)
    (fun d v hd hv=>by subst hd; rw [upd_self] at hv; cases hv; exact hb0)
    (fun hok d ob' hd q1=>by
     subst hd
     rw [obj_setObj_same] at q1
     cases q1
     have hmk:∀ {size m:Nat} {cs:List Value},OwnRow w' (fun g=>C0.w0.heap.size≤g) el size u m cs→OwnRow w' C.M el size u m cs:=by
      intro size m cs hr1
      refine ⟨hr1.1,?_⟩
      rcases hr1.2 with q | ⟨g,cap,cur,fr,q1,q2,q3⟩
      ·exact .inl q
      ·exact .inr ⟨g,cap,cur,fr,q1,.inl (Nat.le_trans h.size q2),q3⟩
     unfold asOb at hob
     rw [hel] at hob
     rcases hrow with ⟨k,xs,rfl,hr1⟩ | ⟨s,xs,cs,rfl,hw,hcs,hr1⟩
     ·cases hob
      exact ⟨u,upd_self _ _ _,fun _=>hmk hr1,fun h=>by cases h⟩
     ·cases hob
      obtain ⟨s',hs',hi'⟩:=hx0
      have hss:inF c.fs s=true:=by
       cases s' <;> first | (rcases hs' with e | ⟨_,e⟩ <;> cases e; done) | (obtain ⟨_,e⟩:=hs'; cases e; done) | (obtain ⟨_,e,_⟩:=hs'; cases e; done) | skip
       obtain ⟨_,e⟩:=hs'
       cases e
       exact hi'
      exact ⟨u,upd_self _ _ _,hw,fun _=>⟨cs,CVs_in_row hm4 hok hss hw hcs,hmk hr1⟩,fun h=>by cases h⟩)
   have hct2:=CVt_in hm4 hok4 (fun a ha=>by
    obtain ⟨i,hi⟩:=List.getElem?_of_mem ha
    by_cases hij:j=i
    ·subst hij
     rw [List.getElem?_set_self (by simpa using (List.getElem?_eq_some_iff.1 e1).1)] at hi
     exact .inl (Option.some.inj hi).symm
    ·rw [List.getElem?_set_ne hij] at hi
     exact .inr (hwt i a (fun e=>hij e.symm) hi)) hct
   have hct3:=CVt_set (x:=.own (.top (resName (o.dst.getD 0)))) hct2 e2 ⟨upd_self _ _ _,hform⟩
   exact hK _ _ _ (resFin_ok hh9 hr4 hvs (by rw [List.length_set]; exact hlen) hct3) (put_defers _ _ _)
end
end Go.Am
end
