/-
  Panics and recovering; rows; deep data.
-/
import Derived.Test.YtlmnjnhmhacgkaaDoorAmF
section
set_option linter.unusedVariables false
namespace Go.Am
mutual
def DWT:Sh→AV→Prop
 | .agg l,x=>∃ cs,x=.agg cs∧DWTs l cs
 | .fv s,x=>∃ xs,x=.fv s xs∧∀ y∈xs,DWT s y
 | .int k,x=>WT (.int k) x
 | .bool,x=>WT .bool x
 | .str,x=>WT .str x
 | .arr k n,x=>WT (.arr k n) x
 | .fs k,x=>WT (.fs k) x
 | .nl k,x=>WT (.nl k) x
 | .pt f,x=>WT (.pt f) x
 | .mp f,x=>WT (.mp f) x
def DWTs:List Sh→List AV→Prop
 | [],cs=>cs=[]
 | s::l,cs=>∃ c r,cs=c::r∧DWT s c∧DWTs l r
end
section
variable {H:Type}
mutual
theorem deep_of_fit:∀ (s:Sh) (d:DataW H),Fit s (avD s d)→DWT s (avD s d)
 | .int k,d,_=>⟨_,rfl⟩
 | .bool,d,_=>by
  show ∃ b,avD .bool d=.bool b
  unfold avD
  split <;> exact ⟨_,rfl⟩
 | .str,d,_=>by
  show ∃ b,avD .str d=.str b
  unfold avD
  split <;> exact ⟨_,rfl⟩
 | .arr k n,d,_=>by
  show ∃ b,avD (.arr k n) d=.arr k n b
  unfold avD
  split <;> exact ⟨_,rfl⟩
 | .agg ss,d,h=>by
  unfold avD at h ⊢
  split at h
  ·rename_i l
   exact ⟨_,rfl,deeps_of_fit ss l h⟩
  ·cases ss with
   | nil=>exact ⟨_,rfl,rfl⟩
   | cons s ss=>exact h.elim
 | .fs k,d,_=>by
  show ∃ b,avD (.fs k) d=.fs k b
  unfold avD
  split <;> exact ⟨_,rfl⟩
 | .nl k,d,_=>by
  show avD (.nl k) d=.nils∨∃ b,avD (.nl k) d=.fs k b
  unfold avD
  split
  ·exact .inr ⟨_,rfl⟩
  ·exact .inl rfl
 | .fv s,d,h=>by
  unfold avD at h ⊢
  split at h
  ·rename_i l _
   refine ⟨_,rfl,fun y hy=>?_⟩
   have hf:=h y hy
   obtain ⟨e,_,rfl⟩:=List.mem_map.1 hy
   exact deep_of_fit s e hf
  ·exact ⟨_,rfl,fun y hy=>by cases hy⟩
 | .pt f,d,_=>⟨_,rfl⟩
 | .mp f,d,_=>⟨_,rfl⟩
theorem deeps_of_fit:∀ (ss:List Sh) (ds:List (DataW H)),Fits ss (avDs ss ds)→DWTs ss (avDs ss ds)
 | [],ds,_=>rfl
 | s::ss,[],h=>h.elim
 | s::ss,d::ds,h=>⟨_,_,rfl,deep_of_fit s d h.1,deeps_of_fit ss ds h.2⟩
end
end
end Go.Am
end
section
set_option linter.unusedVariables false
set_option linter.unusedSimpArgs false
namespace Go.Am
open Go.RowKit
structure Grow (w w' : World):Prop where
 size:w.heap.size≤w'.heap.size
 heap:∀ b,b<w.heap.size→w'.heap[b]? = w.heap[b]?
 os:w'.os=w.os
 tape:w'.tape=w.tape
 out:Out w w'
def opA (S:St):Operand→AV
 | .tmp t=>S.slot t
 | .const v=>match cst v with | some a=>a | none=>.undef
 | _=>.undef
section
variable {C:Ctx} {S S' T:St} {θ θ' : Nm→Option Value} {a:Act} {w w' : World} {n m:Nat} {P:Program} {o:Oper}
theorem Rel.grown (h:Rel C S θ a w) (g:Grow w w'):Rel C S θ a w':=
 h.turn (fun _=>False) (fun _=>False) rfl (fun _ _=>⟨rfl,rfl⟩) (fun _ _=>Iff.rfl) (fun _ _ h=>h) g.os g.tape g.out g.size (fun b hb _=>g.heap b hb)
  (fun _ h=>h.elim) (fun _ _ _ _ h=>h.elim) (fun _ _ _ _ _ _ _ h=>h.elim) (fun _ h=>h.elim) (fun _ _ h=>h.elim) (fun _ _ _ h=>h.elim)
theorem opA_ok (h:Rel C S θ a w) (x:Operand):CV w (okOf C w S θ) θ (opA S x) (a.eval x):=by
 cases x with
 | tmp t=>
  show CV _ _ _ (S.slot t) _
  simp only [Act.eval]
  cases ht:a.tmps[t]? with
  | some v=>
   have:=h.slots t v ht
   simpa [Array.getD_eq_getD_getElem?,ht] using this
  | none=>
   have hl:a.tmps.size≤t:=by simpa using ht
   have:S.slot t=.undef:=by
    have hl' : S.tm.length≤t:=by rw [←h.len]; exact hl
    simp [St.slot,List.getD_eq_getElem?_getD,List.getElem?_eq_none hl']
   rw [this]
   trivial
 | const v=>
  simp only [opA]
  split
  ·rename_i u hu; exact cst_ok hu
  ·trivial
 | global g=>trivial
 | func f=>trivial
theorem CVt_get {ok:Nat→Prop}:∀ {as:List AV} {vs:List Value},CVt w ok θ as vs→∀ (i:Nat) v,vs[i]? = some v→∃ x,as[i]? = some x∧CV w ok θ x v
 | [],vs,h,i,v,hi=>by have h:vs=[]:=h; subst h; simp at hi
 | a::as,vs,h,i,v,hi=>by
  obtain ⟨u,rest,rfl,h1,h2⟩:=h
  cases i with
  | zero=>simp at hi; subst hi; exact ⟨a,rfl,h1⟩
  | succ i=>simpa using CVt_get h2 i v (by simpa using hi)
end
end Go.Am
end
section
set_option linter.unusedVariables false
set_option linter.unusedSimpArgs false
namespace Go.Am
open Go.RowKit
section
variable {C:Ctx} {S S' T:St} {θ θ' : Nm→Option Value} {a:Act} {w w' : World} {n m:Nat} {P:Program} {o:Oper}
noncomputable def pinTo (C:Ctx) (θ:Nm→Option Value) (ts:List Nm):Nm→Option Value:=open Classical in fun d=>if d∈ts then θ d else C.pin d
theorem Rel.pinned (h:Rel C S θ a w) (ts:List Nm):Rel { C with pin:=pinTo C θ ts } S θ a w:=
 ⟨h.len,h.slots,h.objs,h.fresh,h.sep,h.os,h.tape,h.output,h.size,h.frame,h.globs,h.base,fun d v hd=>by
  have hd:pinTo C θ ts d=some v:=hd
  unfold pinTo at hd
  split at hd
  ·exact hd
  ·exact h.pin d v hd⟩
end
end Go.Am
end
section
set_option linter.unusedVariables false
set_option linter.unusedSimpArgs false
namespace Go.Am
open Go.RowKit
structure Inl where
 f:FuncId
 body:Code
 m:Nat
 H:Hints
 pn:Pn
 rs:List Nat
def resA (S:St) (rs:List Nat):AV:=match rs with
 | [r]=>S.slot r
 | rs=>.tup (rs.map S.slot)
section
variable {C:Ctx} {S S' T:St} {θ θ' : Nm→Option Value} {a:Act} {w w' : World} {n m:Nat} {P:Program} {o:Oper} {ok ok' : Nat→Prop} {pn:Pn}
theorem resA_ok {fn:Func} {rs:List Nat} (hres:fn.results=(rs.map ResultVar.tmp).toArray) (h:Rel C S θ a w):∃ v,(results fn a.tmps).run P w=.ok v w∧CV w (okOf C w S θ) θ (resA S rs) v:=by
 have hs:∀ t:Nat,CV w (okOf C w S θ) θ (S.slot t) (a.tmps.getD t undef):=fun t=>opA_ok h (.tmp t)
 have hl:∀ rs:List Nat,CVt w (okOf C w S θ) θ (rs.map S.slot) (rs.map fun t=>a.tmps.getD t undef):=by
  intro rs
  induction rs with
  | nil=>rfl
  | cons r rs ih=>exact ⟨_,_,rfl,hs r,ih⟩
 obtain ⟨v,h1,h2⟩:=results_run (P:=P) (fn:=fn) (rs:=rs.map fun r=>(r,Rk.val .bool)) (by rw [hres,List.map_map]; rfl) a.tmps w (fun p hp=>by
  obtain ⟨r,_,rfl⟩:=List.mem_map.1 hp
  rfl)
 refine ⟨v,h1,?_⟩
 have hmap:((rs.map fun r=>(r,Rk.val .bool)).map fun p=>resV P w a.tmps p.1 p.2)=rs.map fun t=>a.tmps.getD t undef:=by
  rw [List.map_map]; rfl
 rw [hmap,List.length_map] at h2
 match rs,h2,hl with
 | [],h2,hl=>
  rcases h2 with ⟨h3,_⟩ | ⟨_,rfl⟩
  ·simp at h3
  ·exact ⟨#[],rfl,rfl⟩
 | [r],h2,hl=>
  rcases h2 with ⟨_,h3⟩ | ⟨h3,_⟩
  ·have h3:[a.tmps.getD r undef]=[v]:=h3
   have:a.tmps.getD r undef=v:=by simpa using h3
   rw [←this]
   exact hs r
  ·simp at h3
 | r::r'::rs,h2,hl=>
  rcases h2 with ⟨h3,_⟩ | ⟨_,rfl⟩
  ·simp at h3
  ·exact ⟨_,rfl,by simpa using hl (r::r'::rs)⟩
end
end Go.Am
end
section
set_option linter.unusedVariables false
set_option linter.unusedSimpArgs false
namespace Go.Am
open Go.RowKit
def rowRes (S:St) (r:Nat) (e:TypeId) (k:IntKind):Option (List AV):=match S.slot r with
 | .nils=>some [.fs k []]
 | .own d=>match d with
  | .top d=>match S.obj (.top d) with
   | some ob=>match asRow k ob with
    | some (e',ys)=>match Nat.beq e e' with
     | true=>some [.fs k ys]
     | false=>none
    | none=>none
   | none=>none
  | .mem _ _=>none
 | _=>none
noncomputable def rowRun (P:Program) (E:Env) (cal:FuncId→Option Cal) (H:Hints) (body:Code) (m r:Nat) (e:TypeId) (k:IntKind) (n:Nat) (as:List AV):Option (List AV):=match as with
 | x::rest=>exec n m ⟨[],[]⟩ P E cal H body ⟨(.own (.top (par 0))::rest)++List.replicate (m - (rest.length+1)) .undef,[(par 0,.row true e k x.toInts)],[]⟩ fun q S=>match q with
  | .nrm=>rowRes S r e k
  | .ret=>rowRes S r e k
  | _=>none
 | []=>none
def rowCal (F:Nat→List AV→Option (List AV)) (e:TypeId) (k:IntKind) (ty:TypeId):Cal:={ F:=F,ps:=[],fs:=[],res:=fun x=>x,ty:=[ty],own:=some 0,esc:=false,row:=some (e,k) }
section
variable {C:Ctx} {S S' T:St} {θ θ' : Nm→Option Value} {a:Act} {w w' : World} {n m:Nat} {P:Program} {o:Oper}
theorem CVt_scal {ok ok' : Nat→Prop}:∀ {us:List AV} {vs:List Value},us.all scal=true→CVt w ok θ us vs→CVt w' ok' θ' us vs
 | [],vs,_,h=>h
 | u::us,vs,hs,h=>by
  rw [List.all_cons,Bool.and_eq_true] at hs
  obtain ⟨v,rest,rfl,h1,h2⟩:=h
  refine ⟨v,rest,rfl,?_,CVt_scal hs.2 h2⟩
  cases u <;> first | exact h1 | (have:=hs.1; cases this)
theorem soundRow {E:Env} {cal:FuncId→Option Cal} (hcal:∀ f c,cal f=some c→SoundCal P E f c) (hm:P.follows .mixedOrders=true) {H:Hints} {f:FuncId} {fn:Func} {body:Code} {r:Nat} {e:TypeId} {k:IntKind} {ty:TypeId}
  (hf : P.funcs[f]? = some fn) (hb : fn.body = some body) (hn : fn.name ≠ "runtime.NumGoroutine") (hnt : fn.ntmps = m) (hres : fn.results = ([r].map ResultVar.tmp).toArray)
  (hov:∀ C:Ctx,C.E=E→OvOk DefEq C P H body) (hpan:∀ C:Ctx,C.E=E→PanH C P H body):SoundCal P E f (rowCal (rowRun P E cal H body m r e k) e k ty):=by
 show SoundRow P E f _ e k
 refine ⟨⟨fn,hf,by rw [hb]; rfl,hn⟩,fun N xs rest q hF hsc C S θ a w v us hE hr hrow hb0 hform hnok hus=>?_⟩
 subst hE
 have hF:rowRun P C.E cal H body m r e k N (.fs k xs::rest)=some q:=hF
 unfold rowRun at hF
 dsimp only at hF
 have hlt:∀ b,blk v=some b→b<w.heap.size:=fun b hbv=>(hrow.lt hbv).1
 let C1:Ctx:={ w0:=w,I:=fun b=>blk v=some b,F:=fun b=>b<w.heap.size∧¬ okOf C w S θ b∧blk v≠some b,E:=C.E,ib:=hlt,fb:=fun b h=>h.1,iF:=fun b h hF=>hF.2.2 h,gd:=C.gd }
 let S0:St:=⟨(.own (.top (par 0))::rest)++List.replicate (m - (rest.length+1)) .undef,[(par 0,.row true e k xs)],[]⟩
 let θ0:Nm→Option Value:=upd (fun _=>none) (.top (par 0)) v
 have hobj:∀ d ob,S0.obj d=some ob→d=.top (par 0)∧ob=.row true e k xs:=by
  intro d ob hd
  cases d with
  | top e'=>
   have hd:look [(par 0,Ob.row true e k xs)] e' = some ob:=hd
   simp only [look] at hd
   split at hd
   ·rename_i hbq
    have:e' = par 0:=by simpa using hbq
    cases hd
    exact ⟨by rw [this],rfl⟩
   ·cases hd
  | mem f' i=>cases hd
 have hself:S0.obj (.top (par 0))=some (.row true e k xs):=by
  show look [(par 0,Ob.row true e k xs)] (par 0)=_
  simp [look]
 have hhas:∀ d,S0.has d→d=.top (par 0):=by
  intro d hd
  cases d with
  | top e'=>
   have hd:S0.obj (.top e')≠none:=hd
   cases hq:S0.obj (.top e') with
   | none=>exact (hd hq).elim
   | some ob=>exact (hobj _ ob hq).1
  | mem f' i=>obtain ⟨F,h1,_⟩:=hd; cases h1
 have hθv:θ0 (.top (par 0))=some v:=upd_self _ _ _
 have hθ:∀ d u,θ0 d=some u→d=.top (par 0)∧u=v:=by
  intro d u hd
  by_cases hdp:d=.top (par 0)
  ·subst hdp
   rw [hθv] at hd
   exact ⟨rfl,(Option.some.inj hd).symm⟩
  ·have:θ0 d=none:=upd_ne _ _ hdp
   rw [this] at hd; cases hd
 have hok:∀ b,okOf C w S θ b→okOf C1 w S0 θ0 b:=by
  intro b hb
  refine ⟨hb.1,fun hF=>hF.2.1 hb,?_⟩
  rintro ⟨d,ob,u,_,_,h3,h4⟩
  obtain ⟨_,rfl⟩:=hθ d u h3
  exact hnok b h4 hb
 have hcv:=CVt_length hus
 have hr1:Rel C1 S0 θ0 { tmps:=(v::us).toArray++Array.replicate (fn.ntmps - (v::us).toArray.size) undef,defers:=[] } w:=by
  refine ⟨by simp [S0,hnt,hcv]; omega,fun i u hi=>?_,fun d ob hd hob=>?_,fun d hd=>?_,fun d d' o o' u u' b h1 h2 _ _ hne _ _ _=>?_,rfl,rfl,⟨rfl,.inr trivial⟩,Nat.le_refl _,fun b _ _=>rfl,fun g t hgt=>?_,fun d u hd=>?_,fun d u hd=>by cases hd⟩
  ·cases i with
   | zero=>
    have:u=v:=by
     rw [Array.getElem?_append_left (by simp)] at hi
     simpa using hi.symm
    subst this
    exact ⟨hθv,hform⟩
   | succ i=>
    rcases Nat.lt_or_ge i us.length with hl | hl
    ·have hu:us[i]? = some u:=by
      rw [Array.getElem?_append_left (by simp; omega)] at hi
      simpa using hi
     obtain ⟨x,h1,h2⟩:=CVt_get (CVt_scal (w':=w) (ok':=okOf C1 w S0 θ0) (θ':=θ0) hsc hus) i u hu
     have:S0.slot (i+1)=x:=by
      simp only [St.slot,S0,List.getD_eq_getElem?_getD]
      rw [List.getElem?_append_left (by simp; omega)]
      simp [h1]
     rw [this]
     exact h2
    ·have:S0.slot (i+1)=.undef:=by
      simp only [St.slot,S0,List.getD_eq_getElem?_getD]
      rw [List.getElem?_append_right (by simp; omega),List.getElem?_replicate]
      split <;> rfl
     rw [this]
     trivial
  ·obtain ⟨rfl,rfl⟩:=hobj d ob hob
   exact ⟨v,hθv,fun _=>hrow.monoM (fun b hb=>.inr hb),fun h=>by cases h⟩
  ·cases hq:θ0 d with
   | none=>rfl
   | some u=>
    obtain ⟨rfl,_⟩:=hθ d u hq
    exact (hd (has_top hself)).elim
  ·exact (hne ((hobj d o h1).1.trans (hobj d' o' h2).1.symm)).elim
  ·obtain ⟨s,hs,hsi⟩:=C.gd g t hgt
   obtain ⟨ad,u,h1,h2,h3,h4⟩:=hr.globs g t hgt
   exact ⟨ad,u,h1,hok _ h2,CV_in (fs:=[]) (fun D hD=>by cases hD) hok s t u hs hsi h3,h4⟩
  ·obtain ⟨_,rfl⟩:=hθ d u hd
   exact hb0
 refine calls_of_wp_defers hf hb ?_
 refine exec_ok dlEq (C:=C1) (pn:=⟨[],[]⟩) (fun d u hd=>by cases hd) hcal hm body (hov C1 rfl) (hpan C1 rfl) _ _ q hF θ0 _ w hr1 _ (fun ed S' θ' a' w' hk hr' hd'=>?_)
 have fin:rowRes S' r e k=some q→Leaves P fn a'.tmps (fun ed w'=>∃ v' ys,ed=.returned v'∧q=[.fs k ys]∧OwnRow w' (fun b=>blk v=some b∨w.heap.size≤b) e 1 v' ys.length (ints k ys)∧(∃ A n c,v' = .slice A n c)∧Grew v v' w w') a'.defers .returning w':=by
  intro hq
  obtain ⟨v',hv',hcv'⟩:=resA_ok (P:=P) hres hr'
  have hcv' : CV w' (okOf C1 w' S' θ') θ' (S'.slot r) v':=hcv'
  rw [show a'.defers=[] from hd']
  refine ⟨v',hv',v',?_⟩
  have grew:∀ (hb:∀ b,blk v' = some b→blk v=some b∨w.heap.size≤b),base0 v'→Grew v v' w w':=fun hb hb0'=>
   ⟨fun b hb1 hb2=>hr'.frame b hb1 hb2,hr'.size,hr'.os,hr'.tape,hr'.output,hb,hb0'⟩
  unfold rowRes at hq
  split at hq <;> first | (cases hq; done) | skip
  ·rename_i hs
   rw [hs] at hcv'
   have hcv' : v' = .slice none 0 0:=hcv'
   subst hcv'
   cases hq
   exact ⟨[],rfl,rfl,⟨by simp [ints],.inl ⟨rfl,rfl⟩⟩,⟨none,0,0,rfl⟩,grew (fun b hb=>by cases hb) (fun ad n c e=>by cases e)⟩
  ·rename_i d hs
   split at hq <;> first | (cases hq; done) | skip
   rename_i d
   split at hq <;> first | (cases hq; done) | skip
   rename_i ob hob
   split at hq <;> first | (cases hq; done) | skip
   rename_i e' ys has
   split at hq <;> first | (cases hq; done) | skip
   rename_i hee
   cases hq
   have hee:e=e':=by simpa using hee
   subst hee
   rw [hs] at hcv'
   obtain ⟨c1,c2⟩:=hcv'
   obtain ⟨hisO,v2,k1,k2⟩:=asRow_ok hr' hob (has_top hob) has
   rw [c1] at k1
   cases k1
   have hmm:∀ b,C1.M b→blk v=some b∨w.heap.size≤b:=fun b hb=>by
    rcases hb with hb | hb
    ·exact .inr hb
    ·exact .inl hb
   exact ⟨ys,rfl,rfl,k2.monoM hmm,c2,grew (fun b hb=>hmm b (k2.lt hb).2) (hr'.base _ _ c1)⟩
 cases ed with
 | nrm=>exact fin hk
 | ret=>exact fin hk
 | ext i=>cases hk
 | pan=>cases hk
end
end Go.Am
end
section
set_option linter.unusedVariables false
set_option linter.unusedSimpArgs false
namespace Go.Am
open Go.RowKit
section
variable {C:Ctx} {S S' T:St} {θ θ' : Nm→Option Value} {a:Act} {w w' : World} {n m:Nat} {pn:Pn} {P:Program} {o:Oper}
structure Dfd (C:Ctx) (f:FuncId) (ts:List Nat) (π:Nm→Option Value) (us:Array Value):Prop where
 caps:(ts.map fun t=>π (.top t))=us.toList.map some
 ptrs:∀ u∈us.toList,∃ g,u=.pointer (some ⟨g,0,none⟩)
 le:∀ d v,C.pin d=some v→π d=some v
 of:∀ d v,π d=some v→C.pin d=some v∨∃ t∈ts,d=.top t
end
end Go.Am
end
section
set_option linter.unusedVariables false
set_option linter.unusedSimpArgs false
namespace Go.Am
open Go.RowKit
section
variable {C:Ctx} {P:Program} {body:Code} {id i:Nat}
end
end Go.Am
end
