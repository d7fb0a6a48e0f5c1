/-
  Panics and recovering; rows; deep data.
-/
import Derived.Test.YtlmnjnhmhacgkaaGreatDoorAmF
section
set_option linter.unusedVariables false
namespace Go.Am
section
variable {H:Type}
end
end Go.Am
end
section
set_option linter.unusedVariables false
set_option linter.unusedSimpArgs false
namespace Go.Am
open Go.RowKit
structure WU (w w' : World):Prop where
 size:w.heap.size<=w'.heap.size
 heap:∀ b,b<w.heap.size->w'.heap[b]? = w.heap[b]?
 os:w'.os=w.os
 tape:w'.tape=w.tape
 out:Out w w'
def opA (S:St):Operand->AV
 | .tmp t=>S.slot t
 | .const v=>match cst v with | some a=>a | none=>.undef
 | _=>.undef
def Kk (S:St):List Sh->List Operand->Option (List AV)
 | [],[]=>some []
 | s::ps,x::xs=>match kG S s (opA S x) with
  | some a=>kU a (Kk S ps xs)
  | none=>none
 | _,_=>none
def WTl:List Sh->List AV->Prop
 | [],as=>as=[]
 | s::ps,as=>∃ a r,as=a::r/\WT s a/\WTl ps r
def wX (P:Program) (E:Env) (f:FuncId) (ps:List Sh) (B:List AV->Bool):Prop:=
 (∃ fn, P.funcs[f]? = some fn /\ fn.body.isSome = true /\ fn.name ≠ "runtime.NumGoroutine") /\ (ps.all fun s => inF [] s) = true /\
 ∀ (as:List AV) (C:Ctx) (S:St) (θ:Nm->Option Value) (a:Act) (w:World) (args:Array Value),B as=true->C.E=E->Rel C S θ a w->WTl ps as->CVt w (qx C w S θ) θ as args.toList->
  Calls P f args w fun e w'=>∃ chain,e=.panicked chain/\uw chain/\WU w w'
def sY (d:Nat) (S:St):Bool:=match S.slot d with | .undef=>Nat.blt d S.tm.length | _=>false
def nU (ps:List Sh) (xs:List Operand) (B:List AV->Bool) (S:St):Bool:=match Kk S ps xs with | some as=>B as | none=>false
section
variable {C:Ctx} {S S' T:St} {θ θ' : Nm->Option Value} {a:Act} {w w' : World} {n m:Nat} {P:Program} {o:Oper}
theorem Rel.grown (h:Rel C S θ a w) (g:WU w w'):Rel C S θ a w':=
 h.turn (fun _=>False) (fun _=>False) rfl (fun _ _=>⟨rfl,rfl⟩) (fun _ _=>Iff.rfl) (fun _ _ h=>h) g.os g.tape g.out g.size (fun b hb _=>g.heap b hb)
  (fun _ h=>h.elim) (fun _ _ _ _ h=>h.elim) (fun _ _ _ _ _ _ _ h=>h.elim) (fun _ h=>h.elim) (fun _ _ h=>h.elim) (fun _ _ _ h=>h.elim)
theorem uL (h:Rel C S θ a w) (x:Operand):CV w (qx C w S θ) θ (opA S x) (a.eval x):=by
 cases x with
 | tmp t=>
  show CV _ _ _ (S.slot t) _;simp only [Act.eval]
  cases ht:a.tmps[t]? with
  | some v=>
   have:=h.slots t v ht;simpa [Array.getD_eq_getD_getElem?,ht] using this
  | none=>
   have hl:a.tmps.size<=t:=by simpa using ht
   have:S.slot t=.undef:=by
    have hl' : S.tm.length<=t:=by rw [<-h.len]; exact hl
    simp [St.slot,List.getD_eq_getElem?_getD,List.getElem?_eq_none hl']
   rw [this];trivial
 | const v=>
  simp only [opA]
  split
  ·rename_i u hu; exact sk hu
  ·trivial
 | global g=>trivial
 | func f=>trivial
theorem rU (h:Rel C S θ a w):∀ (ps:List Sh) (xs:List Operand) (as:List AV),Kk S ps xs=some as->WTl ps as/\CVt w (qx C w S θ) θ as (xs.map a.eval)
 | [],[],as,hh=>by cases hh; exact ⟨rfl,rfl⟩
 | s::ps,x::xs,as,hh=>by
  simp only [Kk] at hh
  split at hh <;> first | (cases hh; done) | skip
  rename_i u hu;obtain ⟨r,h1,rfl⟩:=zO hh;obtain ⟨h2,h3⟩:=rU h ps xs r h1;obtain ⟨h4,h5⟩:=gB h (uL h x) hu;exact ⟨⟨u,r,rfl,h4,h2⟩,_,_,rfl,h5,h3⟩
 | [],_::_,as,hh=>by cases hh
 | _::_,[],as,hh=>by cases hh
theorem lr {ok ok' : Nat->Prop} {θ1:Nm->Option Value} (hok:∀ b,ok b->ok' b):∀ (ps:List Sh) (as:List AV) (vs:List Value),(ps.all fun s=>inF [] s)=true->WTl ps as->CVt w ok θ as vs->CVt w ok' θ1 as vs
 | [],as,vs,_,hw,h=>by
  have hw:as=[]:=hw;subst hw;exact h
 | s::ps,as,vs,hi,hw,h=>by
  obtain ⟨u,r,rfl,h1,h2⟩:=hw;obtain ⟨v,rest,rfl,h3,h4⟩:=h;rw [List.all_cons,Bool.and_eq_true] at hi;exact ⟨v,rest,rfl,ja (fs:=[]) (fun D hD=>by cases hD) hok s u v h1 hi.1 h3,lr hok ps r rest hi.2 h2 h4⟩
theorem tN {ok:Nat->Prop}:∀ {as:List AV} {vs:List Value},CVt w ok θ as vs->∀ (i:Nat) v,vs[i]? = some v->∃ x,as[i]? = some x/\CV w ok θ x v
 | [],vs,h,i,v,hi=>by have h:vs=[]:=h; subst h; simp at hi
 | a::as,vs,h,i,v,hi=>by
  obtain ⟨u,rest,rfl,h1,h2⟩:=h
  cases i with
  | zero=>simp at hi; subst hi; exact ⟨a,rfl,h1⟩
  | succ i=>simpa using tN h2 i v (by simpa using hi)
theorem Qs (h:Rel C S θ a w) {ps:List Sh} {as:List AV} {args:Array Value} (hps:(ps.all fun s=>inF [] s)=true) (hw:WTl ps as) (ha:CVt w (qx C w S θ) θ as args.toList) (m:Nat) :
  ∃ C1:Ctx,C1.E=C.E/\C1.w0=w/\(∀ b,¬ C1.I b)/\(∀ d,C1.pin d=none)/\Rel C1 ⟨as++List.replicate (m - as.length) .undef,[],[]⟩ (fun _=>none) { tmps:=args++Array.replicate (m - args.size) undef,defers:=[] } w:=by
 let C1:Ctx:={ w0:=w,I:=fun _=>False,F:=fun b=>b<w.heap.size/\¬ qx C w S θ b,E:=C.E,ib:=fun b h=>h.elim,fb:=fun b h=>h.1,iF:=fun b h=>h.elim,gd:=C.gd }
 have hlen:as.length=args.size:=by rw [<-Array.length_toList]; exact kD ha
 have hok:∀ b,qx C w S θ b->qx C1 w ⟨as++List.replicate (m - as.length) .undef,[],[]⟩ (fun _=>none) b:=by
  intro b hb;refine ⟨hb.1,fun hf=>hf.2 hb,?_⟩
  rintro ⟨d,o,v,_,_,h3,_⟩
  cases h3
 have hno:∀ d,¬ (⟨as++List.replicate (m - as.length) .undef,[],[]⟩ : St).has d:=by
  intro d hd
  cases d with
  | top e=>exact hd rfl
  | mem f i=>obtain ⟨F,h1,_⟩:=hd; cases h1
 have ha':=lr (θ1:=fun _=>none) hok ps as args.toList hps hw ha;refine ⟨C1,rfl,rfl,fun b h=>h,fun d=>rfl,⟨by simp [hlen],fun i v hi=>?_,fun d o hd _=>(hno d hd).elim,fun d _=>rfl,fun d d' o o' v v' b _ _ _ _ _ h5=>(by cases h5),rfl,rfl,⟨rfl,.inr trivial⟩,Nat.le_refl _,fun b _ _=>rfl,fun g t hgt=>?_,fun d v hv=>(by cases hv),fun d v hv=>(by cases hv)⟩⟩
 ·by_cases hlt:i<args.size
  ·have hi' : args.toList[i]? = some v:=by
    rw [Array.getElem?_append_left hlt] at hi;simpa using hi
   obtain ⟨x,h1,h2⟩:=tN ha' i v hi'
   have:(⟨as++List.replicate (m - as.length) .undef,[],[]⟩ : St).slot i=x:=by
    simp only [St.slot,List.getD_eq_getElem?_getD];rw [List.getElem?_append_left (by omega),h1];rfl
   rw [this];exact h2
  ·have:(⟨as++List.replicate (m - as.length) .undef,[],[]⟩ : St).slot i=.undef:=by
    simp only [St.slot,List.getD_eq_getElem?_getD];rw [List.getElem?_append_right (by omega),List.getElem?_replicate]
    split <;> rfl
   rw [this];trivial
 ·obtain ⟨s,hs,hsi⟩:=C.gd g t hgt;obtain ⟨ad,u,h1,h2,h3,h4⟩:=h.globs g t hgt;exact ⟨ad,u,h1,hok _ h2,ja (fs:=[]) (fun D hD=>by cases hD) hok s t u hs hsi h3,h4⟩
theorem WP {C1:Ctx} (hI:∀ b,¬ C1.I b) (h:Rel C1 S θ a w'):WU C1.w0 w':=
 ⟨h.size,fun b hb=>h.frame b hb (hI b),h.os,h.tape,h.output⟩
def QT {R:Type} (x:R) (e:Ex) (S:St):Option R:=match e with | .pan=>some x | _=>none
theorem mK {E:Env} {cal:FuncId->Option Cal} (hcal:∀ f c,cal f=some c->qU P E f c) (hm:P.follows .mixedOrders=true) {H:zi} {f:FuncId} {fn:Func} {body:Code} {ps:List Sh} {B:List AV->Bool}
  (hf : P.funcs[f]? = some fn) (hb : fn.body = some body) (hn : fn.name ≠ "runtime.NumGoroutine") (hps : (ps.all fun s => inF [] s) = true)
  (hov:∀ C:Ctx,C.E=E->OvOk pN C P H body) (hpan:∀ C:Ctx,C.E=E->PanH C P H body)
  (hrun:∀ as,B as=true->WTl ps as->∃ n,zD n fn.ntmps ⟨[],[]⟩ P E cal H body ⟨as++List.replicate (fn.ntmps - as.length) .undef,[],[]⟩ (QT ())=some ()):wX P E f ps B:=by
 refine ⟨⟨fn,hf,by rw [hb]; rfl,hn⟩,hps,fun as C S θ a w args hB hE hr hw ha=>?_⟩;obtain ⟨C1,hE1,hw1,hI1,hp1,hr1⟩:=Qs hr hps hw ha fn.ntmps;obtain ⟨n,hx⟩:=hrun as hB hw;subst hE;refine calls_of_wp_defers hf hb ?_;rw [<-hE1] at hx hcal;refine yE lM (pn:=⟨[],[]⟩) (fun d v hd=>by rw [hp1] at hd; cases hd) hcal hm body (hov C1 hE1) (hpan C1 hE1) _ _ _ hx _ _ w hr1 _ (fun e S' θ' a' w' hk hr' hd'=>?_)
 cases e with
 | nrm=>cases hk
 | ext i=>cases hk
 | ret=>cases hk
 | pan=>
  intro chain hc
  show Leaves P fn a'.tmps _ a'.defers (.panicking chain) w';rw [show a'.defers=[] from hd'];exact ⟨chain,rfl,hc,by rw [<-hw1]; exact WP hI1 hr'⟩
theorem Zt {ops:Array Oper} {i:Nat} {f:FuncId} {xs:Array Operand} {ats:Array TypeId} {ps:List Sh} {B:List AV->Bool} (hi:ops[i]? = some o) (hg:o.guard=none) (ho:o.op=.call { callee:=.value (.func f),args:=xs,argTypes:=ats }) (hs:wX P C.E f ps B)
  (S:St) (θ:Nm->Option Value) (a:Act) (w:World) (hB:nU ps xs.toList B S=true) (hr:Rel C S θ a w)
  (Q:Exit->Act->World->Prop) (hQ:∀ chain a' w' θ',uw chain->Rel C S θ' a' w'->a'.defers=a.defers->Q (.panic chain) a' w'):wpOps P ops Q (List.range' i (ops.size - i)) a w:=by
 have hl:i<ops.size:=(Array.getElem?_eq_some_iff.1 hi).1;obtain ⟨k,hk⟩ : ∃ k,ops.size - i=k+1:=⟨ops.size - i - 1,by omega⟩;rw [hk,List.range'_succ,wpOps_cons];unfold wpOp;rw [hi];simp only;rw [if_pos (by simp [Region.wanted,hg])];refine .inl ?_;unfold nU at hB
 split at hB <;> first | (cases hB; done) | skip
 rename_i as has;obtain ⟨h1,h2⟩:=rU hr ps _ as has;obtain ⟨⟨fn,hf,hbody,hn⟩,hps,hc⟩:=hs;have hcall:=hc as C S θ a w (xs.map a.eval) hB rfl hr h1 (by simpa using h2);unfold Oper.wp;obtain ⟨body,hbody⟩:=Option.isSome_iff_exists.1 hbody
 have hrun:(execOp a.eval o).run P w=.ok (.enter f (xs.map a.eval)) w:=by
  simp only [execOp,ho,resolve,Act.eval,Deferred.ofValue,Sem.run_bind,Sem.run_pure,Result.andThen_ok,invoke,Array.append_empty,Array.empty_append];exact vW hf (by rw [hbody]; rfl) hn
 rw [hrun,Oper.upon_enter];refine Calls.mono hcall ?_
 rintro e w' ⟨chain,rfl,hc1,hc2⟩
 exact hQ chain a w' θ hc1 (hr.grown hc2) rfl
theorem VS {ops:Array Oper} {i:Nat} {o1 o2:Oper} {d:Nat} {t u:TypeId} {v:Operand} (hsz:ops.size=i+2) (hi:ops[i]? = some o1) (hi2:ops[i+1]? = some o2) (g1:o1.guard=none) (p1:o1.op=.makeInterface t v) (d1:o1.dst=some d)
  (g2:o2.guard=none) (p2:o2.op=.panic (.tmp d)) (ht:∃ x,P.underlying t=some x/\∀ k,x≠.interface k)
  (S:St) (θ:Nm->Option Value) (a:Act) (w:World) (hB:sY d S=true) (hr:Rel C S θ a w)
  (Q:Exit->Act->World->Prop) (hQ:∀ chain a' w' θ',uw chain->Rel C S θ' a' w'->a'.defers=a.defers->Q (.panic chain) a' w'):wpOps P ops Q (List.range' i (ops.size - i)) a w:=by
 rw [hsz,show i+2 - i=2 by omega]
 show wpOps P ops Q [i,i+1] a w;unfold sY at hB
 split at hB <;> first | (cases hB; done) | skip
 rename_i hund;have hlt:d<S.tm.length:=by simpa using hB
 rw [wpOps_cons];unfold wpOp;rw [hi];simp only;rw [if_pos (by simp [Region.wanted,g1])];refine .inl ?_;unfold Oper.wp;obtain ⟨x,hx,hxi⟩:=ht
 have hrun:(execOp a.eval o1).run P w=.ok (.value (.iface t (a.eval v))) w:=by
  simp only [execOp,p1,Sem.run_bind,Instr.makeInterface,run_underlying hx,Result.andThen_ok]
  cases x <;> first | simp | exact (hxi _ rfl).elim
 rw [hrun,Oper.upon_value,d1];have hr1:Rel C (S.qe d .undef) θ (a.put (some d) (.iface t (a.eval v))) w:=hr.put trivial
 have hS:S.qe d .undef=S:=by
  have:S.tm.set d .undef=S.tm:=by
   apply List.ext_getElem?;intro j;rw [List.getElem?_set]
   split
   ·rename_i e;subst e;have:S.slot d=.undef:=hund;simp only [St.slot,List.getD_eq_getElem?_getD,List.getElem?_eq_getElem hlt,Option.getD_some] at this;rw [List.getElem?_eq_getElem hlt,this]
   ·rfl
  unfold St.qe;rw [this]
 rw [hS] at hr1
 have hev:(a.put (some d) (.iface t (a.eval v))).eval (.tmp d)=.iface t (a.eval v):=by
  have:d<a.tmps.size:=by rw [hr.len]; exact hlt
  simp [Act.eval,Act.put,this]
 have hdf:(a.put (some d) (.iface t (a.eval v))).defers=a.defers:=rfl;generalize a.put (some d) (.iface t (a.eval v))=a1 at hr1 hev hdf;rw [wpOps_cons];unfold wpOp;rw [hi2];simp only;rw [if_pos (by simp [Region.wanted,g2])];refine .inl ?_;unfold Oper.wp
 have hrun2:(execOp a1.eval o2).run P w=.halt (.panic (.iface t (a.eval v))) w:=by
  simp [execOp,p2,Sem.run_bind,Instr.panic,hev,goPanic]
 rw [hrun2];exact hQ _ a1 w θ ⟨_,_,rfl⟩ hr1 hdf
end
end Go.Am
end
section
set_option linter.unusedVariables false
set_option linter.unusedSimpArgs false
namespace Go.Am
open Go.RowKit
section
variable {C:Ctx} {S S' T:St} {θ θ' : Nm->Option Value} {a:Act} {w w' : World} {n m:Nat} {P:Program} {o:Oper}
theorem Rel.reframe (h:Rel C S θ a w) (tm:List AV) (a2:Act) (hl:a2.tmps.size=tm.length) (hs:∀ (i:Nat) v,a2.tmps[i]? = some v->CV w (qx C w S θ) θ (tm.getD i .undef) v):Rel C ⟨tm,S.ob,S.fm⟩ θ a2 w:=
 ⟨hl,hs,fun d o hd ho=>h.objs d o (by cases d <;> exact hd) (by cases d <;> exact ho),fun d hd=>h.fresh d (fun hh=>hd (by cases d <;> exact hh)),fun d d' o o' v v' b h1 h2=>h.sep d d' o o' v v' b (by cases d <;> exact h1) (by cases d' <;> exact h2),h.os,h.tape,h.output,h.size,h.frame,h.globs,h.base,h.pin⟩
noncomputable def fc (C:Ctx) (θ:Nm->Option Value) (ts:List Nm):Nm->Option Value:=open Classical in fun d=>if d∈ts then θ d else C.pin d
theorem Rel.pinned (h:Rel C S θ a w) (ts:List Nm):Rel { C with pin:=fc C θ ts } S θ a w:=
 ⟨h.len,h.slots,h.objs,h.fresh,h.sep,h.os,h.tape,h.output,h.size,h.frame,h.globs,h.base,fun d v hd=>by
  have hd:fc C θ ts d=some v:=hd;unfold fc at hd
  split at hd
  ·exact hd
  ·exact h.pin d v hd⟩
theorem Rel.unpin {π:Nm->Option Value} (h:Rel { C with pin:=π } S θ a w) (hπ:∀ d v,C.pin d=some v->π d=some v):Rel C S θ a w:=
 ⟨h.len,h.slots,h.objs,h.fresh,h.sep,h.os,h.tape,h.output,h.size,h.frame,h.globs,h.base,fun d v hd=>h.pin d v (hπ d v hd)⟩
theorem oh (h:Rel C S θ a w) (ts:List Nm):∀ d v,C.pin d=some v->fc C θ ts d=some v:=by
 intro d v hd;unfold fc
 split
 ·exact h.pin d v hd
 ·exact hd
theorem Rel.slotRef (h:Rel C S θ a w) {t:Nat} {d:Nm} (ht:S.slot t=.ref d 0):θ d=some (a.eval (.tmp t))/\∃ g,a.eval (.tmp t)=.pointer (some ⟨g,0,none⟩):=by
 have:=uL h (.tmp t);rw [show opA S (.tmp t)=S.slot t from rfl,ht] at this;obtain ⟨g,h1,h2⟩:=this;exact ⟨by rw [h2]; exact h1,g,h2⟩
theorem om {ops:Array Oper} {id:Nat} {o1 o2:Oper} {f:FuncId} {ts:List Nat} {dst:Nat} {rest:Code} (hops:ops = #[o1,o2]) (g1:o1.guard=none) (p1:o1.op=.makeFunc (.func f) #[] (ts.map Operand.tmp).toArray) (d1:o1.dst=some dst)
  (g2:o2.guard=none) (p2:o2.op=.defer { callee:=.value (.tmp dst),args:=#[],argTypes:=#[] }) (d2:o2.dst=none)
  (hlt:dst<S.tm.length) (hts:∀ t∈ts,S.slot t=.ref (.top t) 0) (hr:Rel C S θ a w) (Q:Exit->Act->World->Prop)
  (hQ:∀ (us:Array Value) (π:Nm->Option Value) (a' : Act),(ts.map fun t=>π (.top t))=us.toList.map some->(∀ u∈us.toList,∃ g,u=.pointer (some ⟨g,0,none⟩))->(∀ d v,C.pin d=some v->π d=some v)->(∀ d v,π d=some v->C.pin d=some v\/∃ t∈ts,d=.top t)->
   Rel { C with pin:=π } (S.qe dst .undef) θ a' w->a'.defers={ target:=.fn (.func f) us,args:=#[] }::a.defers->rest.wp P Q a' w) :
  (Code.seq (.region id ops false) rest).wp P Q a w:=by
 subst hops;refine wp_seq (wp_region ?_)
 show wpOps P #[o1,o2] _ [0,1] a w;rw [wpOps_cons];unfold wpOp;simp only [show (#[o1,o2]:Array Oper)[0]? = some o1 from rfl];rw [if_pos (by simp [Region.wanted,g1])];refine .inl ?_;unfold Oper.wp
 have hrun:(execOp a.eval o1).run P w=.ok (.value (.func (.func f) #[] ((ts.map Operand.tmp).toArray.map a.eval))) w:=by
  simp [execOp,p1,Instr.makeFunc]
 rw [hrun,Oper.upon_value,d1];have hr0:=hr.pinned (ts.map Nm.top)
 have hus:(ts.map fun t=>fc C θ (ts.map Nm.top) (.top t))=((ts.map Operand.tmp).toArray.map a.eval).toList.map some:=by
  simp only [List.map_toArray,List.map_map,List.toList_toArray];refine List.map_congr_left (fun t ht=>?_);unfold fc;rw [if_pos (List.mem_map.2 ⟨t,ht,rfl⟩)];exact (hr.slotRef (hts t ht)).1
 have hptr:∀ u∈((ts.map Operand.tmp).toArray.map a.eval).toList,∃ g,u=.pointer (some ⟨g,0,none⟩):=by
  intro u hu;simp only [List.map_toArray,List.map_map,List.toList_toArray,List.mem_map] at hu;obtain ⟨t,ht,rfl⟩:=hu;exact (hr.slotRef (hts t ht)).2
 generalize (ts.map Operand.tmp).toArray.map a.eval=us at hus hptr;have hr1:Rel { C with pin:=fc C θ (ts.map Nm.top) } (S.qe dst .undef) θ (a.put (some dst) (.func (.func f) #[] us)) w:=hr0.put trivial
 have hev:(a.put (some dst) (.func (.func f) #[] us)).eval (.tmp dst)=.func (.func f) #[] us:=by
  have:dst<a.tmps.size:=by rw [hr.len]; exact hlt
  simp [Act.eval,Act.put,this]
 have hdf:(a.put (some dst) (.func (.func f) #[] us)).defers=a.defers:=rfl;generalize a.put (some dst) (.func (.func f) #[] us)=a1 at hr1 hev hdf;rw [wpOps_cons];unfold wpOp;simp only [show (#[o1,o2]:Array Oper)[1]? = some o2 from rfl];rw [if_pos (by simp [Region.wanted,g2])];refine .inl ?_;unfold Oper.wp
 have hrun2:(execOp a1.eval o2).run P w=.ok (.defer { target:=.fn (.func f) us,args:=#[] }) w:=by
  simp [execOp,p2,resolve,hev,Deferred.ofValue]
 rw [hrun2,Oper.upon_defer,d2]
 show rest.wp P Q _ _;refine hQ us (fc C θ (ts.map Nm.top)) _ hus hptr (oh hr _) (fun d v hd=>?_) (hr1.deferred _) (by show _::a1.defers=_; rw [hdf]);unfold fc at hd
 split at hd
 ·rename_i hm;obtain ⟨t,ht,rfl⟩:=List.mem_map.1 hm;exact .inr ⟨t,ht,rfl⟩
 ·exact .inl hd
def lv (ts:List Nat) (m:Nat):List AV:=(List.range m).map fun i=>if i∈ts then .ref (.top i) 0 else .undef
theorem QG {f:FuncId} {fn:Func} {i:Nat} {q1 q2:Oper} {X:Code} {d1 d2:Nat} {at1:Array TypeId} {ts:List Nat} {π:Nm->Option Value} {us:Array Value} {cal:FuncId->Option Cal} {H:zi} {R:Type} {K:Ex->St->Option R} {x:R}
  (hcal:∀ f c,cal f=some c->qU P C.E f c) (hm:P.follows .mixedOrders=true)
  (hf : P.funcs[f]? = some fn) (hb : fn.body = some (.seq (.region i #[q1, q2] false) (.cond (.tmp d2) X .skip))) (hn : fn.name ≠ "runtime.NumGoroutine") (hres : fn.results = #[])
  (g1:q1.guard=none) (p1:q1.op=.call { callee:=.builtin .recover,args:=#[],argTypes:=at1 }) (r1:q1.dst=some d1) (g2:q2.guard=none) (r2:q2.dst=some d2)
  (hd1:ts.length<=d1/\d1<fn.ntmps) (hd2:ts.length<=d2/\d2<fn.ntmps) (hx:∀ (a:Act) (w:World) t u,a.eval (.tmp d1)=.iface t u->(execOp a.eval q2).run P w=.ok (.value (.bool true)) w)
  (hov:∀ C:Ctx,OvOk pN C P H X) (hpan:∀ C:Ctx,PanH C P H X)
  (hus:(ts.map fun t=>π (.top t))=us.toList.map some) (hptr:∀ u∈us.toList,∃ g,u=.pointer (some ⟨g,0,none⟩))
  {pn:Pn} (hpn:xp { C with pin:=π } pn)
  (hex:zD n fn.ntmps pn P C.E cal H X ⟨(ts.map fun t=>AV.ref (.top t) 0)++List.replicate (fn.ntmps - ts.length) .undef,S.ob,S.fm⟩ K=some x) (hK:∀ e S,e≠.nrm->K e S=none)
  (hr:Rel { C with pin:=π } S θ a w) (hts:∀ t∈ts,S.slot t=.ref (.top t) 0) {chain:List PanicEntry} (hc:uw chain) :
  CallsD P f us (.panicking chain) w fun e u' w''=>(∃ v,e=.returned v)/\settle u' = .returning/\∃ S3 θ'',K .nrm S3=some x/\Rel { C with pin:=π } ⟨lv ts S.tm.length,S3.ob,S3.fm⟩ θ'' a w'':=by
 have hlen:us.size=ts.length:=by
  have:=congrArg List.length hus;simpa using this.symm
 have hget:∀ (j t:Nat) (u:Value),ts[j]? = some t->us[j]? = some u->π (.top t)=some u:=by
  intro j t u h1 h2;have h3:=congrArg (fun l=>l[j]?) hus;simp only [List.getElem?_map,h1,Option.map_some,Array.getElem?_toList,h2] at h3;exact Option.some.inj h3
 obtain ⟨ty,u0,rfl⟩:=hc;refine callsD_of_wpS hf hb (fun c₀ cs hu=>?_);refine wpS_seq (wpS_region ?_)
 show wpOpsS P #[q1,q2] _ [0,1] _ _ w;have hsz:(us++Array.replicate (fn.ntmps - us.size) undef).size=fn.ntmps:=by simp; omega
 have hfr:Rel { C with pin:=π } ⟨(ts.map fun t=>AV.ref (.top t) 0)++List.replicate (fn.ntmps - ts.length) .undef,S.ob,S.fm⟩ θ { tmps:=us++Array.replicate (fn.ntmps - us.size) undef,defers:=[] } w:=by
  refine hr.reframe _ _ (by simp [hlen]) (fun j v hj=>?_)
  rcases Nat.lt_or_ge j ts.length with hl | hl
  ·have h1:((ts.map fun t=>AV.ref (.top t) 0)++List.replicate (fn.ntmps - ts.length) AV.undef).getD j .undef=.ref (.top ts[j]) 0:=by
    rw [List.getD_eq_getElem?_getD,List.getElem?_append_left (by simpa using hl)];simp [hl]
   rw [h1]
   have h2:us[j]? = some v:=by
    rw [Array.getElem?_append_left (by omega)] at hj;exact hj
   have h3:=hget j ts[j] v (List.getElem?_eq_getElem hl) h2
   obtain ⟨g,hg⟩:=hptr v (by
    have:us.toList[j]? = some v:=by simpa using h2
    exact List.mem_of_getElem? this)
   exact ⟨g,by rw [<-hg]; exact hr.pin _ _ h3,hg⟩
  ·have h1:((ts.map fun t=>AV.ref (.top t) 0)++List.replicate (fn.ntmps - ts.length) AV.undef).getD j .undef=.undef:=by
    rw [List.getD_eq_getElem?_getD,List.getElem?_append_right (by simpa using hl),List.getElem?_replicate]
    split <;> rfl
   rw [h1];trivial
 generalize us++Array.replicate (fn.ntmps - us.size) undef=tm at hsz hfr;simp only [wpOpsS,show (#[q1,q2]:Array Oper)[0]? = some q1 from rfl,show (#[q1,q2]:Array Oper)[1]? = some q2 from rfl];rw [if_pos (by simp [Region.wanted,g1])]
 have hrun:∀ ρ,(execOp ρ q1).run P w=.ok .recover w:=fun ρ=>by
  simp [execOp,p1,resolve,invoke,builtin]
 rw [hrun];have hrec:recoverD (c₀::cs)=some (.iface ty u0,{ c₀ with mode:=.panicking [{ v:=.iface ty u0,recovered:=true }] }::cs):=by simp [recoverD,hu]
 simp only [hrec];rw [if_pos (by simp [Region.wanted,g2])];rw [r1,r2]
 have hund:∀ d,ts.length<=d->(⟨(ts.map fun t=>AV.ref (.top t) 0)++List.replicate (fn.ntmps - ts.length) .undef,S.ob,S.fm⟩ : St).qe d .undef=⟨(ts.map fun t=>AV.ref (.top t) 0)++List.replicate (fn.ntmps - ts.length) .undef,S.ob,S.fm⟩:=by
  intro d hd;unfold St.qe;dsimp only
  congr 1
  apply List.ext_getElem?;intro j;rw [List.getElem?_set]
  split
  ·rename_i e;subst e
   split
   ·rename_i hlt;rw [List.getElem?_append_right (by simpa using hd),List.getElem?_replicate,if_pos (by simp at hlt ⊢; omega)]
   ·rename_i hlt;rw [List.getElem?_eq_none (by simpa using hlt)]
  ·rfl
 have hfr1:Rel { C with pin:=π } _ θ (Act.put { tmps:=tm,defers:=[] } (some d1) (.iface ty u0)) w:=hfr.put (x:=.undef) trivial;rw [hund d1 hd1.1] at hfr1
 have hev:(Act.put { tmps:=tm,defers:=[] } (some d1) (.iface ty u0)).eval (.tmp d1)=.iface ty u0:=by
  have:d1<tm.size:=by omega
  simp [Act.eval,Act.put,this]
 rw [hx _ w ty u0 hev];simp only [Oper.upon_value]
 have hev2:(Act.put (Act.put { tmps:=tm,defers:=[] } (some d1) (.iface ty u0)) q2.dst (.bool true)).eval (.tmp d2)=.bool true:=by
  have:d2<tm.size:=by omega
  simp [Act.eval,Act.put,r2,this]
 have hdf:(Act.put (Act.put { tmps:=tm,defers:=[] } (some d1) (.iface ty u0)) q2.dst (.bool true)).defers=[]:=by
  rw [r2]; rfl
 have hfr2:Rel { C with pin:=π } ⟨(ts.map fun t=>AV.ref (.top t) 0)++List.replicate (fn.ntmps - ts.length) .undef,S.ob,S.fm⟩ θ (Act.put (Act.put { tmps:=tm,defers:=[] } (some d1) (.iface ty u0)) q2.dst (.bool true)) w:=by
  rw [r2];have:=hfr1.put (d:=d2) (x:=.undef) (v:=.bool true) trivial;rw [hund d2 hd2.1] at this;exact this
 generalize Act.put (Act.put { tmps:=tm,defers:=[] } (some d1) (.iface ty u0)) q2.dst (.bool true)=a2 at hev2 hdf hfr2
 show (Code.cond (.tmp d2) X .skip).wpS P _ a2 _ w;refine wpS_cond hev2 (wpS_of_wp ?_);rw [if_pos rfl];refine yE lM hpn hcal hm X (hov _) (hpan _) _ _ x hex θ a2 w hfr2 _ (fun e S' θ' a' w' hk hr' hd'=>?_);have hd' : a'.defers=a2.defers:=hd';have he:e=.nrm:=Classical.byContradiction fun he=>by rw [hK e S' he] at hk; cases hk
 subst he;refine ⟨hd'.trans hdf,.panicking [{ v:=.iface ty u0,recovered:=true }],rfl,.tuple #[],by simp [results,hres],⟨_,rfl⟩,rfl,S',θ',hk,?_⟩;refine hr'.reframe _ _ (by rw [hr.len]; simp [lv]) (fun j v hj=>?_);have hjl:j<S.tm.length:=by rw [<-hr.len]; exact (Array.getElem?_eq_some_iff.1 hj).1
 have hk:(lv ts S.tm.length).getD j .undef=if j∈ts then .ref (.top j) 0 else .undef:=by
  simp [lv,List.getD_eq_getElem?_getD,hjl]
 rw [hk]
 split
 ·rename_i hjt;obtain ⟨k,hkk⟩:=List.getElem?_of_mem hjt;have hkl:k<us.size:=by rw [hlen]; exact (List.getElem?_eq_some_iff.1 hkk).1
  have h1:=hget k j us[k] hkk (Array.getElem?_eq_getElem hkl);have h2:=hr.slots j v hj;rw [hts j hjt] at h2;obtain ⟨g,h3,h4⟩:=h2;have h5:=hr.pin _ _ h1;rw [h5] at h3;exact ⟨g,by rw [<-h3]; exact hr'.pin _ _ h1,h4⟩
 ·trivial
end
end Go.Am
end
section
set_option linter.unusedVariables false
set_option linter.unusedSimpArgs false
namespace Go.Am
open Go.RowKit
structure Inl where
 f:FuncId
 body:Code
 m:Nat
 H:zi
 pn:Pn
 rs:List Nat
def fF (pn:Pn):Nm->Bool
 | .top d=>zS pn.tops d
 | .mem f _=>zS pn.fams f
mutual
def shK (pn:Pn):Sh->Bool
 | .pt f=>zS pn.fams f
 | .mp f=>zS pn.fams f
 | .agg l=>Ww pn l
 | .fv s=>shK pn s
 | _=>true
def Ww (pn:Pn):List Sh->Bool
 | []=>true
 | s::l=>shK pn s && Ww pn l
end
mutual
def jA (pn:Pn):AV->Bool
 | .own d=>fF pn d
 | .win d _ _ _=>fF pn d
 | .wina d _ _ _ _=>fF pn d
 | .ref d _=>fF pn d
 | .refa d _ _ _=>fF pn d
 | .eref d _ _ _=>fF pn d
 | .refw d _ _ _ _=>fF pn d
 | .agg cs=>wB pn cs
 | .fv s _=>shK pn s
 | .fp t=>jA pn t
 | .tup vs=>wB pn vs
 | .clo _ caps=>wB pn caps
 | .pt f _=>zS pn.fams f
 | .mp f _=>zS pn.fams f
 | _=>true
def wB (pn:Pn):List AV->Bool
 | []=>true
 | a::as=>jA pn a && wB pn as
end
def yr (pn:Pn):List AV->List AV
 | []=>[]
 | x::r=>(match jA pn x with | true=>x | false=>.undef)::yr pn r
def ow (S:St) (rs:List Nat):AV:=match rs with
 | [r]=>S.slot r
 | rs=>.tup (rs.map S.slot)
def nt (S:St) (q:Operand):Option (FuncId × List AV):=match q with
 | .func f=>some (f,[])
 | q=>match opA S q with
  | .fn f=>some (f,[])
  | .clo f caps=>some (f,caps)
  | _=>none
def tL (S:St) (d:Option Nat) (x:AV):St:=match d with | some d=>S.qe d x | none=>S
def tO:List (Nat × Ob)->Bool
 | []=>true
 | p::r=>(match p.2 with | .iter _ _ _ _ _=>false | _=>true) && tO r
theorem pB {f i:Nat} {since:Int} {seen:List Int} {c0:Int}:∀ {l:List (Nat × Ob)} {d:Nat},tO l=true->kp l d=some (.iter f i since seen c0)->False
 | [],d,_,h=>by cases h
 | p::r,d,hn,h=>by
  simp only [tO,Bool.and_eq_true] at hn;simp only [kp] at h
  split at h
  ·have e:=Option.some.inj h;rw [e] at hn
   cases hn.1
  ·exact pB hn.2 h
noncomputable def VK (P:Program) (E:Env) (cal:FuncId->Option Cal) (J:Inl) (ops:List Oper) (i:Nat) (q:Operand) (xs:List Operand) (dst:Option Nat) (R:Type) (n:Nat) (S:St) (K:St->Option R):Option R:=
 kI n P E cal ops 0 (ops.take i) S fun S1=>match nt S1 q with
  | some (f,caps)=>brO (Nat.beq f J.f && tO S1.ob) (zD n J.m J.pn P E cal J.H J.body ⟨(xs.map (opA S1)++caps)++List.replicate (J.m - (xs.map (opA S1)++caps).length) .undef,S1.ob,S1.fm⟩ fun e S3=>match e with
    | .nrm=>kI n P E cal ops (i+1) (ops.drop (i+1)) (tL ⟨yr J.pn S1.tm,S3.ob,S3.fm⟩ dst (ow S3 J.rs)) K
    | .ret=>kI n P E cal ops (i+1) (ops.drop (i+1)) (tL ⟨yr J.pn S1.tm,S3.ob,S3.fm⟩ dst (ow S3 J.rs)) K
    | _=>none) none
  | none=>none
noncomputable def an (P:Program) (E:Env) (cal:FuncId->Option Cal) (J:Inl) (ops:List Oper) (i:Nat) (R:Type) (n:Nat) (S:St) (K:St->Option R):Option R:=
 match ops[i]? with
 | some o=>match o.op with
  | .call c=>match c.callee with
   | .value q=>VK P E cal J ops i q c.args.toList o.dst R n S K
   | _=>none
  | _=>none
 | none=>none
def jg (id:Nat) (c:Code):List Oper:=match ka id c with | x::_=>x.1.toList | []=>[]
section
variable {C:Ctx} {S S' T:St} {θ θ' : Nm->Option Value} {a:Act} {w w' : World} {n m:Nat} {P:Program} {o:Oper} {ok ok' : Nat->Prop} {pn:Pn}
mutual
theorem bZ:∀ (s:Sh) (x:AV),shK pn s=true->WT s x->jA pn x=true
 | .int k,x,_,h=>by obtain ⟨n,rfl⟩:=h; rfl
 | .bool,x,_,h=>by obtain ⟨n,rfl⟩:=h; rfl
 | .str,x,_,h=>by obtain ⟨n,rfl⟩:=h; rfl
 | .arr k n,x,_,h=>by obtain ⟨n,rfl⟩:=h; rfl
 | .agg l,x,hs,h=>by
  obtain ⟨cs,rfl,hc⟩:=h;exact cb l cs hs hc
 | .fs k,x,_,h=>by obtain ⟨n,rfl⟩:=h; rfl
 | .nl k,x,_,h=>by rcases h with rfl | ⟨n,rfl⟩ <;> rfl
 | .fv s,x,hs,h=>by obtain ⟨n,rfl⟩:=h; exact hs
 | .pt f,x,hs,h=>by obtain ⟨n,rfl⟩:=h; exact hs
 | .mp f,x,hs,h=>by obtain ⟨n,rfl⟩:=h; exact hs
theorem cb:∀ (l:List Sh) (cs:List AV),Ww pn l=true->WTs l cs->wB pn cs=true
 | [],cs,_,h=>by simp only [WTs] at h; subst h; rfl
 | s::l,cs,hs,h=>by
  obtain ⟨c,r,rfl,h1,h2⟩:=h;have hs:(shK pn s && Ww pn l)=true:=hs;rw [Bool.and_eq_true] at hs
  show (jA pn c && wB pn r)=true;rw [bZ s c hs.1 h1,cb l r hs.2 h2];rfl
end
mutual
theorem mJ (hok:∀ b,ok b->ok' b) (hheap:∀ b,ok b->w'.heap[b]? = w.heap[b]?) (hθ:∀ d,fF pn d=true->∀ x,θ d=some x->θ' d=some x):∀ (a:AV) (v:Value),jA pn a=true->CV w ok θ a v->CV w' ok' θ' a v
 | .undef,v,_,hv=>trivial
 | .bool b,v,_,hv=>hv
 | .int k n,v,_,hv=>hv
 | .str l,v,_,hv=>hv
 | .nils,v,_,hv=>hv
 | .nilp,v,_,hv=>hv
 | .nili,v,_,hv=>hv
 | .arr k n xs,v,_,hv=>hv
 | .agg cs,v,hn,hv=>by
  obtain ⟨vs,rfl,hc⟩:=hv;exact ⟨vs,rfl,pX hok hheap hθ cs _ hn hc⟩
 | .fs k xs,v,_,hv=>by
  obtain ⟨A,c,rfl,hc,hr⟩:=hv;refine ⟨A,c,rfl,hc,fun h0=>?_⟩;obtain ⟨ad,rfl,ho,hce⟩:=hr h0;exact ⟨ad,rfl,hok _ ho,vJ (hheap _ ho) hce⟩
 | .fv s xs,v,hn,hv=>by
  obtain ⟨A,c,cs,rfl,hc,hw,hs,hr⟩:=hv
  have hL:∀ (l:List AV),(∀ x∈l,WT s x)->wB pn l=true:=by
   intro l
   induction l with
   | nil=>intro _; rfl
   | cons x l ih=>
    intro hl
    show (jA pn x && wB pn l)=true;rw [bZ s x hn (hl x (by simp)),ih (fun y hy=>hl y (by simp [hy]))];rfl
  refine ⟨A,c,cs,rfl,hc,hw,pX hok hheap hθ xs cs (hL xs hw) hs,fun h0=>?_⟩;obtain ⟨ad,rfl,ho,hce⟩:=hr h0;exact ⟨ad,rfl,hok _ ho,vJ (hheap _ ho) hce⟩
 | .own d,v,hn,hv=>⟨hθ d hn _ hv.1,hv.2⟩
 | .win d sz off len,v,hn,hv=>by
  obtain ⟨A',c',rfl,hc,hr⟩:=hv;refine ⟨A',c',rfl,hc,fun h0=>?_⟩;obtain ⟨g,n,c,h1,h2⟩:=hr h0;exact ⟨g,n,c,hθ d hn _ h1,h2⟩
 | .wina d o n off len,v,hn,hv=>by
  obtain ⟨A',c',rfl,hc,hl,hr⟩:=hv;refine ⟨A',c',rfl,hc,hl,fun h0=>?_⟩;obtain ⟨g,h1,h2⟩:=hr h0;exact ⟨g,hθ d hn _ h1,h2⟩
 | .ref d off,v,hn,hv=>by
  obtain ⟨g,h1,h2⟩:=hv;exact ⟨g,hθ d hn _ h1,h2⟩
 | .refa d off n i,v,hn,hv=>by
  obtain ⟨hi,g,h1,h2⟩:=hv;exact ⟨hi,g,hθ d hn _ h1,h2⟩
 | .eref d sz i off,v,hn,hv=>by
  obtain ⟨g,n,c,h1,h2⟩:=hv;exact ⟨g,n,c,hθ d hn _ h1,h2⟩
 | .refw d o n off m,v,hn,hv=>by
  obtain ⟨hi,g,h1,h2⟩:=hv;exact ⟨hi,g,hθ d hn _ h1,h2⟩
 | .fp t,v,hn,hv=>by
  obtain ⟨a,u,rfl,ho,hu,hc⟩:=hv;exact ⟨a,u,rfl,hok _ ho,mJ hok hheap hθ t u hn hu,vJ (hheap _ ho) hc⟩
 | .tup vs,v,hn,hv=>by
  obtain ⟨us,rfl,hc⟩:=hv;exact ⟨us,rfl,pf hok hheap hθ vs _ hn hc⟩
 | .fn f,v,_,hv=>hv
 | .nilm,v,_,hv=>hv
 | .clo f caps,v,hn,hv=>by
  obtain ⟨us,rfl,hc⟩:=hv;exact ⟨us,rfl,pf hok hheap hθ caps _ hn hc⟩
 | .pt f none,v,_,hv=>hv
 | .pt f (some i),v,hn,hv=>⟨hθ (.mem f i) hn _ hv.1,hv.2⟩
 | .mp f none,v,_,hv=>hv
 | .mp f (some i),v,hn,hv=>⟨hθ (.mem f i) hn _ hv.1,hv.2⟩
 | .mc _ _,v,_,hv=>hv
theorem pX (hok:∀ b,ok b->ok' b) (hheap:∀ b,ok b->w'.heap[b]? = w.heap[b]?) (hθ:∀ d,fF pn d=true->∀ x,θ d=some x->θ' d=some x):∀ (as:List AV) (vs:List Value),wB pn as=true->CVs w ok θ as vs->CVs w' ok' θ' as vs
 | [],vs,_,hv=>hv
 | a::as,vs,hn,hv=>by
  obtain ⟨v,rest,rfl,hs,h1,h2⟩:=hv;have hn:(jA pn a && wB pn as)=true:=hn;rw [Bool.and_eq_true] at hn;exact ⟨v,rest,rfl,hs,mJ hok hheap hθ a v hn.1 h1,pX hok hheap hθ as rest hn.2 h2⟩
theorem pf (hok:∀ b,ok b->ok' b) (hheap:∀ b,ok b->w'.heap[b]? = w.heap[b]?) (hθ:∀ d,fF pn d=true->∀ x,θ d=some x->θ' d=some x):∀ (as:List AV) (vs:List Value),wB pn as=true->CVt w ok θ as vs->CVt w' ok' θ' as vs
 | [],vs,_,hv=>hv
 | a::as,vs,hn,hv=>by
  obtain ⟨v,rest,rfl,h1,h2⟩:=hv;have hn:(jA pn a && wB pn as)=true:=hn;rw [Bool.and_eq_true] at hn;exact ⟨v,rest,rfl,mJ hok hheap hθ a v hn.1 h1,pf hok hheap hθ as rest hn.2 h2⟩
end
theorem uH {d:Nat}:∀ {l:List Nat},d∈l->zS l d=true
 | [],h=>by cases h
 | x::r,h=>by
  simp only [zS]
  rcases List.mem_cons.1 h with rfl | h
  ·simp
  ·split
   ·rfl
   ·exact uH h
theorem ci:∀ (l:List AV) (j:Nat),(yr pn l).getD j .undef=match jA pn (l.getD j .undef) with | true=>l.getD j .undef | false=>.undef
 | [],j=>rfl
 | x::r,0=>rfl
 | x::r,j+1=>ci r j
theorem dh:∀ (l:List AV),(yr pn l).length=l.length
 | []=>rfl
 | x::r=>by simp [yr,dh r]
theorem iy (h:Rel C S θ a w):∀ (xs:List Operand),CVt w (qx C w S θ) θ (xs.map (opA S)) (xs.map a.eval)
 | []=>rfl
 | x::xs=>⟨_,_,rfl,uL h x,iy h xs⟩
theorem sX (h:Rel C S θ a w) {q:Operand} {f:FuncId} {caps:List AV} (hq:nt S q=some (f,caps)):∃ us:Array Value,a.eval q=.func (.func f) #[] us/\CVt w (qx C w S θ) θ caps us.toList:=by
 unfold nt at hq
 split at hq
 ·cases hq
  exact ⟨#[],rfl,rfl⟩
 ·have:=uL h q
  split at hq
  ·rename_i f' e
   cases hq
   rw [e] at this;exact ⟨#[],this,rfl⟩
  ·rename_i f' caps' e
   cases hq
   rw [e] at this;exact this
  ·cases hq
theorem Kw {fn:Func} {rs:List Nat} (hres:fn.results=(rs.map ResultVar.tmp).toArray) (h:Rel C S θ a w):∃ v,(results fn a.tmps).run P w=.ok v w/\CV w (qx C w S θ) θ (ow S rs) v:=by
 have hs:∀ t:Nat,CV w (qx C w S θ) θ (S.slot t) (a.tmps.getD t undef):=fun t=>uL h (.tmp t)
 have hl:∀ rs:List Nat,CVt w (qx C w S θ) θ (rs.map S.slot) (rs.map fun t=>a.tmps.getD t undef):=by
  intro rs
  induction rs with
  | nil=>rfl
  | cons r rs ih=>exact ⟨_,_,rfl,hs r,ih⟩
 obtain ⟨v,h1,h2⟩:=ut (P:=P) (fn:=fn) (rs:=rs.map fun r=>(r,Rk.val .bool)) (by rw [hres,List.map_map]; rfl) a.tmps w (fun p hp=>by
  obtain ⟨r,_,rfl⟩:=List.mem_map.1 hp
  rfl)
 refine ⟨v,h1,?_⟩
 have hmap:((rs.map fun r=>(r,Rk.val .bool)).map fun p=>xY P w a.tmps p.1 p.2)=rs.map fun t=>a.tmps.getD t undef:=by
  rw [List.map_map]; rfl
 rw [hmap,List.length_map] at h2
 match rs,h2,hl with
 | [],h2,hl=>
  rcases h2 with ⟨h3,_⟩ | ⟨_,rfl⟩
  ·simp at h3
  ·exact ⟨#[],rfl,rfl⟩
 | [r],h2,hl=>
  rcases h2 with ⟨_,h3⟩ | ⟨h3,_⟩
  ·have h3:[a.tmps.getD r undef]=[v]:=h3;have:a.tmps.getD r undef=v:=by simpa using h3
   rw [<-this];exact hs r
  ·simp at h3
 | r::r'::rs,h2,hl=>
  rcases h2 with ⟨h3,_⟩ | ⟨_,rfl⟩
  ·simp at h3
  ·exact ⟨_,rfl,by simpa using hl (r::r'::rs)⟩
theorem WA {cal:FuncId->Option Cal} (hcal:∀ f c,cal f=some c->qU P C.E f c) (hm:P.follows .mixedOrders=true) {J:Inl} {ops:Array Oper} {i:Nat} {q:Operand} {xs:Array Operand} {ats:Array TypeId} {fn:Func} {id:Nat} {E' : Env}
  (hi:ops[i]? = some o) (hg:o.guard=none) (ho:o.op=.call { callee:=.value q,args:=xs,argTypes:=ats })
  (hf : P.funcs[J.f]? = some fn) (hb : fn.body = some J.body) (hn : fn.name ≠ "runtime.NumGoroutine") (hnt : fn.ntmps = J.m) (hres : fn.results = (J.rs.map ResultVar.tmp).toArray)
  (hov:∀ C:Ctx,C.E=E'->OvOk pN C P J.H J.body) (hpan:∀ C:Ctx,C.E=E'->PanH C P J.H J.body) (hE:C.E=E')
  {R:Type} (hpc:xp C J.pn) {S:St} {K:St->Option R} {x:R} (hh:VK P C.E cal J ops.toList i q xs.toList o.dst R n S K=some x) (hr:Rel C S θ a w)
  (Q:Exit->Act->World->Prop) (hQ:∀ S' θ' a' w',K S' = some x->Rel C S' θ' a' w'->a'.defers=a.defers->Q .normal a' w'):(Code.region id ops false).wp P Q a w:=by
 have hil:i<ops.size:=(Array.getElem?_eq_some_iff.1 hi).1;refine wp_region ?_
 have hlen:List.range ops.size=List.range' 0 (ops.toList.take i).length++(i::List.range' (i+1) (ops.toList.drop (i+1)).length):=by
  rw [List.range_eq_range',List.length_take,List.length_drop,Array.length_toList,Nat.min_eq_left (by omega),<-List.range'_succ,show ops.size - (i+1)+1=ops.size - i by omega];have:=@List.range'_append_1 0 i (ops.size - i);rw [Nat.zero_add] at this;rw [this]
  congr 1
  omega
 rw [hlen];refine nV hcal (df:=a.defers) _ 0 S θ a w (fun S1 a1 w1 θ1 h1 hr1 hd1=>?_) (fun j o hj=>?_) hh hr rfl
 rotate_left
 ·rw [List.getElem?_take] at hj
  split at hj
  ·simpa using hj
  ·cases hj
 split at h1 <;> first | (cases h1; done) | skip
 rename_i f caps hcl
 cases hbf:Nat.beq f J.f && tO S1.ob with
 | false=>rw [hbf] at h1; cases h1
 | true=>
 rw [hbf] at h1;rw [Bool.and_eq_true] at hbf;have hff:f=J.f:=by simpa using hbf.1
 subst hff;have hni:=hbf.2;have h1:zD n J.m J.pn P C.E cal J.H J.body _ _=some x:=h1;obtain ⟨us,hq,hcaps⟩:=sX hr1 hcl;have hargs:=iy hr1 xs.toList
 have hall:CVt w1 (qx C w1 S1 θ1) θ1 (xs.toList.map (opA S1)++caps) ((xs.map a1.eval)++us).toList:=by
  rw [Array.toList_append,Array.toList_map];exact dH hargs hcaps
 generalize hav:xs.toList.map (opA S1)++caps=av at h1 hall;generalize harr:(xs.map a1.eval)++us=arr at hall;rw [wpOps_cons];unfold wpOp;rw [hi];simp only;rw [if_pos (by simp [Region.wanted,hg])];refine .inl ?_;unfold Oper.wp
 have hrun:(execOp a1.eval o).run P w1=.ok (.enter J.f arr) w1:=by
  simp only [execOp,ho,resolve,hq,Deferred.ofValue,Sem.run_bind,Sem.run_pure,Result.andThen_ok,invoke,Array.empty_append,harr];exact vW hf (by rw [hb]; rfl) hn
 rw [hrun,Oper.upon_enter]
 have hIlt:∀ b,jm S1 θ1 b->b<w1.heap.size/\C.M b:=by
  rintro b ⟨d,ob,v,q1,q2,q3,q4⟩
  exact (hr1.ob q1 q3).lt q2 q3 q4
 let C1:Ctx:={ w0:=w1,I:=jm S1 θ1,F:=C.F,E:=C.E,ib:=fun b hb=>(hIlt b hb).1,fb:=fun b hb=>Nat.lt_of_lt_of_le (C.fb b hb) hr1.size,iF:=fun b hb=>C.M_F (hIlt b hb).2,gd:=C.gd,pin:=open Classical in fun d=>if fF J.pn d=true then θ1 d else none }
 have hM1:∀ b,C1.M b->C.M b:=by
  rintro b (hb | hb)
  ·exact .inl (Nat.le_trans hr1.size hb)
  ·exact (hIlt b hb).2
 have hlenA:av.length=arr.size:=by
  have:=kD hall;simpa using this
 have hr2:Rel C1 ⟨av++List.replicate (J.m - av.length) .undef,S1.ob,S1.fm⟩ θ1 { tmps:=arr++Array.replicate (fn.ntmps - arr.size) undef,defers:=[] } w1:=by
  have hrC:Rel C1 S1 θ1 a1 w1:=by
   refine ⟨hr1.len,hr1.slots,fun d ob hd hob=>?_,hr1.fresh,hr1.sep,rfl,rfl,⟨rfl,.inr trivial⟩,Nat.le_refl _,fun _ _ _=>rfl,hr1.globs,hr1.base,fun d v hd=>?_⟩
   ·have hov:=hr1.objs d ob hd hob
    by_cases hown:ob.isOwn=true
    ·have hmk:∀ v b,θ1 d=some v->blk v=some b->C1.M b:=fun v b h1 h2=>.inr ⟨d,ob,v,hob,hown,h1,h2⟩
     have hrow:∀ {e:TypeId} {size m:Nat} {v:Value} {cs:List Value},θ1 d=some v->OwnRow w1 C.M e size v m cs->OwnRow w1 C1.M e size v m cs:=by
      intro e size m v cs hv hrw;refine ⟨hrw.1,?_⟩
      rcases hrw.2 with q | ⟨g,cap,cur,fr,rfl,_,q3⟩
      ·exact .inl q
      ·exact .inr ⟨g,cap,cur,fr,rfl,hmk _ g hv rfl,q3⟩
     cases ob with
     | dead=>trivial
     | box t=>obtain ⟨g,e,fr,v,k1,k2,k3,k4,k5,k6⟩:=hov; exact ⟨g,e,fr,v,k1,k2,k3,k4,k5,hmk _ g k1 rfl⟩
     | row own e k ys=>obtain ⟨v,k1,k2,k3⟩:=hov; exact ⟨v,k1,fun h=>hrow k1 (k2 h),k3⟩
     | rows own e s ys=>obtain ⟨v,k1,k2,k3,k4⟩:=hov; exact ⟨v,k1,k2,fun h=>by obtain ⟨cs,p1,p2⟩:=k3 h; exact ⟨cs,p1,hrow k1 p2⟩,k4⟩
     | rowS e k ys sp=>obtain ⟨v,k1,k2,k3⟩:=hov; exact ⟨v,k1,hrow k1 k2,k3⟩
     | mapo ks vs es clk=>obtain ⟨g,ents,c,k1,k2,k3,k4,k5⟩:=hov; exact ⟨g,ents,c,k1,k2,k3,k4,hmk _ g k1 rfl⟩
     | iter f i since seen c0=>
      exfalso
      cases d with
      | top e=>exact pB hni hob
      | mem f' i'=>
       obtain ⟨F,_,hF⟩:=zA hob;unfold Fam.at at hF
       split at hF <;> cases hF
     | lit e s vs=>obtain ⟨v,cs,k1,k2,k3,k4⟩:=hov; exact ⟨v,cs,k1,k2,k3,hrow k1 k4⟩
    ·cases ob with
     | dead=>trivial
     | row own e k ys=>obtain ⟨v,k1,k2,k3⟩:=hov; exact ⟨v,k1,fun h=>(hown h).elim,k3⟩
     | rows own e s ys=>obtain ⟨v,k1,k2,k3,k4⟩:=hov; exact ⟨v,k1,k2,fun h=>(hown h).elim,k4⟩
     | box t=>exact (hown rfl).elim
     | rowS e k ys sp=>exact (hown rfl).elim
     | mapo ks vs es clk=>exact (hown rfl).elim
     | iter f i since seen c0=>exact (hown rfl).elim
     | lit e s vs=>exact (hown rfl).elim
   ·have hd:(if fF J.pn d=true then θ1 d else none)=some v:=hd
    split at hd
    ·exact hd
    ·cases hd
  refine hrC.reframe _ _ (by simp [hlenA,hnt]) (fun j v hj=>?_)
  rcases Nat.lt_or_ge j arr.size with hl | hl
  ·have h2:arr.toList[j]? = some v:=by
    rw [Array.getElem?_append_left hl] at hj;simpa using hj
   obtain ⟨y,k1,k2⟩:=tN hall j v h2
   have:(av++List.replicate (J.m - av.length) AV.undef).getD j .undef=y:=by
    rw [List.getD_eq_getElem?_getD,List.getElem?_append_left (by omega),k1];rfl
   rw [this];exact k2
  ·have:(av++List.replicate (J.m - av.length) AV.undef).getD j .undef=.undef:=by
    rw [List.getD_eq_getElem?_getD,List.getElem?_append_right (by omega),List.getElem?_replicate]
    split <;> rfl
   rw [this];trivial
 refine calls_of_wp_defers hf hb ?_;refine yE lM (C:=C1) (fun d v hd=>?_) hcal hm J.body (hov C1 hE) (hpan C1 hE) _ _ x h1 θ1 _ w1 hr2 _ (fun e S3 θ3 a3 w3 hk hr3 hd3=>?_)
 ·have hd:(if fF J.pn d=true then θ1 d else none)=some v:=hd
  split at hd
  ·rename_i hk
   cases d with
   | top e=>exact kJ hk
   | mem f i=>exact kJ hk
  ·cases hd
 have fin:kI n P C.E cal ops.toList (i+1) (ops.toList.drop (i+1)) (tL ⟨yr J.pn S1.tm,S3.ob,S3.fm⟩ o.dst (ow S3 J.rs)) K=some x->
   ∃ v,(results fn a3.tmps).run P w3=.ok v w3/\wpOps P ops Q (List.range' (i+1) (ops.toList.drop (i+1)).length) (a1.put o.dst v) w3:=by
  intro hk;obtain ⟨v,hv,hcv⟩:=Kw (P:=P) hres hr3;refine ⟨v,hv,?_⟩
  have hoks:∀ b,qx C w1 S1 θ1 b->qx C1 w3 S3 θ3 b:=by
   rintro b ⟨k1,k2,k3⟩
   refine ⟨Nat.lt_of_lt_of_le k1 hr3.size,k2,?_⟩
   rintro ⟨d,ob,u,p1,p2,p3,p4⟩
   rcases ((hr3.ob p1 p3).lt p2 p3 p4).2 with hM | hM
   ·exact absurd k1 (Nat.not_lt.2 hM)
   ·exact k3 hM
  have hheap:∀ b,qx C w1 S1 θ1 b->w3.heap[b]? = w1.heap[b]?:=fun b hb=>hr3.frame b hb.1 (fun h=>hb.2.2 h)
  have hpin:∀ d,fF J.pn d=true->∀ y,θ1 d=some y->θ3 d=some y:=fun d hd y hy=>hr3.pin d y (by
   show (if fF J.pn d=true then θ1 d else none)=some y;rw [if_pos hd]
   exact hy)
  have hrC3:Rel C S3 θ3 a3 w3:=by
   refine ⟨hr3.len,hr3.slots,fun d ob hd hob=>?_,hr3.fresh,hr3.sep,hr3.os.trans hr1.os,hr3.tape.trans hr1.tape,hr1.output.trans hr3.output,Nat.le_trans hr1.size hr3.size,fun b hb hI=>?_,hr3.globs,hr3.base,fun d v hd=>?_⟩
   ·have hov:=hr3.objs d ob hd hob
    have hrow:∀ {e:TypeId} {size m:Nat} {v:Value} {cs:List Value},OwnRow w3 C1.M e size v m cs->OwnRow w3 C.M e size v m cs:=by
     intro e size m v cs hrw;refine ⟨hrw.1,?_⟩
     rcases hrw.2 with q | ⟨g,cap,cur,fr,rfl,q2,q3⟩
     ·exact .inl q
     ·exact .inr ⟨g,cap,cur,fr,rfl,hM1 _ q2,q3⟩
    cases ob with
    | dead=>trivial
    | box t=>obtain ⟨g,e,fr,v,k1,k2,k3,k4,k5,k6⟩:=hov; exact ⟨g,e,fr,v,k1,k2,k3,k4,k5,hM1 _ k6⟩
    | row own e k ys=>obtain ⟨v,k1,k2,k3⟩:=hov; exact ⟨v,k1,fun h=>hrow (k2 h),k3⟩
    | rows own e s ys=>obtain ⟨v,k1,k2,k3,k4⟩:=hov; exact ⟨v,k1,k2,fun h=>by obtain ⟨cs,p1,p2⟩:=k3 h; exact ⟨cs,p1,hrow p2⟩,k4⟩
    | rowS e k ys sp=>obtain ⟨v,k1,k2,k3⟩:=hov; exact ⟨v,k1,hrow k2,k3⟩
    | mapo ks vs es clk=>obtain ⟨g,ents,c,k1,k2,k3,k4,k5⟩:=hov; exact ⟨g,ents,c,k1,k2,k3,k4,hM1 _ k5⟩
    | iter f i since seen c0=>
     obtain ⟨g,b,sn,sq,cn,k1,k2,k3,k4,k5,k6,k7⟩:=hov;exact ⟨g,b,sn,sq,cn,k1,k2,k3,k4,k5,k6,Nat.le_trans hr1.size k7⟩
    | lit e s vs=>obtain ⟨v,cs,k1,k2,k3,k4⟩:=hov; exact ⟨v,cs,k1,k2,k3,hrow k4⟩
   ·rw [<-hr1.frame b hb hI];refine hr3.frame b (Nat.lt_of_lt_of_le hb hr1.size) (fun h=>?_)
    rcases (hIlt b h).2 with q | q
    ·exact absurd hb (Nat.not_lt.2 q)
    ·exact hI q
   ·have hd2:=hr1.pin d v hd;refine hpin d ?_ v hd2;have:=hpc d v hd
    cases d with
    | top e=>exact uH this
    | mem f i=>exact uH this
  have hrB:Rel C ⟨yr J.pn S1.tm,S3.ob,S3.fm⟩ θ3 a1 w3:=by
   refine hrC3.reframe _ _ (by rw [hr1.len,dh]) (fun j u hj=>?_);rw [ci];have hsl:=hr1.slots j u hj
   split
   ·rename_i hnm;exact mJ hoks hheap hpin _ u hnm hsl
   ·trivial
  have hrD:Rel C (tL ⟨yr J.pn S1.tm,S3.ob,S3.fm⟩ o.dst (ow S3 J.rs)) θ3 (a1.put o.dst v) w3:=by
   have hcv' : CV w3 (qx C w3 ⟨yr J.pn S1.tm,S3.ob,S3.fm⟩ θ3) θ3 (ow S3 J.rs) v:=qE (ww fun b hb=>⟨hb.1,hb.2.1,fun ⟨d,ob,u,p1,p2⟩=>hb.2.2 ⟨d,ob,u,by cases d <;> exact p1,p2⟩⟩) _ _ hcv
   cases hdst:o.dst with
   | none=>exact hrB
   | some d=>exact hrB.put hcv'
  refine tJ hcal (df:=a.defers) (fun S' a' w' θ' h2 hr' hd'=>hQ S' θ' a' w' h2 hr' hd') _ (i+1) _ θ3 _ w3 (fun j o' hj=>?_) hk hrD ((wc _ _ _).trans hd1);rw [List.getElem?_drop] at hj;simpa using hj
 have hdf:a3.defers=[]:=hd3
 cases e with
 | nrm=>
  obtain ⟨v,h1,h2⟩:=fin hk
  show Leaves P fn a3.tmps _ a3.defers .returning w3;rw [hdf];exact ⟨v,h1,h2⟩
 | ret=>
  obtain ⟨v,h1,h2⟩:=fin hk
  show Leaves P fn a3.tmps _ a3.defers .returning w3;rw [hdf];exact ⟨v,h1,h2⟩
 | ext i=>cases hk
 | pan=>cases hk
theorem ZV {cal:FuncId->Option Cal} (hcal:∀ f c,cal f=some c->qU P C.E f c) (hm:P.follows .mixedOrders=true) {J:Inl} {ops ops' : Array Oper} {draw:Bool} {i:Nat} {q:Operand} {xs:Array Operand} {ats:Array TypeId} {fn:Func} {id:Nat} {E' : Env} {c:Code}
  (hregs:ka id c=[(ops,false)]) (hreg:zl id ops' draw c)
  (hi:ops[i]? = some o) (hg:o.guard=none) (ho:o.op=.call { callee:=.value q,args:=xs,argTypes:=ats })
  (hf : P.funcs[J.f]? = some fn) (hb : fn.body = some J.body) (hn : fn.name ≠ "runtime.NumGoroutine") (hnt : fn.ntmps = J.m) (hres : fn.results = (J.rs.map ResultVar.tmp).toArray)
  (hov:∀ C:Ctx,C.E=E'->OvOk pN C P J.H J.body) (hpan:∀ C:Ctx,C.E=E'->PanH C P J.H J.body) (hE:C.E=E')
  (hpc:xp C J.pn) {R:Type} {S:St} {K:St->Option R} {x:R} (hh:an P E' cal J (jg id c) i R n S K=some x) (hr:Rel C S θ a w)
  (Q:Exit->Act->World->Prop) (hQ:∀ S' θ' a' w',K S' = some x->Rel C S' θ' a' w'->a'.defers=a.defers->Q .normal a' w'):(Code.region id ops' draw).wp P Q a w:=by
 have hm':=pd hreg;rw [hregs] at hm';simp only [List.mem_singleton,Prod.mk.injEq] at hm';obtain ⟨rfl,rfl⟩:=hm';have ho' : jg id c=ops'.toList:=by unfold jg; rw [hregs]
 rw [ho'] at hh;have hi' : ops'.toList[i]? = some o:=by simpa using hi
 unfold an at hh;rw [hi'] at hh;simp only [ho] at hh;subst hE;exact WA hcal hm hi hg ho hf hb hn hnt hres hov hpan rfl hpc hh hr Q hQ
end
end Go.Am
end
section
set_option linter.unusedVariables false
set_option linter.unusedSimpArgs false
namespace Go.Am
open Go.RowKit
def tD (S:St) (r:Nat) (e:TypeId) (k:IntKind):Option (List AV):=match S.slot r with
 | .nils=>some [.fs k []]
 | .own d=>match d with
  | .top d=>match S.obj (.top d) with
   | some ob=>match fq k ob with
    | some (e',ys)=>match Nat.beq e e' with
     | true=>some [.fs k ys]
     | false=>none
    | none=>none
   | none=>none
  | .mem _ _=>none
 | _=>none
noncomputable def fG (P:Program) (E:Env) (cal:FuncId->Option Cal) (H:zi) (body:Code) (m r:Nat) (e:TypeId) (k:IntKind) (n:Nat) (as:List AV):Option (List AV):=match as with
 | x::rest=>zD n m ⟨[],[]⟩ P E cal H body ⟨(.own (.top (par 0))::rest)++List.replicate (m - (rest.length+1)) .undef,[(par 0,.row true e k x.qq)],[]⟩ fun q S=>match q with
  | .nrm=>tD S r e k
  | .ret=>tD S r e k
  | _=>none
 | []=>none
def pK (F:Nat->List AV->Option (List AV)) (e:TypeId) (k:IntKind) (ty:TypeId):Cal:={ F:=F,ps:=[],fs:=[],res:=fun x=>x,ty:=[ty],own:=some 0,esc:=false,row:=some (e,k) }
section
variable {C:Ctx} {S S' T:St} {θ θ' : Nm->Option Value} {a:Act} {w w' : World} {n m:Nat} {P:Program} {o:Oper}
theorem rA {ok ok' : Nat->Prop}:∀ {us:List AV} {vs:List Value},us.all WH=true->CVt w ok θ us vs->CVt w' ok' θ' us vs
 | [],vs,_,h=>h
 | u::us,vs,hs,h=>by
  rw [List.all_cons,Bool.and_eq_true] at hs;obtain ⟨v,rest,rfl,h1,h2⟩:=h;refine ⟨v,rest,rfl,?_,rA hs.2 h2⟩
  cases u <;> first | exact h1 | (have:=hs.1; cases this)
theorem rh {E:Env} {cal:FuncId->Option Cal} (hcal:∀ f c,cal f=some c->qU P E f c) (hm:P.follows .mixedOrders=true) {H:zi} {f:FuncId} {fn:Func} {body:Code} {r:Nat} {e:TypeId} {k:IntKind} {ty:TypeId}
  (hf : P.funcs[f]? = some fn) (hb : fn.body = some body) (hn : fn.name ≠ "runtime.NumGoroutine") (hnt : fn.ntmps = m) (hres : fn.results = ([r].map ResultVar.tmp).toArray)
  (hov:∀ C:Ctx,C.E=E->OvOk pN C P H body) (hpan:∀ C:Ctx,C.E=E->PanH C P H body):qU P E f (pK (fG P E cal H body m r e k) e k ty):=by
 show cf P E f _ e k;refine ⟨⟨fn,hf,by rw [hb]; rfl,hn⟩,fun N xs rest q hF hsc C S θ a w v us hE hr hrow hb0 hform hnok hus=>?_⟩;subst hE;have hF:fG P C.E cal H body m r e k N (.fs k xs::rest)=some q:=hF;unfold fG at hF;dsimp only at hF;have hlt:∀ b,blk v=some b->b<w.heap.size:=fun b hbv=>(hrow.lt hbv).1
 let C1:Ctx:={ w0:=w,I:=fun b=>blk v=some b,F:=fun b=>b<w.heap.size/\¬ qx C w S θ b/\blk v≠some b,E:=C.E,ib:=hlt,fb:=fun b h=>h.1,iF:=fun b h hF=>hF.2.2 h,gd:=C.gd }
 let S0:St:=⟨(.own (.top (par 0))::rest)++List.replicate (m - (rest.length+1)) .undef,[(par 0,.row true e k xs)],[]⟩
 let θ0:Nm->Option Value:=upd (fun _=>none) (.top (par 0)) v
 have hobj:∀ d ob,S0.obj d=some ob->d=.top (par 0)/\ob=.row true e k xs:=by
  intro d ob hd
  cases d with
  | top e'=>
   have hd:kp [(par 0,Ob.row true e k xs)] e' = some ob:=hd;simp only [kp] at hd
   split at hd
   ·rename_i hbq;have:e' = par 0:=by simpa using hbq
    cases hd
    exact ⟨by rw [this],rfl⟩
   ·cases hd
  | mem f' i=>cases hd
 have hself:S0.obj (.top (par 0))=some (.row true e k xs):=by
  show kp [(par 0,Ob.row true e k xs)] (par 0)=_;simp [kp]
 have hhas:∀ d,S0.has d->d=.top (par 0):=by
  intro d hd
  cases d with
  | top e'=>
   have hd:S0.obj (.top e')≠none:=hd
   cases hq:S0.obj (.top e') with
   | none=>exact (hd hq).elim
   | some ob=>exact (hobj _ ob hq).1
  | mem f' i=>obtain ⟨F,h1,_⟩:=hd; cases h1
 have hθv:θ0 (.top (par 0))=some v:=qb _ _ _
 have hθ:∀ d u,θ0 d=some u->d=.top (par 0)/\u=v:=by
  intro d u hd
  by_cases hdp:d=.top (par 0)
  ·subst hdp;rw [hθv] at hd;exact ⟨rfl,(Option.some.inj hd).symm⟩
  ·have:θ0 d=none:=zP _ _ hdp;rw [this] at hd; cases hd
 have hok:∀ b,qx C w S θ b->qx C1 w S0 θ0 b:=by
  intro b hb;refine ⟨hb.1,fun hF=>hF.2.1 hb,?_⟩
  rintro ⟨d,ob,u,_,_,h3,h4⟩
  obtain ⟨_,rfl⟩:=hθ d u h3;exact hnok b h4 hb
 have hcv:=kD hus
 have hr1:Rel C1 S0 θ0 { tmps:=(v::us).toArray++Array.replicate (fn.ntmps - (v::us).toArray.size) undef,defers:=[] } w:=by
  refine ⟨by simp [S0,hnt,hcv]; omega,fun i u hi=>?_,fun d ob hd hob=>?_,fun d hd=>?_,fun d d' o o' u u' b h1 h2 _ _ hne _ _ _=>?_,rfl,rfl,⟨rfl,.inr trivial⟩,Nat.le_refl _,fun b _ _=>rfl,fun g t hgt=>?_,fun d u hd=>?_,fun d u hd=>by cases hd⟩
  ·cases i with
   | zero=>
    have:u=v:=by
     rw [Array.getElem?_append_left (by simp)] at hi;simpa using hi.symm
    subst this;exact ⟨hθv,hform⟩
   | succ i=>
    rcases Nat.lt_or_ge i us.length with hl | hl
    ·have hu:us[i]? = some u:=by
      rw [Array.getElem?_append_left (by simp; omega)] at hi;simpa using hi
     obtain ⟨x,h1,h2⟩:=tN (rA (w':=w) (ok':=qx C1 w S0 θ0) (θ':=θ0) hsc hus) i u hu
     have:S0.slot (i+1)=x:=by
      simp only [St.slot,S0,List.getD_eq_getElem?_getD];rw [List.getElem?_append_left (by simp; omega)];simp [h1]
     rw [this];exact h2
    ·have:S0.slot (i+1)=.undef:=by
      simp only [St.slot,S0,List.getD_eq_getElem?_getD];rw [List.getElem?_append_right (by simp; omega),List.getElem?_replicate]
      split <;> rfl
     rw [this];trivial
  ·obtain ⟨rfl,rfl⟩:=hobj d ob hob;exact ⟨v,hθv,fun _=>hrow.monoM (fun b hb=>.inr hb),fun h=>by cases h⟩
  ·cases hq:θ0 d with
   | none=>rfl
   | some u=>
    obtain ⟨rfl,_⟩:=hθ d u hq;exact (hd (wM hself)).elim
  ·exact (hne ((hobj d o h1).1.trans (hobj d' o' h2).1.symm)).elim
  ·obtain ⟨s,hs,hsi⟩:=C.gd g t hgt;obtain ⟨ad,u,h1,h2,h3,h4⟩:=hr.globs g t hgt;exact ⟨ad,u,h1,hok _ h2,ja (fs:=[]) (fun D hD=>by cases hD) hok s t u hs hsi h3,h4⟩
  ·obtain ⟨_,rfl⟩:=hθ d u hd;exact hb0
 refine calls_of_wp_defers hf hb ?_;refine yE lM (C:=C1) (pn:=⟨[],[]⟩) (fun d u hd=>by cases hd) hcal hm body (hov C1 rfl) (hpan C1 rfl) _ _ q hF θ0 _ w hr1 _ (fun ed S' θ' a' w' hk hr' hd'=>?_)
 have fin:tD S' r e k=some q->Leaves P fn a'.tmps (fun ed w'=>∃ v' ys,ed=.returned v'/\q=[.fs k ys]/\OwnRow w' (fun b=>blk v=some b\/w.heap.size<=b) e 1 v' ys.length (qr k ys)/\(∃ A n c,v' = .slice A n c)/\Wz v v' w w') a'.defers .returning w':=by
  intro hq;obtain ⟨v',hv',hcv'⟩:=Kw (P:=P) hres hr';have hcv' : CV w' (qx C1 w' S' θ') θ' (S'.slot r) v':=hcv';rw [show a'.defers=[] from hd'];refine ⟨v',hv',v',?_⟩
  have grew:∀ (hb:∀ b,blk v' = some b->blk v=some b\/w.heap.size<=b),vi v'->Wz v v' w w':=fun hb hb0'=>
   ⟨fun b hb1 hb2=>hr'.frame b hb1 hb2,hr'.size,hr'.os,hr'.tape,hr'.output,hb,hb0'⟩
  unfold tD at hq
  split at hq <;> first | (cases hq; done) | skip
  ·rename_i hs;rw [hs] at hcv';have hcv' : v' = .slice none 0 0:=hcv';subst hcv'
   cases hq
   exact ⟨[],rfl,rfl,⟨by simp [qr],.inl ⟨rfl,rfl⟩⟩,⟨none,0,0,rfl⟩,grew (fun b hb=>by cases hb) (fun ad n c e=>by cases e)⟩
  ·rename_i d hs
   split at hq <;> first | (cases hq; done) | skip
   rename_i d
   split at hq <;> first | (cases hq; done) | skip
   rename_i ob hob
   split at hq <;> first | (cases hq; done) | skip
   rename_i e' ys has
   split at hq <;> first | (cases hq; done) | skip
   rename_i hee
   cases hq
   have hee:e=e':=by simpa using hee
   subst hee;rw [hs] at hcv';obtain ⟨c1,c2⟩:=hcv';obtain ⟨hisO,v2,k1,k2⟩:=kv hr' hob (wM hob) has;rw [c1] at k1
   cases k1
   have hmm:∀ b,C1.M b->blk v=some b\/w.heap.size<=b:=fun b hb=>by
    rcases hb with hb | hb
    ·exact .inr hb
    ·exact .inl hb
   exact ⟨ys,rfl,rfl,k2.monoM hmm,c2,grew (fun b hb=>hmm b (k2.lt hb).2) (hr'.base _ _ c1)⟩
 cases ed with
 | nrm=>exact fin hk
 | ret=>exact fin hk
 | ext i=>cases hk
 | pan=>cases hk
end
end Go.Am
end
section
set_option linter.unusedVariables false
set_option linter.unusedSimpArgs false
namespace Go.Am
open Go.RowKit
def fD (S:St):List Nat->Bool
 | []=>true
 | t::ts=>(match S.slot t with | .ref d off=>(match d with | .top e=>Nat.beq e t && Nat.beq off 0 | .mem _ _=>false) | _=>false) && fD S ts
def dC (dst:Nat) (ts:List Nat) (R:Type) (n:Nat) (S:St) (K:St->Option R):Option R:=brO (Nat.blt dst S.tm.length && fD S ts) (K (S.qe dst .undef)) none
def zT (id0:Nat):Code->Bool
 | .region id _ _=>Nat.beq id id0
 | .seq a b=>zT id0 a || zT id0 b
 | .cond _ a b=>zT id0 a || zT id0 b
 | .block _ b=>zT id0 b
 | .loop b=>zT id0 b
 | .scope b=>zT id0 b
 | _=>false
theorem rV {id0:Nat} {ops:Array Oper} {draw:Bool}:∀ {c:Code},zl id0 ops draw c->zT id0 c=true:=by
 intro c
 induction c with
 | region i o d=>rintro ⟨rfl,_,_⟩; simp [zT]
 | seq a b iha ihb=>
  rintro (h | h)
  ·simp [zT,iha h]
  ·simp [zT,ihb h]
 | cond q a b iha ihb=>
  rintro (h | h)
  ·simp [zT,iha h]
  ·simp [zT,ihb h]
 | block q b ih=>exact fun h=>ih h
 | loop b ih=>exact fun h=>ih h
 | scope b ih=>exact fun h=>ih h
 | _=>exact fun h=>h.elim
def zH (H:zi):Code->Bool
 | .region id _ _=>(H.pan id).isNone
 | .seq a b=>zH H a && zH H b
 | .cond _ a b=>zH H a && zH H b
 | .block _ b=>zH H b
 | .loop b=>zH H b
 | .scope b=>zH H b
 | _=>true
theorem sT {n m:Nat} {pn:Pn} {P:Program} {E:Env} {cal:FuncId->Option Cal} {H:zi}:∀ c:Code,zH H c=true->∀ {R:Type} (S:St) (K K' : Ex->St->Option R),(∀ e S,e≠.pan->K e S=K' e S)->zD n m pn P E cal H c S K=zD n m pn P E cal H c S K':=by
 intro c
 induction c with
 | skip=>intro _ R S K K' h; exact h .nrm S (by simp)
 | region id ops draw=>
  intro hp R S K K' h;have hK:K .nrm=K' .nrm:=funext fun S=>h .nrm S (by simp)
  have hp:(H.pan id).isNone=true:=hp;have hp:H.pan id=none:=by simpa using hp
  simp only [zD,hp,hK]
 | seq a b iha ihb=>
  intro hp R S K K' h;have hp:(zH H a && zH H b)=true:=hp;rw [Bool.and_eq_true] at hp;simp only [zD]
  split
  ·refine iha hp.1 S _ _ (fun e S' he=>?_)
   cases e with
   | nrm=>exact ihb hp.2 S' K K' h
   | ext i=>exact h _ _ he
   | ret=>exact h _ _ he
   | pan=>exact (he rfl).elim
  ·rename_i T hT
   congr 1
   ·refine iha hp.1 S _ _ (fun e S' he=>?_)
    cases e with
    | nrm=>rfl
    | ext i=>exact congrArg inr (h _ _ he)
    | ret=>exact congrArg inr (h _ _ he)
    | pan=>exact (he rfl).elim
   ·exact funext fun d=>ihb hp.2 _ K K' h
 | cond q a b iha ihb=>
  intro hp R S K K' h;have hp:(zH H a && zH H b)=true:=hp;rw [Bool.and_eq_true] at hp;simp only [zD,iha hp.1 S K K' h,ihb hp.2 S K K' h]
 | block id b ih=>
  intro hp R S K K' h;simp only [zD];refine ih hp S _ _ (fun e S' he=>?_)
  cases e with
  | nrm=>exact h _ _ he
  | ext j=>
   dsimp only
   split
   ·exact h _ _ (by simp)
   ·exact h _ _ he
  | ret=>exact h _ _ he
  | pan=>exact (he rfl).elim
 | loop b ih=>
  intro hp R S K K' h;simp only [zD]
  split
  ·rename_i T hT
   split
   ·rename_i d hd;unfold Qh
    congr 1
    funext d k
    refine ih hp _ _ _ (fun e S' he=>?_)
    cases e with
    | nrm=>rfl
    | ext j=>exact h _ _ he
    | ret=>exact h _ _ he
    | pan=>exact (he rfl).elim
   ·rfl
  ·rfl
 | scope b ih=>
  intro hp R S K K' h;simp only [zD];exact ih hp S K K' h
 | label l=>intro _ R S K K' h; exact h .nrm S (by simp)
 | exit id=>intro _ R S K K' h; exact h (.ext id) S (by simp)
 | ret=>intro _ R S K K' h; exact h .ret S (by simp)
 | _=>intro _ R S K K' h; rfl
def wt (id0:Nat) (H:zi):Code->Bool
 | .region id _ _=>!Nat.beq id id0 && (H.pan id).isNone
 | .seq a b=>match a with
  | .region id _ _=>match Nat.beq id id0 with
   | true=>!zT id0 b && (match first b with | some i=>(H.joins i).isNone | none=>true)
   | false=>(H.pan id).isNone && wt id0 H b
  | a=>!(zT id0 a && zT id0 b) && (wt id0 H a && wt id0 H b)
 | .cond _ a b=>wt id0 H a && wt id0 H b
 | .block _ b=>wt id0 H b
 | .loop b=>!zT id0 b && wt id0 H b
 | .scope b=>wt id0 H b
 | _=>true
section
variable {C:Ctx} {S S' T:St} {θ θ' : Nm->Option Value} {a:Act} {w w' : World} {n m:Nat} {pn:Pn} {P:Program} {o:Oper}
theorem pF {S:St}:∀ {ts:List Nat},fD S ts=true->∀ t∈ts,S.slot t=.ref (.top t) 0
 | [],_,t,ht=>by cases ht
 | u::ts,h,t,ht=>by
  simp only [fD,Bool.and_eq_true] at h
  rcases List.mem_cons.1 ht with rfl | ht
  ·have h1:=h.1
   split at h1 <;> first | (cases h1; done) | skip
   rename_i d off e
   split at h1 <;> first | (cases h1; done) | skip
   rename_i e';rw [Bool.and_eq_true] at h1;rw [e,Nat.eq_of_beq_eq_true h1.1,Nat.eq_of_beq_eq_true h1.2]
  ·exact pF h.2 t ht
theorem af {id0:Nat} {H:zi}:∀ c:Code,zT id0 c=false->wt id0 H c=true->zH H c=true:=by
 intro c
 induction c with
 | region id ops draw=>
  intro _ h;simp only [wt,Bool.and_eq_true] at h;exact h.2
 | seq a b iha ihb=>
  intro hn h;simp only [zT,Bool.or_eq_false_iff] at hn
  have gen:wt id0 H a=true->wt id0 H b=true->zH H (.seq a b)=true:=fun h1 h2=>by
   show (zH H a && zH H b)=true;rw [iha hn.1 h1,ihb hn.2 h2];rfl
  unfold wt at h
  split at h
  ·rename_i id o d
   split at h
   ·rename_i hb;have:zT id0 (.region id o d)=Nat.beq id id0:=rfl;rw [this,hb] at hn
    cases hn.1
   ·rename_i hb;rw [Bool.and_eq_true] at h;exact gen (by simp only [wt,hb,h.1]; rfl) h.2
  ·rw [Bool.and_eq_true,Bool.and_eq_true] at h;exact gen h.2.1 h.2.2
 | cond q a b iha ihb=>
  intro hn h;simp only [zT,Bool.or_eq_false_iff] at hn;have h:(wt id0 H a && wt id0 H b)=true:=h;rw [Bool.and_eq_true] at h
  show (zH H a && zH H b)=true;rw [iha hn.1 h.1,ihb hn.2 h.2];rfl
 | block q b ih=>exact fun hn h=>ih hn h
 | loop b ih=>
  intro hn h;have h:(!zT id0 b && wt id0 H b)=true:=h;rw [Bool.and_eq_true] at h;exact ih hn h.2
 | scope b ih=>exact fun hn h=>ih hn h
 | _=>exact fun _ _=>rfl
def uQ (c:Code):Code:=match c with | .seq _ (.cond _ x _)=>x | _=>.skip
def oL (DL:List Deferred->List Deferred->Prop) (C:Ctx) (P:Program) (H:zi) (id:Nat) (ops:Array Oper) (draw:Bool):Prop:=
 ∀ φ,H.over id=some φ->∀ (R:Type) (n:Nat) (S:St) (K:St->Option R) (x:R),φ R n S K=some x->∀ (θ:Nm->Option Value) (a:Act) (w:World),Rel C S θ a w->
  ∀ Q:Exit->Act->World->Prop,(∀ S' θ' a' w',K S' = some x->Rel C S' θ' a' w'->DL a.defers a'.defers->Q .normal a' w')->(Code.region id ops draw).wp P Q a w
structure Dfd (C:Ctx) (f:FuncId) (ts:List Nat) (π:Nm->Option Value) (us:Array Value):Prop where
 caps:(ts.map fun t=>π (.top t))=us.toList.map some
 ptrs:∀ u∈us.toList,∃ g,u=.pointer (some ⟨g,0,none⟩)
 le:∀ d v,C.pin d=some v->π d=some v
 of:∀ d v,π d=some v->C.pin d=some v\/∃ t∈ts,d=.top t
theorem Vs (hpn:xp C pn) {body:Code} {cal:FuncId->Option Cal} {H:zi} {id0:Nat} {o1 o2:Oper} {f:FuncId} {ts:List Nat} {dst:Nat} (hcal:∀ f c,cal f=some c->qU P C.E f c) (hm:P.follows .mixedOrders=true)
  (hover:H.over id0=some (dC dst ts)) (hts:∀ t∈ts,zS pn.tops t=true)
  (g1:o1.guard=none) (p1:o1.op=.makeFunc (.func f) #[] (ts.map Operand.tmp).toArray) (d1:o1.dst=some dst) (g2:o2.guard=none) (p2:o2.op=.defer { callee:=.value (.tmp dst),args:=#[],argTypes:=#[] }) (d2:o2.dst=none)
  (hbody:∀ ops draw,zl id0 ops draw body->ops = #[o1,o2]/\draw=false)
  (hreg:∀ C' : Ctx,C'.E=C.E->xp C' pn->∀ id ops draw,zl id ops draw body->id≠id0->oL pN C' P H id ops draw) (hpan:∀ C' : Ctx,C'.E=C.E->PanH C' P H body) :
  ∀ c:Code,(∀ id ops draw,zl id ops draw c->zl id ops draw body)->wt id0 H c=true->∀ {R:Type} {r:R} (S:St) (K:Ex->St->Option R),zD n m pn P C.E cal H c S K=some r->∀ (θ:Nm->Option Value) (a:Act) (w:World),Rel C S θ a w->a.defers=[]->
   ∀ Q:Exit->Act->World->Prop,(∀ e S' θ' a' w',K e S' = some r->e≠.pan->Rel C S' θ' a' w'->a'.defers=[]->e.all Q a' w')->
    (∀ e S' θ' a' w' π us,K e S' = some r->Dfd C f ts π us->Rel { C with pin:=π } S' θ' a' w'->a'.defers=[{ target:=.fn (.func f) us,args:=#[] }]->e.all Q a' w')->c.wp P Q a w:=by
 have two:∀ c:Code,(∀ id ops draw,zl id ops draw c->zl id ops draw body)->zT id0 c=false->∀ {R:Type} {r:R} (S:St) (K:Ex->St->Option R),zD n m pn P C.E cal H c S K=some r->∀ (θ:Nm->Option Value) (a:Act) (w:World) (π:Nm->Option Value) (us:Array Value),Dfd C f ts π us->Rel { C with pin:=π } S θ a w->
   a.defers=[{ target:=.fn (.func f) us,args:=#[] }]->∀ Q:Exit->Act->World->Prop,
    (∀ e S' θ' a' w' π us,K e S' = some r->Dfd C f ts π us->Rel { C with pin:=π } S' θ' a' w'->a'.defers=[{ target:=.fn (.func f) us,args:=#[] }]->e.all Q a' w')->c.wp P Q a w:=by
  intro c hsub hno R r S K hx θ a w π us hd hr hdf Q hQ
  have hp' : xp { C with pin:=π } pn:=by
   intro d v hv
   rcases hd.of d v hv with h | ⟨t,ht,rfl⟩
   ·exact hpn d v h
   ·exact kJ (hts t ht)
  refine yE lM (C:={ C with pin:=π }) hp' hcal hm c (fun id ops draw h φ hφ=>?_) (fun id ops h=>hpan { C with pin:=π } rfl id ops (hsub _ _ _ h)) S K r hx θ a w hr Q (fun e S' θ' a' w' hk hr' hd'=>hQ e S' θ' a' w' π us hk hd hr' (Eq.trans hd' hdf));exact hreg { C with pin:=π } rfl hp' id ops draw (hsub _ _ _ h) (fun e=>by subst e; rw [rV h] at hno; cases hno) φ hφ
 have one:∀ c:Code,(∀ id ops draw,zl id ops draw c->zl id ops draw body)->zT id0 c=false->wt id0 H c=true->∀ {R:Type} {r:R} (S:St) (K:Ex->St->Option R),zD n m pn P C.E cal H c S K=some r->∀ (θ:Nm->Option Value) (a:Act) (w:World),Rel C S θ a w->
   a.defers=[]->∀ Q:Exit->Act->World->Prop,(∀ e S' θ' a' w',K e S' = some r->e≠.pan->Rel C S' θ' a' w'->a'.defers=[]->e.all Q a' w')->c.wp P Q a w:=by
  intro c hsub hno hat R r S K hx θ a w hr hdf Q hQ;have hpf:zH H c=true:=af c hno hat;rw [sT c hpf S K (fun e S=>match e with | .pan=>none | e=>K e S) (fun e S he=>by cases e <;> first | rfl | exact (he rfl).elim)] at hx;refine yE lM hpn hcal hm c (fun id ops draw h φ hφ=>hreg C rfl hpn id ops draw (hsub _ _ _ h) (fun e=>by subst e; rw [rV h] at hno; cases hno) φ hφ) (fun id ops h=>hpan C rfl id ops (hsub _ _ _ h)) S _ r hx θ a w hr Q (fun e S' θ' a' w' hk hr' hd'=>?_)
  cases e with
  | pan=>cases hk
  | nrm=>exact hQ .nrm S' θ' a' w' hk (by simp) hr' (Eq.trans hd' hdf)
  | ext i=>exact hQ (.ext i) S' θ' a' w' hk (by simp) hr' (Eq.trans hd' hdf)
  | ret=>exact hQ .ret S' θ' a' w' hk (by simp) hr' (Eq.trans hd' hdf)
 intro c
 induction c with
 | seq x y ihx ihy=>
  intro hsub hat R r S K hx θ a w hr hdf Q hQ1 hQ2
  cases hid:zT id0 (.seq x y) with
  | false=>exact one _ hsub hid hat S K hx θ a w hr hdf Q hQ1
  | true=>
  have hsx:∀ id ops draw,zl id ops draw x->zl id ops draw body:=fun id ops draw h=>hsub id ops draw (.inl h)
  have hsy:∀ id ops draw,zl id ops draw y->zl id ops draw body:=fun id ops draw h=>hsub id ops draw (.inr h)
  have next1:wt id0 H y=true->∀ (e:Ex) (S' : St) (θ' : Nm->Option Value) (a' : Act) (w' : World),(match e with | .nrm=>zD n m pn P C.E cal H y S' K | e=>K e S')=some r->e≠.pan->Rel C S' θ' a' w'->a'.defers=[]->e.all (Exit.then (y.wp P Q) Q) a' w':=by
   intro hay e S' θ' a' w' hk he hr' hd'
   cases e with
   | nrm=>exact ihy hsy hay S' K hk θ' a' w' hr' hd' Q hQ1 hQ2
   | ext i=>exact hQ1 (.ext i) S' θ' a' w' hk he hr' hd'
   | ret=>exact hQ1 .ret S' θ' a' w' hk he hr' hd'
   | pan=>exact (he rfl).elim
  have next2:zT id0 y=false->∀ (e:Ex) (S' : St) (θ' : Nm->Option Value) (a' : Act) (w' : World) (π:Nm->Option Value) (us:Array Value),(match e with | .nrm=>zD n m pn P C.E cal H y S' K | e=>K e S')=some r->Dfd C f ts π us->Rel { C with pin:=π } S' θ' a' w'->
    a'.defers=[{ target:=.fn (.func f) us,args:=#[] }]->e.all (Exit.then (y.wp P Q) Q) a' w':=by
   intro hny e S' θ' a' w' π us hk hd hr' hd'
   cases e with
   | nrm=>exact two y hsy hny S' K hk θ' a' w' π us hd hr' hd' Q hQ2
   | ext i=>exact hQ2 (.ext i) S' θ' a' w' π us hk hd hr' hd'
   | ret=>exact hQ2 .ret S' θ' a' w' π us hk hd hr' hd'
   | pan=>exact hQ2 .pan S' θ' a' w' π us hk hd hr' hd'
  have pins2:∀ π us,Dfd C f ts π us->xp { C with pin:=π } pn:=by
   intro π us hd d v hv
   rcases hd.of d v hv with h | ⟨t,ht,rfl⟩
   ·exact hpn d v h
   ·exact kJ (hts t ht)
  have gen:wt id0 H x=true->wt id0 H y=true->(zT id0 x=true->zT id0 y=false)->(Code.seq x y).wp P Q a w:=by
   intro hax hay hxy;refine wp_seq ?_;simp only [zD] at hx;have runx:∀ {R' : Type} {r' : R'} (K' : Ex->St->Option R'),zD n m pn P C.E cal H x S K' = some r'->
     (∀ e S' θ' a' w',K' e S' = some r'->e≠.pan->Rel C S' θ' a' w'->a'.defers=[]->e.all (Exit.then (y.wp P Q) Q) a' w')->
     (zT id0 x=true->∀ e S' θ' a' w' π us,K' e S' = some r'->Dfd C f ts π us->Rel { C with pin:=π } S' θ' a' w'->a'.defers=[{ target:=.fn (.func f) us,args:=#[] }]->e.all (Exit.then (y.wp P Q) Q) a' w')->x.wp P (Exit.then (y.wp P Q) Q) a w:=by
    intro R' r' K' hx' h1 h2
    cases hix:zT id0 x with
    | false=>exact one x hsx hix hax S K' hx' θ a w hr hdf _ h1
    | true=>exact ihx hsx hax S K' hx' θ a w hr hdf _ h1 (h2 hix)
   split at hx
   ·exact runx _ hx (next1 hay) (fun hix=>next2 (hxy hix))
   ·rename_i T hT
    rcases eZ hx with ⟨d,h1,h2⟩ | h1
    ·refine runx _ h1 (fun e S' θ' a' w' hk he hr' hd'=>?_) (fun hix e S' θ' a' w' π us hk hd hr' hd'=>?_)
     ·cases e with
      | nrm=>
       obtain ⟨d',h3,h4⟩:=yU hk
       cases h4
       obtain ⟨η,hη⟩:=xA hr' hpn h3;exact next1 hay .nrm _ η a' w' h2 he hη hd'
      | ext i=>obtain ⟨_,_,h4⟩:=zU hk; cases h4
      | ret=>obtain ⟨_,_,h4⟩:=zU hk; cases h4
      | pan=>exact (he rfl).elim
     ·cases e with
      | nrm=>
       obtain ⟨d',h3,h4⟩:=yU hk
       cases h4
       obtain ⟨η,hη⟩:=xA hr' (pins2 π us hd) h3;exact next2 (hxy hix) .nrm _ η a' w' π us h2 hd hη hd'
      | ext i=>obtain ⟨_,_,h4⟩:=zU hk; cases h4
      | ret=>obtain ⟨_,_,h4⟩:=zU hk; cases h4
      | pan=>obtain ⟨_,_,h4⟩:=zU hk; cases h4
    ·refine runx _ h1 (fun e S' θ' a' w' hk he hr' hd'=>?_) (fun hix e S' θ' a' w' π us hk hd hr' hd'=>?_)
     ·cases e with
      | nrm=>obtain ⟨_,_,h4⟩:=yU hk; cases h4
      | ext i=>obtain ⟨_,h3,h4⟩:=zU hk; cases h4; exact hQ1 (.ext i) S' θ' a' w' h3 he hr' hd'
      | ret=>obtain ⟨_,h3,h4⟩:=zU hk; cases h4; exact hQ1 .ret S' θ' a' w' h3 he hr' hd'
      | pan=>exact (he rfl).elim
     ·cases e with
      | nrm=>obtain ⟨_,_,h4⟩:=yU hk; cases h4
      | ext i=>obtain ⟨_,h3,h4⟩:=zU hk; cases h4; exact hQ2 (.ext i) S' θ' a' w' π us h3 hd hr' hd'
      | ret=>obtain ⟨_,h3,h4⟩:=zU hk; cases h4; exact hQ2 .ret S' θ' a' w' π us h3 hd hr' hd'
      | pan=>obtain ⟨_,h3,h4⟩:=zU hk; cases h4; exact hQ2 .pan S' θ' a' w' π us h3 hd hr' hd'
  unfold wt at hat
  split at hat
  ·rename_i id ops draw
   split at hat
   ·rename_i hb;have hid0:id=id0:=by simpa using hb
    subst hid0;rw [Bool.and_eq_true,Bool.not_eq_true'] at hat;obtain ⟨hops,rfl⟩:=hbody ops draw (hsub id ops draw (.inl ⟨rfl,rfl,rfl⟩));simp only [zD] at hx
    split at hx
    rotate_left
    ·rename_i T hT;exfalso;have h2:=hat.2
     cases hf:first y with
     | none=>rw [hf] at hT; cases hT
     | some i=>
      rw [hf] at hT h2;dsimp only at hT h2;rw [hT] at h2
      cases h2
    simp only [hover] at hx;unfold dC at hx
    cases hc:Nat.blt dst S.tm.length && fD S ts with
    | false=>rw [hc] at hx; cases hx
    | true=>
    rw [hc] at hx;rw [Bool.and_eq_true] at hc;have hx:zD n m pn P C.E cal H y (S.qe dst .undef) K=some r:=hx;refine om hops g1 p1 d1 g2 p2 d2 (by simpa using hc.1) (pF hc.2) hr Q (fun us π a' h1 h2 h3 h4 h5 h6=>?_);exact two y hsy hat.1 _ K hx θ a' w π us ⟨h1,h2,h3,h4⟩ h5 (by rw [h6,hdf]) Q hQ2
   ·rename_i hb;rw [Bool.and_eq_true] at hat
    exact gen (by simp only [wt,hb,hat.1]; rfl) hat.2 (fun h=>by
     have:zT id0 (.region id ops draw)=Nat.beq id id0:=rfl;rw [this,hb] at h
     cases h)
  ·rw [Bool.and_eq_true,Bool.and_eq_true] at hat;refine gen hat.2.1 hat.2.2 (fun h=>?_);have h1:=hat.1;rw [h] at h1;simpa using h1
 | cond q x y ihx ihy=>
  intro hsub hat R r S K hx θ a w hr hdf Q hQ1 hQ2;have hat:(wt id0 H x && wt id0 H y)=true:=hat;rw [Bool.and_eq_true] at hat;simp only [zD] at hx
  split at hx
  ·rename_i t ht;refine wp_cond (ri hr ht) ?_
   cases t with
   | true=>exact ihx (fun id ops draw h=>hsub id ops draw (.inl h)) hat.1 S K hx θ a w hr hdf Q hQ1 hQ2
   | false=>exact ihy (fun id ops draw h=>hsub id ops draw (.inr h)) hat.2 S K hx θ a w hr hdf Q hQ1 hQ2
  ·cases hx
 | block id b ih=>
  intro hsub hat R r S K hx θ a w hr hdf Q hQ1 hQ2;simp only [zD] at hx;refine wp_block ?_;refine ih hsub hat S _ hx θ a w hr hdf _ (fun e S' θ' a' w' hk he hr' hd'=>?_) (fun e S' θ' a' w' π us hk hd hr' hd'=>?_)
  ·cases e with
   | nrm=>exact hQ1 .nrm S' θ' a' w' hk he hr' hd'
   | ext j=>
    dsimp only at hk;simp only [Ex.all,Exit.inBlock]
    split at hk
    ·rename_i hj;rw [if_pos (by simpa using hj)];exact hQ1 .nrm S' θ' a' w' hk (by simp) hr' hd'
    ·rename_i hj;rw [if_neg (fun he=>by subst he; simp at hj)];exact hQ1 (.ext j) S' θ' a' w' hk (by simp) hr' hd'
   | ret=>exact hQ1 .ret S' θ' a' w' hk he hr' hd'
   | pan=>exact (he rfl).elim
  ·cases e with
   | nrm=>exact hQ2 .nrm S' θ' a' w' π us hk hd hr' hd'
   | ext j=>
    dsimp only at hk;simp only [Ex.all,Exit.inBlock]
    split at hk
    ·rename_i hj;rw [if_pos (by simpa using hj)];exact hQ2 .nrm S' θ' a' w' π us hk hd hr' hd'
    ·rename_i hj;rw [if_neg (fun he=>by subst he; simp at hj)];exact hQ2 (.ext j) S' θ' a' w' π us hk hd hr' hd'
   | ret=>exact hQ2 .ret S' θ' a' w' π us hk hd hr' hd'
   | pan=>exact hQ2 .pan S' θ' a' w' π us hk hd hr' hd'
 | scope b ih=>
  intro hsub hat R r S K hx θ a w hr hdf Q hQ1 hQ2;simp only [zD] at hx;refine wp_scope_straight ?_;refine ih hsub hat S _ hx θ a w hr hdf _ (fun e S' θ' a' w' hk he hr' hd'=>?_) (fun e S' θ' a' w' π us hk hd hr' hd'=>?_)
  ·cases e with
   | nrm=>exact hQ1 .nrm S' θ' a' w' hk he hr' hd'
   | ext j=>exact hQ1 (.ext j) S' θ' a' w' hk he hr' hd'
   | ret=>exact hQ1 .ret S' θ' a' w' hk he hr' hd'
   | pan=>exact (he rfl).elim
  ·cases e with
   | nrm=>exact hQ2 .nrm S' θ' a' w' π us hk hd hr' hd'
   | ext j=>exact hQ2 (.ext j) S' θ' a' w' π us hk hd hr' hd'
   | ret=>exact hQ2 .ret S' θ' a' w' π us hk hd hr' hd'
   | pan=>exact hQ2 .pan S' θ' a' w' π us hk hd hr' hd'
 | region id ops draw=>
  intro hsub hat R r S K hx θ a w hr hdf Q hQ1 hQ2;have h1:(!Nat.beq id id0 && (H.pan id).isNone)=true:=hat;rw [Bool.and_eq_true,Bool.not_eq_true'] at h1;exact one _ hsub h1.1 hat S K hx θ a w hr hdf Q hQ1
 | loop b ih=>
  intro hsub hat R r S K hx θ a w hr hdf Q hQ1 hQ2;have h1:(!zT id0 b && wt id0 H b)=true:=hat;rw [Bool.and_eq_true,Bool.not_eq_true'] at h1;exact one (.loop b) hsub h1.1 hat S K hx θ a w hr hdf Q hQ1
 | skip=>intro hsub hat R r S K hx θ a w hr hdf Q hQ1 hQ2; exact one _ hsub rfl hat S K hx θ a w hr hdf Q hQ1
 | label l=>intro hsub hat R r S K hx θ a w hr hdf Q hQ1 hQ2; exact one _ hsub rfl hat S K hx θ a w hr hdf Q hQ1
 | exit id=>intro hsub hat R r S K hx θ a w hr hdf Q hQ1 hQ2; exact one _ hsub rfl hat S K hx θ a w hr hdf Q hQ1
 | ret=>intro hsub hat R r S K hx θ a w hr hdf Q hQ1 hQ2; exact one _ hsub rfl hat S K hx θ a w hr hdf Q hQ1
 | _=>intro hsub hat R r S K hx θ a w hr hdf Q hQ1 hQ2; cases hx
noncomputable def Jy (P:Program) (E:Env) (calX:FuncId->Option Cal) (HX:zi) (X:Code) (mX:Nat) (ts:List Nat) (D:FnD) (pn:Pn) (n:Nat) (S:St):Option (List AV):=
 brO (fD S ts) (zD n mX pn P E calX HX X ⟨(ts.map fun t=>AV.ref (.top t) 0)++List.replicate (mX - ts.length) .undef,S.ob,S.fm⟩ fun e S3=>match e with
  | .nrm=>D.finz P n ⟨lv ts S.tm.length,S3.ob,S3.fm⟩
  | _=>none) none
def FnD.pnD (D:FnD) (ts:List Nat):Pn:=⟨ts++D.pn.tops,D.pn.fams⟩
noncomputable def FnD.runR (P:Program) (E:Env) (cal:FuncId->Option Cal) (H:zi) (X:Code) (mX:Nat) (ts:List Nat) (D:FnD) (n:Nat) (as:List AV):Option (List AV):=
 zD n D.m (D.pnD ts) P E cal H D.body (D.ini as) fun e S=>match e with
  | .ext _=>none
  | .nrm=>D.finz P n S
  | .ret=>D.finz P n S
  | .pan=>Jy P E (fun _=>none) ⟨fun _=>none,fun _=>none,fun _=>none,fun _=>none⟩ X mX ts D (D.pnD ts) n S
theorem FnD.soundR {E:Env} {cal:FuncId->Option Cal} (hcal:∀ f c,cal f=some c->qU P E f c) (hm:P.follows .mixedOrders=true) {H:zi} {f:FuncId} {fn:Func} {D:FnD}
  (hf : P.funcs[f]? = some fn) (hb : fn.body = some D.body) (hn : fn.name ≠ "runtime.NumGoroutine") (hnt : fn.ntmps = D.m) (hres : fn.results = (D.rs.map fun p => p.2.rv p.1).toArray) (hg : D.good P = true)
  {g:FuncId} {gn:Func} {i:Nat} {q1 q2:Oper} {X:Code} {e1 e2:Nat} {at1:Array TypeId} {ts:List Nat} {dst id0:Nat} {o1 o2:Oper}
  (hover:H.over id0=some (dC dst ts)) (g1:o1.guard=none) (p1:o1.op=.makeFunc (.func g) #[] (ts.map Operand.tmp).toArray) (d1:o1.dst=some dst) (g2:o2.guard=none) (p2:o2.op=.defer { callee:=.value (.tmp dst),args:=#[],argTypes:=#[] }) (d2:o2.dst=none)
  (hbody:ka id0 D.body=[(#[o1,o2],false)]) (hat:wt id0 H D.body=true)
  (hreg:∀ C' : Ctx,C'.E=E->xp C' (D.pnD ts)->∀ id ops draw,zl id ops draw D.body->id≠id0->oL pN C' P H id ops draw) (hpan:∀ C' : Ctx,C'.E=E->PanH C' P H D.body)
  (hgf : P.funcs[g]? = some gn) (hgb : gn.body = some (.seq (.region i #[q1, q2] false) (.cond (.tmp e2) X .skip))) (hgn : gn.name ≠ "runtime.NumGoroutine") (hgres : gn.results = #[])
  (k1:q1.guard=none) (k2:q1.op=.call { callee:=.builtin .recover,args:=#[],argTypes:=at1 }) (k3:q1.dst=some e1) (k4:q2.guard=none) (k5:q2.dst=some e2)
  (hd1:ts.length<=e1/\e1<gn.ntmps) (hd2:ts.length<=e2/\e2<gn.ntmps) (hx:∀ (a:Act) (w:World) t u,a.eval (.tmp e1)=.iface t u->(execOp a.eval q2).run P w=.ok (.value (.bool true)) w)
  (hx0:∀ (a:Act) (w:World),a.eval (.tmp e1)=.nilIface->(execOp a.eval q2).run P w=.ok (.value (.bool false)) w) :
  qU P E f (qj D (D.runR P E cal H X gn.ntmps ts)):=by
 refine FnD.sound_of (fun C n as r hC hp hF θ a w hrel hdf Q hQ hQp=>?_) hf hb hn hnt hres hg;subst hC
 have hpn:xp C (D.pnD ts):=by
  intro d v hd;have:=hp d v hd
  cases d with
  | top e=>exact List.mem_append_right _ this
  | mem f i=>exact this
 have hqt:∀ us,rg P { target:=.fn (.func g) us,args:=#[] }:=fun us=>bv hgf hgb hgn hgres k1 k2 k3 k4 k5 hd1.2 hd2.2 hx0 us
 refine Vs hpn (body:=D.body) hcal hm hover (fun t ht=>uH (List.mem_append_left _ ht)) g1 p1 d1 g2 p2 d2 (fun ops draw h=>?_) hreg hpan D.body (fun _ _ _ h=>h) hat _ _ hF θ a w hrel hdf Q (fun e S' θ' a' w' hk he hr' hd'=>?_) (fun e S' θ' a' w' π us hk hd hr' hd'=>?_)
 ·have:=pd h;rw [hbody] at this;simpa using this
 ·cases e with
  | nrm=>obtain ⟨S1,h1,h2⟩:=xx hr' hk; exact hQ .nrm S1 θ' a' w' h2 h1 (DefLe.of (by rw [hd',hdf]))
  | ret=>obtain ⟨S1,h1,h2⟩:=xx hr' hk; exact hQ .ret S1 θ' a' w' h2 h1 (DefLe.of (by rw [hd',hdf]))
  | ext i=>cases hk
  | pan=>exact (he rfl).elim
 ·have hle:DefLe P a.defers a'.defers:=⟨[{ target:=.fn (.func g) us,args:=#[] }],by rw [hd',hdf]; rfl,fun d hd=>by rw [List.mem_singleton.1 hd]; exact hqt us⟩
  cases e with
  | nrm=>obtain ⟨S1,h1,h2⟩:=xx (hr'.unpin hd.le) hk; exact hQ .nrm S1 θ' a' w' h2 h1 hle
  | ret=>obtain ⟨S1,h1,h2⟩:=xx (hr'.unpin hd.le) hk; exact hQ .ret S1 θ' a' w' h2 h1 hle
  | ext i=>cases hk
  | pan=>
   intro chain hc;dsimp only at hk;unfold Jy at hk
   cases hrf:fD S' ts with
   | false=>rw [hrf] at hk; cases hk
   | true=>
   rw [hrf] at hk;have hk:zD n gn.ntmps (D.pnD ts) P C.E (fun _=>none) _ X _ _=some r:=hk;refine hQp a' w' chain ⟨.func g,us,#[],g,#[]++us,hd',vW hgf (by rw [hgb]; rfl) hgn,?_⟩;rw [Array.empty_append]
   have hpn2:xp { C with pin:=π } (D.pnD ts):=by
    intro d v hv
    rcases hd.of d v hv with h | ⟨t,ht,rfl⟩
    ·exact hpn d v h
    ·exact List.mem_append_left _ ht
   refine (QG (fun f c h=>by cases h) hm hgf hgb hgn hgres k1 k2 k3 k4 k5 hd1 hd2 hx (fun C=>OvOk.none fun _=>rfl) (fun C=>PanH.none fun _=>rfl) hd.caps hd.ptrs hpn2 hk (fun e S he=>by cases e <;> first | rfl | exact (he rfl).elim) hr' (pF hrf) hc).mono ?_
   rintro e u' w'' ⟨h1,h2,S3,θ'',h3,h4⟩
   obtain ⟨S4,h5,h6⟩:=xx h4 h3;exact ⟨h1,h2,S4,θ'',h6,h5.unpin hd.le⟩
end
end Go.Am
end
section
set_option linter.unusedVariables false
set_option linter.unusedSimpArgs false
namespace Go.Am
open Go.RowKit
def jY (id i:Nat) (c:Code):Oper:=(jg id c).getD i default
section
variable {C:Ctx} {P:Program} {body:Code} {id i:Nat}
theorem Kj {ops:Array Oper} {draw:Bool} (hregs:ka id body=[((jg id body).toArray,false)]) (hreg:zl id ops draw body):ops=(jg id body).toArray/\draw=false:=by
 have:=pd hreg;rw [hregs] at this;simpa using this
theorem mS (h:Nat.blt i (jg id body).length=true):(jg id body).toArray[i]? = some (jY id i body):=by
 have h:i<(jg id body).length:=by simpa using h
 simp [jY,h]
theorem tR {d:Nat} {t:TypeId} {v:Operand} (hregs:ka id body=[((jg id body).toArray,false)]) (hsz:Nat.beq (jg id body).length (i+2)=true)
  (g1:(jY id i body).guard=none) (p1:(jY id i body).op=.makeInterface t v) (d1:(jY id i body).dst=some d) (g2:(jY id (i+1) body).guard=none) (p2:(jY id (i+1) body).op=.panic (.tmp d)) (ht:∃ x,P.underlying t=some x/\∀ k,x≠.interface k)
  {ops:Array Oper} (hreg:zl id ops false body) (S:St) (θ:Nm->Option Value) (a:Act) (w:World) (hB:sY d S=true) (hr:Rel C S θ a w)
  (Q:Exit->Act->World->Prop) (hQ:∀ chain a' w' θ',uw chain->Rel C S θ' a' w'->a'.defers=a.defers->Q (.panic chain) a' w'):wpOps P ops Q (List.range' i (ops.size - i)) a w:=by
 obtain ⟨rfl,_⟩:=Kj hregs hreg;have hsz:(jg id body).length=i+2:=by simpa using hsz
 exact VS (u:=0) (by simpa using hsz) (mS (by simp [hsz])) (mS (by simp [hsz])) g1 p1 d1 g2 p2 ht S θ a w hB hr Q hQ
theorem gK {f:FuncId} {xs:Array Operand} {ats:Array TypeId} {ps:List Sh} {B:List AV->Bool} {E:Env} (hE:C.E=E) (hs:wX P E f ps B) (hregs:ka id body=[((jg id body).toArray,false)]) (hsz:Nat.blt i (jg id body).length=true)
  (g1:(jY id i body).guard=none) (p1:(jY id i body).op=.call { callee:=.value (.func f),args:=xs,argTypes:=ats })
  {ops:Array Oper} (hreg:zl id ops false body) (S:St) (θ:Nm->Option Value) (a:Act) (w:World) (hB:nU ps xs.toList B S=true) (hr:Rel C S θ a w)
  (Q:Exit->Act->World->Prop) (hQ:∀ chain a' w' θ',uw chain->Rel C S θ' a' w'->a'.defers=a.defers->Q (.panic chain) a' w'):wpOps P ops Q (List.range' i (ops.size - i)) a w:=by
 obtain ⟨rfl,_⟩:=Kj hregs hreg;subst hE;exact Zt (mS hsz) g1 p1 hs S θ a w hB hr Q hQ
theorem so {cal:FuncId->Option Cal} {E:Env} (hcal:∀ f c,cal f=some c->qU P E f c) (hm:P.follows .mixedOrders=true) {J:Inl} {q:Operand} {xs:Array Operand} {ats:Array TypeId} {fn:Func}
  (hregs:ka id body=[((jg id body).toArray,false)]) (hsz:Nat.blt i (jg id body).length=true) (g1:(jY id i body).guard=none) (p1:(jY id i body).op=.call { callee:=.value q,args:=xs,argTypes:=ats })
  (hf : P.funcs[J.f]? = some fn) (hb : fn.body = some J.body) (hn : fn.name ≠ "runtime.NumGoroutine") (hnt : fn.ntmps = J.m) (hres : fn.results = (J.rs.map ResultVar.tmp).toArray)
  (hno:∀ id,J.H.over id=none) (hnp:∀ id,J.H.pan id=none) (hE:C.E=E) (hpc:xp C J.pn) {DL:List Deferred->List Deferred->Prop} (hDL:DLaw DL) {H:zi} (hover:H.over id=some (an P E cal J (jg id body) i))
  {ops:Array Oper} {draw:Bool} (hreg:zl id ops draw body):oL DL C P H id ops draw:=by
 intro φ hφ R n S K x hx θ a w hr Q hQ;rw [hover] at hφ
 cases hφ
 subst hE;exact ZV hcal hm hregs hreg (mS hsz) g1 p1 hf hb hn hnt hres (fun _ _=>OvOk.none hno) (fun _ _=>PanH.none hnp) rfl hpc hx hr Q (fun S' θ' a' w' h1 h2 h3=>hQ S' θ' a' w' h1 h2 (hDL.of h3))
end
end Go.Am
end
