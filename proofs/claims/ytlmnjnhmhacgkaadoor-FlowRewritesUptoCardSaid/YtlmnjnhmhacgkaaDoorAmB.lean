/-
  Each operation of the interpreter is sound (first part).
-/
import Derived.Test.YtlmnjnhmhacgkaaDoorAmA
import Derived.Laws.StructEq
section
set_option linter.unusedVariables false
set_option linter.unusedSimpArgs false
namespace Go.Am
open Go.RowKit
section
variable {n:Rp} {S S' : St} {p:Pg}
theorem exe_done (h:Pg.done.exe n S=some S'):S' = S:=by simpa [Pg.exe] using h.symm
theorem exe_fail (h:Pg.fail.exe n S=some S'):False:=by simp [Pg.exe] at h
theorem exe_slot {i:Nat} {k:AV→Pg} (h:(Pg.slot i k).exe n S=some S'):(k (S.slot i)).exe n S=some S':=h
theorem exe_obj {i:Nm} {k:Option Ob→Pg} (h:(Pg.obj i k).exe n S=some S'):(k (S.obj i)).exe n S=some S':=h
theorem exe_setSlot {i:Nat} {v:AV} (h:(Pg.setSlot i v p).exe n S=some S'):p.exe n (S.setSlot i v)=some S':=h
theorem exe_setObj {i:Nat} {o:Ob} (h:(Pg.setObj i o p).exe n S=some S'):p.exe n (S.setObj i o)=some S':=h
theorem exe_chk {b:Bool} (h:(Pg.chk b p).exe n S=some S'):b=true∧p.exe n S=some S':=by
 cases b with
 | true=>exact ⟨rfl,h⟩
 | false=>simp [Pg.exe,brO] at h
theorem exe_must {b:Bool} (h:(must b p).exe n S=some S'):b=true∧p.exe n S=some S':=by
 cases b with
 | true=>exact ⟨rfl,h⟩
 | false=>exact (exe_fail h).elim
theorem exe_call {c:Cal} {x:List AV} {k:List AV→Pg} (h:(Pg.call c x k).exe n S=some S'):∃ r,c.F n.n x=some r∧(k r).exe n S=some S':=by
 simp only [Pg.exe] at h
 cases hf:c.F n.n x with
 | none=>rw [hf] at h; cases h
 | some r=>rw [hf] at h; exact ⟨r,rfl,h⟩
theorem exe_fam {f:Nat} {k:Option Fam→Pg} (h:(Pg.fam f k).exe n S=some S'):(k (S.fam f)).exe n S=some S':=h
theorem exe_setFam {f:Nat} {l:List AV} (h:(Pg.setFam f l p).exe n S=some S'):p.exe n (S.setFam f l)=some S':=h
theorem exe_br {b:Bool} {q:Pg} (h:(Pg.br b p q).exe n S=some S'):(b=true∧p.exe n S=some S')∨(b=false∧q.exe n S=some S'):=by
 cases b with
 | true=>exact .inl ⟨rfl,h⟩
 | false=>exact .inr ⟨rfl,h⟩
end
section
variable {C:Ctx} {S S' : St} {θ θ' : Nm→Option Value} {a:Act} {w w' : World} {n:Rp} {ok:Nat→Prop}
theorem intsB_ok {k:IntKind}:∀ {xs:List Int} {vs:List Value},intsB k xs vs=true→vs=ints k xs
 | [],[],_=>rfl
 | x::xs,.int k' y::vs,h=>by
  simp only [intsB,Bool.and_eq_true,beq_iff_eq] at h
  obtain ⟨rfl,rfl,h⟩:=h
  rw [intsB_ok h]
  rfl
 | [],_::_,h=>by simp [intsB] at h
 | _::_,[],h=>by simp [intsB] at h
 | x::xs,v::vs,h=>by
  cases v <;> first | (simp [intsB] at h; done) | skip
  rename_i k' y
  simp only [intsB,Bool.and_eq_true,beq_iff_eq] at h
  obtain ⟨rfl,rfl,h⟩:=h
  rw [intsB_ok h]
  rfl
theorem ints_length (k:IntKind) (xs:List Int):(ints k xs).length=xs.length:=by simp [ints]
mutual
theorem cvB_ok:∀ (x:AV) (v:Value),cvB x v=true→CV w ok θ x v
 | .undef,v,h=>trivial
 | .bool b,v,h=>by
  cases v <;> first | (simp [cvB] at h; done) | (simp only [cvB,beq_iff_eq] at h; subst h; rfl)
 | .int k m,v,h=>by
  cases v <;> first | (simp [cvB] at h; done) | (simp only [cvB,Bool.and_eq_true,beq_iff_eq] at h; obtain ⟨rfl,rfl⟩:=h; rfl)
 | .str l,v,h=>by
  cases v <;> first | (simp [cvB] at h; done) | skip
  simp only [cvB,beq_iff_eq] at h
  subst h
  rfl
 | .nils,v,h=>by
  cases v <;> first | (simp [cvB] at h; done) | skip
  rename_i A m c
  cases A <;> first | (simp [cvB] at h; done) | skip
  cases m <;> first | (simp [cvB] at h; done) | skip
  cases c <;> first | (simp [cvB] at h; done) | skip
  rfl
 | .nilp,v,h=>by
  cases v <;> first | (simp [cvB] at h; done) | skip
  rename_i A
  cases A <;> first | (simp [cvB] at h; done) | rfl
 | .nili,v,h=>by
  cases v <;> first | (simp [cvB] at h; done) | rfl
 | .arr k m xs,v,h=>by
  cases v <;> first | (simp [cvB] at h; done) | skip
  simp only [cvB,Bool.and_eq_true] at h
  exact ⟨Nat.eq_of_beq_eq_true h.1,by have:=intsB_ok h.2; rw [←this]⟩
 | .agg cs,v,h=>by
  cases v <;> first | (simp [cvB] at h; done) | skip
  rename_i vs
  exact ⟨vs,rfl,cvsB_ok cs vs.toList (by simpa [cvB] using h)⟩
 | .fs ..,v,h=>by simp [cvB] at h
 | .fv ..,v,h=>by simp [cvB] at h
 | .own ..,v,h=>by simp [cvB] at h
 | .win ..,v,h=>by simp [cvB] at h
 | .wina ..,v,h=>by simp [cvB] at h
 | .ref ..,v,h=>by simp [cvB] at h
 | .refa ..,v,h=>by simp [cvB] at h
 | .refw ..,v,h=>by simp [cvB] at h
 | .eref ..,v,h=>by simp [cvB] at h
 | .fp ..,v,h=>by simp [cvB] at h
 | .tup ..,v,h=>by simp [cvB] at h
 | .fn ..,v,h=>by simp [cvB] at h
 | .clo ..,v,h=>by simp [cvB] at h
 | .pt ..,v,h=>by simp [cvB] at h
 | .mp ..,v,h=>by simp [cvB] at h
 | .mc ..,v,h=>by simp [cvB] at h
 | .nilm,v,h=>by
  cases v <;> first | (simp [cvB] at h; done) | skip
  rename_i r
  cases r <;> first | (simp [cvB] at h; done) | rfl
theorem cvsB_ok:∀ (cs:List AV) (vs:List Value),cvsB cs vs=true→CVs w ok θ cs vs
 | [],vs,h=>by simpa [cvsB,CVs] using h
 | c::cs,vs,h=>by
  simp only [cvsB] at h
  cases hc:c.isAgg with
  | true=>
   simp only [hc,Bool.and_eq_true] at h
   obtain ⟨h1,h2,h3⟩:=h
   have hl:c.width≤vs.length:=Nat.le_of_ble_eq_true h1
   refine ⟨.agg (vs.take c.width).toArray,vs.drop c.width,?_,?_,cvB_ok c _ h2,cvsB_ok cs _ h3⟩
   ·simp [Value.cells]
   ·simp [Value.cells,hl]
  | false=>
   simp only [hc] at h
   cases vs with
   | nil=>cases h
   | cons v r=>
    simp only [Bool.and_eq_true] at h
    obtain ⟨h1,h2,h3⟩:=h
    have hsz:v.cells.size=1:=Nat.eq_of_beq_eq_true h1
    have hw:c.width=1:=by cases c <;> first | rfl | (simp [AV.isAgg] at hc; done)
    have hcv:=cvB_ok c v h2
    have hone:v.cells = #[v]:=by
     cases c <;> first
      | (simp [AV.isAgg] at hc; done)
      | (simp [cvB] at h2; done)
      | (cases v <;> first | rfl | (simp [cvB] at h2; done))
    exact ⟨v,r,by rw [hone]; rfl,by rw [hsz,hw],hcv,cvsB_ok cs r h3⟩
end
theorem cst_ok {v:Value} {x:AV} (h:cst v=some x):CV w ok θ x v:=by
 unfold cst at h
 split at h <;> first | (cases h; done) | skip
 all_goals (cases h; first | rfl | trivial)
theorem ev_ok {x:Operand} {k:AV→Pg} (h:Rel C S θ a w) (hx:(ev C.E x k).exe n S=some S'):∃ u,CV w (okOf C w S θ) θ u (a.eval x)∧(k u).exe n S=some S':=by
 cases x with
 | tmp t=>
  refine ⟨S.slot t,?_,exe_slot hx⟩
  simp only [Act.eval]
  cases ht:a.tmps[t]? with
  | some v=>
   have:=h.slots t v ht
   simpa [Array.getD_eq_getD_getElem?,ht] using this
  | none=>
   have hl:a.tmps.size≤t:=by simpa using ht
   have:S.slot t=.undef:=by
    have hl' : S.tm.length≤t:=by rw [←h.len]; exact hl
    simp [St.slot,List.getD_eq_getElem?_getD,List.getElem?_eq_none hl']
   rw [this]
   trivial
 | const v=>
  simp only [ev] at hx
  split at hx
  ·rename_i u hu
   exact ⟨u,cst_ok hu,hx⟩
  ·exact (exe_fail hx).elim
 | global g=>
  simp only [ev] at hx
  split at hx
  ·rename_i t ht
   exact ⟨.fp t,h.globs g t ht,hx⟩
  ·exact (exe_fail hx).elim
 | func f=>exact ⟨.fn f,rfl,hx⟩
def OptCV (w:World) (ok:Nat→Prop) (θ:Nm→Option Value):Option AV→Option Value→Prop
 | none,none=>True
 | some u,some v=>CV w ok θ u v
 | _,_=>False
theorem evO_ok {x:Option Operand} {k:Option AV→Pg} (h:Rel C S θ a w) (hx:(evO C.E x k).exe n S=some S') :
  ∃ u,OptCV w (okOf C w S θ) θ u (x.map a.eval)∧(k u).exe n S=some S':=by
 cases x with
 | none=>exact ⟨none,trivial,hx⟩
 | some y=>
  obtain ⟨u,hu,hk⟩:=ev_ok h hx
  exact ⟨some u,hu,hk⟩
theorem evL_ok {xs:List Operand}:∀ {k:List AV→Pg},Rel C S θ a w→(evL C.E xs k).exe n S=some S'→
  ∃ us,CVt w (okOf C w S θ) θ us (xs.map a.eval)∧(k us).exe n S=some S':=by
 induction xs with
 | nil=>intro k h hx; exact ⟨[],rfl,hx⟩
 | cons x xs ih=>
  intro k h hx
  simp only [evL] at hx
  obtain ⟨u,hu,hk⟩:=ev_ok h hx
  obtain ⟨us,hus,hk'⟩:=ih h hk
  exact ⟨u::us,⟨_,_,rfl,hu,hus⟩,hk'⟩
theorem put_ok {o:Oper} {x:AV} {v:Value} (h:Rel C S θ a w) (hv:CV w (okOf C w S θ) θ x v) (hx:(put o x).exe n S=some S'):Rel C S' θ (a.put o.dst v) w:=by
 unfold put at hx
 cases hd:o.dst with
 | none=>
  rw [hd] at hx
  rw [exe_done hx]
  exact h
 | some d=>
  rw [hd] at hx
  rw [exe_done (exe_setSlot hx)]
  exact h.put hv
theorem put_ok' {o:Oper} {x:AV} {v:Value} (hx:(put o x).exe n S=some S') (h:Rel C S θ a w) (hv:CV w (okOf C w S θ) θ x v):Rel C S' θ (a.put o.dst v) w:=put_ok h hv hx
def Does (P:Program) (C:Ctx) (S' : St) (o:Oper) (a:Act) (w:World):Prop:=
 ∃ nx w',(execOp a.eval o).run P w=.ok nx w'∧((∃ v,nx=.value v∧∃ θ',Rel C S' θ' (a.put o.dst v) w')∨(nx=.skip∧∃ θ',Rel C S' θ' (a.put o.dst undef) w'))
theorem Does.value {P:Program} {o:Oper} {v:Value} (hr:(execOp a.eval o).run P w=.ok (.value v) w') (h:Rel C S' θ' (a.put o.dst v) w'):Does P C S' o a w:=
 ⟨_,_,hr,.inl ⟨v,rfl,θ',h⟩⟩
theorem CV_one:∀ {x:AV} {v:Value},x.isAgg=false→x.stor=true→CV w ok θ x v→v.cells = #[v]
 | .undef,v,_,h,_=>by cases h
 | .bool b,v,_,_,h=>by cases (h:v=_); rfl
 | .int k n,v,_,_,h=>by cases (h:v=_); rfl
 | .str l,v,_,_,h=>by cases (h:v=_); rfl
 | .nils,v,_,_,h=>by cases (h:v=_); rfl
 | .nilp,v,_,_,h=>by cases (h:v=_); rfl
 | .nili,v,_,_,h=>by cases (h:v=_); rfl
 | .arr ..,v,h,_,_=>by cases h
 | .agg ..,v,h,_,_=>by cases h
 | .fs ..,v,_,_,h=>by obtain ⟨A,c,rfl,_⟩:=h; rfl
 | .fv ..,v,_,_,h=>by obtain ⟨A,c,cs,rfl,_⟩:=h; rfl
 | .win ..,v,_,_,h=>by obtain ⟨A,c,rfl,_⟩:=h; rfl
 | .wina ..,v,_,_,h=>by obtain ⟨A,c,rfl,_⟩:=h; rfl
 | .ref ..,v,_,_,h=>by obtain ⟨g,_,rfl⟩:=h; rfl
 | .refa ..,v,_,_,h=>by obtain ⟨_,g,_,rfl⟩:=h; rfl
 | .refw ..,v,_,_,h=>by obtain ⟨_,g,_,rfl⟩:=h; rfl
 | .eref ..,v,_,_,h=>by obtain ⟨g,n,c,_,_,rfl⟩:=h; rfl
 | .fp ..,v,_,_,h=>by obtain ⟨A,u,rfl,_⟩:=h; rfl
 | .tup ..,v,_,h,_=>by cases h
 | .fn f,v,_,_,h=>by cases (h:v=_); rfl
 | .nilm,v,_,_,h=>by cases (h:v=_); rfl
 | .clo ..,v,_,_,h=>by obtain ⟨us,rfl,_⟩:=h; rfl
 | .pt f none,v,_,_,h=>by cases (h:v=_); rfl
 | .pt f (some i),v,_,_,h=>by obtain ⟨_,g,rfl⟩:=h; rfl
 | .mp f none,v,_,_,h=>by cases (h:v=_); rfl
 | .mp f (some i),v,_,_,h=>by obtain ⟨_,g,rfl⟩:=h; rfl
 | .mc ..,v,_,h,_=>by cases h
 | .own d,v,_,_,h=>by obtain ⟨_,A,n,c,rfl⟩:=h; rfl
theorem CV_size:∀ {x:AV} {v:Value},x.stor=true→CV w ok θ x v→v.cells.size=x.width:=by
 intro x v hs h
 cases hx:x.isAgg with
 | false=>
  rw [CV_one hx hs h]
  cases x <;> first | rfl | (simp [AV.isAgg] at hx; done)
 | true=>
  cases x with
  | arr k m xs=>
   obtain ⟨h1,rfl⟩:=h
   simp [Value.cells,AV.width,ints,h1]
  | agg cs=>
   obtain ⟨vs,rfl,h2⟩:=h
   have:=CVs_length h2
   simpa [Value.cells,AV.width] using this
  | _=>simp [AV.isAgg] at hx
def upd (θ:Nm→Option Value) (d:Nm) (v:Value):Nm→Option Value:=fun i=>if i=d then some v else θ i
theorem upd_self (θ:Nm→Option Value) (d:Nm) (v:Value):upd θ d v d=some v:=by simp [upd]
theorem upd_ne (θ:Nm→Option Value) {d i:Nm} (v:Value) (h:i≠d):upd θ d v i=θ i:=by simp [upd,h]
structure Later (w w' : World):Prop extends Below w.heap.size w w' where
 drawn:w.drawn≤w'.drawn∨True
theorem Rel.born' (h:Rel C S θ a w) {d:Nat} {b:Ob} {v:Value} (hd:S.obj (.top d)=none) (hw:Later w w') (hblk:∀ g,blk v=some g→w.heap.size≤g) (hb0:base0 v)
  (hob:Keeps w w' (okOf C w S θ) (okOf C w' (S.setObj d b) (upd θ (.top d) v)) θ (upd θ (.top d) v)→OV C w' (okOf C w' (S.setObj d b) (upd θ (.top d) v)) (upd θ (.top d) v) (.top d) b):Rel C (S.setObj d b) (upd θ (.top d) v) a w':=by
 have hnh:¬ S.has (.top d):=fun hh=>hh hd
 refine h.turn (fun i=>i=.top d) (fun _=>False) rfl (fun i hi=>⟨obj_setObj_other _ _ _ _ hi,upd_ne _ _ hi⟩) (fun i hi=>has_setObj_other _ _ _ _ hi) ?_ hw.os hw.tape ⟨hw.output,hw.drawn⟩ hw.size (fun g hg _=>hw.block g hg) (fun _ h=>h.elim) ?_ ?_ ?_ ?_ ?_
 ·intro i x hi
  by_cases e:i=.top d
  ·subst e
   rw [h.fresh _ hnh] at hi
   cases hi
  ·rw [upd_ne _ _ e]
   exact hi
 ·rintro i o u g rfl ho hown hu hg
  rw [upd_self] at hu
  cases hu
  exact .inl (hblk g hg)
 ·rintro i j o o' u u' g rfl rfl _ _ _ _ hne
  exact (hne rfl).elim
 ·rintro i rfl hi
  exact (hi (has_setObj_same _ _ _)).elim
 ·rintro i u rfl hu
  rw [upd_self] at hu
  cases hu
  exact hb0
 ·rintro hk i o rfl _ ho
  rw [obj_setObj_same] at ho
  cases ho
  exact hob hk
theorem Rel.born (h:Rel C S θ a w) {d:Nat} {b:Ob} {v:Value} (hd:S.obj (.top d)=none) (hw:Later w w') (hblk:∀ g,blk v=some g→w.heap.size≤g) (hb0:base0 v)
  (hob:∀ ok',Keeps w w' (okOf C w S θ) ok' θ (upd θ (.top d) v)→OV C w' ok' (upd θ (.top d) v) (.top d) b):Rel C (S.setObj d b) (upd θ (.top d) v) a w':=
 h.born' hd hw hblk hb0 (hob _)
theorem newOb_ok {o:Oper} {b:Ob} {mk:Nm→AV} {v:Value} (h:Rel C S θ a w) (hx:(newOb o b mk).exe n S=some S') (hw:Later w w')
  (hblk:∀ g,blk v=some g→w.heap.size≤g) (hb0:base0 v)
  (hob:∀ d ok' θ',Keeps w w' (okOf C w S θ) ok' θ θ'→θ' d=some v→OV C w' ok' θ' d b)
  (hcv:∀ d ok' θ',θ' d=some v→CV w' ok' θ' (mk d) v):∃ θ',Rel C S' θ' (a.put o.dst v) w':=by
 unfold newOb at hx
 cases hd:o.dst with
 | none=>rw [hd] at hx; exact (exe_fail hx).elim
 | some d=>
  rw [hd] at hx
  have hx:=exe_obj hx
  cases ho:S.obj (.top d) with
  | some q=>rw [ho] at hx; exact (exe_fail hx).elim
  | none=>
   rw [ho] at hx
   rw [exe_done (exe_setSlot (exe_setObj hx))]
   refine ⟨upd θ (.top d) v,(h.born ho hw hblk hb0 (fun ok' hk=>hob (.top d) ok' _ hk (upd_self _ _ _))).put ?_⟩
   exact hcv (.top d) _ _ (upd_self _ _ _)
theorem Below.new (w:World) (X:Obj):Later w (w.alloc X):=⟨(Below.refl _ _).alloc (Nat.le_refl _) _,.inr trivial⟩
theorem base0_ptr (ad:Option Addr):base0 (.pointer ad):=fun _ _ _ h=>by cases h
theorem base0_row (g n c:Nat):base0 (.slice (some ⟨g,0,none⟩) n c):=fun _ _ _ h=>by cases h; exact ⟨g,rfl⟩
theorem base0_nil:base0 (.slice none 0 0):=fun _ _ _ h=>by cases h
theorem free00 (cur:Array Value):Free cur (0,0):=⟨Nat.le_refl _,fun o _ h=>by have:=h.2; simp at this⟩
theorem run_newVar (P:Program) (w:World) (t:TypeId) (v:Value):(newVar t v).run P w=.ok ⟨w.heap.size,0,none⟩ (w.alloc (.cells v.cells t)):=rfl
mutual
theorem nrm_width:∀ (s:Sh) (x:AV),(nrm s x).width=x.width
 | .int k,x=>by simp [nrm]
 | .bool,x=>by simp [nrm]
 | .str,x=>by simp [nrm]
 | .arr k n,x=>by simp [nrm]
 | .fs k,x=>by cases x <;> simp [nrm,AV.width]
 | .nl k,x=>by simp [nrm]
 | .fv s,x=>by cases x <;> simp [nrm,AV.width]
 | .mp f,x=>by cases x <;> simp [nrm,AV.width]
 | .pt f,x=>by
  cases x <;> first | (simp [nrm,AV.width]; done) | skip
  rename_i d off
  cases d with
  | top e=>simp [nrm,AV.width]
  | mem g i=>simp only [nrm]; split <;> simp [AV.width]
 | .agg l,x=>by
  cases x <;> first | (simp [nrm]; done) | skip
  rename_i cs
  simp only [nrm,AV.width]
  exact nrms_width l cs
theorem nrms_width:∀ (l:List Sh) (cs:List AV),AV.widths (nrms l cs)=AV.widths cs
 | [],cs=>by simp [nrms]
 | s::l,[]=>by simp [nrms]
 | s::l,c::cs=>by simp only [nrms,AV.widths,nrm_width s c,nrms_width l cs]
end
mutual
theorem CV_nrm:∀ (s:Sh) (x:AV) (v:Value),CV w ok θ x v→CV w ok θ (nrm s x) v
 | .int k,x,v,h=>by simpa [nrm] using h
 | .bool,x,v,h=>by simpa [nrm] using h
 | .str,x,v,h=>by simpa [nrm] using h
 | .arr k n,x,v,h=>by simpa [nrm] using h
 | .nl k,x,v,h=>by simpa [nrm] using h
 | .fs k,x,v,h=>by
  cases x <;> first | (simpa [nrm] using h) | skip
  have h:v=.slice none 0 0:=h
  exact ⟨none,0,h,Nat.le_refl _,fun h=>by simp at h⟩
 | .fv s,x,v,h=>by
  cases x <;> first | (simpa [nrm] using h) | skip
  have h:v=.slice none 0 0:=h
  exact ⟨none,0,[],h,Nat.le_refl _,by simp,rfl,fun h=>by simp at h⟩
 | .mp f,x,v,h=>by
  cases x <;> first | (simpa [nrm] using h) | skip
  exact h
 | .pt f,x,v,h=>by
  cases x <;> first | (simpa [nrm] using h) | skip
  ·exact h
  ·rename_i d off
   cases d with
   | top e=>simpa [nrm] using h
   | mem g i=>
    simp only [nrm]
    split
    ·rename_i hb
     simp only [Bool.and_eq_true] at hb
     have h1:=Nat.eq_of_beq_eq_true hb.1
     have h2:=Nat.eq_of_beq_eq_true hb.2
     subst h1 h2
     obtain ⟨g',hd,rfl⟩:=h
     exact ⟨hd,g',rfl⟩
    ·exact h
 | .agg l,x,v,h=>by
  cases x <;> first | (simpa [nrm] using h) | skip
  rename_i cs
  obtain ⟨vs,rfl,hc⟩:=h
  exact ⟨vs,rfl,CVs_nrms l cs _ hc⟩
theorem CVs_nrms:∀ (l:List Sh) (cs:List AV) (vs:List Value),CVs w ok θ cs vs→CVs w ok θ (nrms l cs) vs
 | [],cs,vs,h=>by simpa [nrms] using h
 | s::l,[],vs,h=>by simpa [nrms] using h
 | s::l,c::cs,vs,h=>by
  obtain ⟨v,rest,rfl,hs,h1,h2⟩:=h
  exact ⟨v,rest,rfl,by rw [nrm_width]; exact hs,CV_nrm s c v h1,CVs_nrms l cs rest h2⟩
end
theorem shEq_eq:∀ {s t:Sh},shEq s t=true→s=t:=by
 intro s
 exact Sh.rec (motive_1:=fun s=>∀ t,shEq s t=true→s=t) (motive_2:=fun l=>∀ m,shsEq l m=true→l=m)
  (fun k t h=>by cases t <;> first | (simp [shEq] at h; done) | (simp only [shEq,beq_iff_eq] at h; rw [h]))
  (fun t h=>by cases t <;> first | rfl | (simp [shEq] at h; done))
  (fun t h=>by cases t <;> first | rfl | (simp [shEq] at h; done))
  (fun k n t h=>by
   cases t <;> first | (simp [shEq] at h; done) | skip
   simp only [shEq,Bool.and_eq_true,beq_iff_eq] at h
   rw [h.1,Nat.eq_of_beq_eq_true h.2])
  (fun l ih t h=>by
   cases t <;> first | (simp [shEq] at h; done) | skip
   rw [ih _ (by simpa [shEq] using h)])
  (fun k t h=>by cases t <;> first | (simp [shEq] at h; done) | (simp only [shEq,beq_iff_eq] at h; rw [h]))
  (fun k t h=>by cases t <;> first | (simp [shEq] at h; done) | (simp only [shEq,beq_iff_eq] at h; rw [h]))
  (fun s ih t h=>by
   cases t <;> first | (simp [shEq] at h; done) | skip
   rw [ih _ (by simpa [shEq] using h)])
  (fun f t h=>by
   cases t <;> first | (simp [shEq] at h; done) | skip
   exact congrArg _ (Nat.eq_of_beq_eq_true h))
  (fun f t h=>by
   cases t <;> first | (simp [shEq] at h; done) | skip
   exact congrArg _ (Nat.eq_of_beq_eq_true h))
  (fun m h=>by cases m <;> first | rfl | (simp [shsEq] at h; done))
  (fun s l ih1 ih2 m h=>by
   cases m with
   | nil=>simp [shsEq] at h
   | cons t m=>
    simp only [shsEq,Bool.and_eq_true] at h
    rw [ih1 _ h.1,ih2 _ h.2])
  s _
mutual
theorem fit_WT:∀ (s:Sh) (x:AV),fitA s x=true→WT s x
 | .int k,x,h=>by
  cases x with
  | int k' n=>have:k=k':=by simpa [fitA] using h
              exact ⟨n,by rw [this]⟩
  | _=>cases (show false=true from h)
 | .bool,x,h=>by
  cases x with
  | bool b=>exact ⟨b,rfl⟩
  | _=>cases (show false=true from h)
 | .str,x,h=>by
  cases x with
  | str b=>exact ⟨b,rfl⟩
  | _=>cases (show false=true from h)
 | .arr k n,x,h=>by
  cases x with
  | arr k' n' xs=>have:k=k'∧n=n':=by simpa [fitA] using h
                  exact ⟨xs,by rw [this.1,this.2]⟩
  | _=>cases (show false=true from h)
 | .agg l,x,h=>by
  cases x with
  | agg cs=>exact ⟨cs,rfl,fits_WT l cs h⟩
  | _=>cases (show false=true from h)
 | .nl k,x,h=>by
  cases x with
  | nils=>exact .inl rfl
  | fs k' xs=>have:k=k':=by simpa [fitA] using h
              exact .inr ⟨xs,by rw [this]⟩
  | _=>cases (show false=true from h)
 | .fs k,x,h=>by
  cases x with
  | fs k' xs=>have:k=k':=by simpa [fitA] using h
              exact ⟨xs,by rw [this]⟩
  | _=>cases (show false=true from h)
 | .fv s,x,h=>by
  cases x with
  | fv s' xs=>have:s=s':=shEq_eq h
              exact ⟨xs,by rw [this]⟩
  | _=>cases (show false=true from h)
 | .pt f,x,h=>by
  cases x with
  | pt g q=>have:f=g:=by simpa [fitA] using h
            exact ⟨q,by rw [this]⟩
  | _=>cases (show false=true from h)
 | .mp f,x,h=>by
  cases x with
  | mp g q=>have:f=g:=by simpa [fitA] using h
            exact ⟨q,by rw [this]⟩
  | _=>cases (show false=true from h)
theorem fits_WT:∀ (l:List Sh) (cs:List AV),fitsA l cs=true→WTs l cs
 | [],cs,h=>by
  cases cs with
  | nil=>rfl
  | cons=>cases (show false=true from h)
 | s::l,cs,h=>by
  cases cs with
  | nil=>cases (show false=true from h)
  | cons c cs=>
   have h:(fitA s c && fitsA l cs)=true:=h
   rw [Bool.and_eq_true] at h
   exact ⟨c,cs,rfl,fit_WT s c h.1,fits_WT l cs h.2⟩
end
theorem fitAll_WT {s:Sh}:∀ {xs:List AV},fitAll s xs=true→∀ x∈xs,WT s x
 | [],_,x,hx=>by simp at hx
 | y::ys,h,x,hx=>by
  simp only [fitAll,Bool.and_eq_true] at h
  rcases List.mem_cons.1 hx with rfl | hx
  ·exact fit_WT _ _ h.1
  ·exact fitAll_WT h.2 x hx
theorem homo_WT {P:Program} {E:Env} {e:TypeId} {cs:List AV} {s:Sh} (h:homo P E e cs=some s):∀ x∈cs,WT s x:=by
 unfold homo at h
 split at h <;> first | (cases h; done) | skip
 split at h <;> first | (cases h; done) | skip
 rename_i hf
 cases h
 exact fitAll_WT hf
theorem CV_fam_box {s:Sh} {x:AV} {v:Value} (hx:CV w ok θ x v) (hf:fitA s (nrm s x)=true):CV w ok θ (eta s (nrm s x)) v:=by
 rw [eta_of_WT s _ (fit_WT _ _ hf)]
 exact CV_nrm s _ _ hx
theorem Rel.grow (h:Rel C S θ a w) {f:Nat} {F:Fam} {x:AV} {v:Value} (hF:S.fam f=some F) (hw:Later w w') (hblk:∀ g,blk v=some g→w.heap.size≤g) (hb0:base0 v)
  (hob:∀ ok',Keeps w w' (okOf C w S θ) ok' θ (upd θ (.mem f F.l.length) v)→OV C w' ok' (upd θ (.mem f F.l.length) v) (.mem f F.l.length) (({ F with l:=F.l++[x] }:Fam).at F.l.length)) :
  Rel C (S.setFam f (F.l++[x])) (upd θ (.mem f F.l.length) v) a w':=by
 have hF':=fam_setFam_same (x:=F.l++[x]) hF
 have hnh:¬ S.has (.mem f F.l.length):=fun hh=>by
  obtain ⟨F',h1,h2⟩:=hh
  rw [hF] at h1
  cases h1
  exact Nat.lt_irrefl _ h2
 have hat:∀ i,i<F.l.length→({ F with l:=F.l++[x] }:Fam).at i=F.at i:=fun i hi=>by
  have:getE (F.l++[x]) i=getE F.l i:=by simp [getE,List.getD_eq_getElem?_getD,List.getElem?_append_left hi]
  simp only [Fam.at,this]
 have hnew:(S.setFam f (F.l++[x])).has (.mem f F.l.length):=⟨_,hF',by simp⟩
 have hobj:∀ i,i<F.l.length→(S.setFam f (F.l++[x])).obj (.mem f i)=S.obj (.mem f i):=fun i hi=>by
  rw [obj_mem hF',obj_mem hF,hat i hi]
 refine h.turn (fun i=>∃ j,i=.mem f j∧F.l.length≤j) (fun _=>False) rfl (fun i hi=>?_) (fun i hi=>?_) ?_ hw.os hw.tape ⟨hw.output,hw.drawn⟩ hw.size (fun g hg _=>hw.block g hg) (fun _ h=>h.elim) ?_ ?_ ?_ ?_ ?_
 ·have hne:i≠.mem f F.l.length:=fun e=>hi ⟨_,e,Nat.le_refl _⟩
  refine ⟨?_,upd_ne _ _ hne⟩
  by_cases hm:∃ j,i=.mem f j
  ·obtain ⟨j,rfl⟩:=hm
   exact hobj j (Nat.lt_of_not_le fun hj=>hi ⟨j,rfl,hj⟩)
  ·exact obj_setFam_other (fun j e=>hm ⟨j,e⟩)
 ·by_cases hm:∃ j,i=.mem f j
  ·obtain ⟨j,rfl⟩:=hm
   have hj:j<F.l.length:=Nat.lt_of_not_le fun hj=>hi ⟨j,rfl,hj⟩
   exact ⟨fun _=>⟨F,hF,hj⟩,fun _=>⟨_,hF',by simp; omega⟩⟩
  ·exact has_setFam_other (fun j e=>hm ⟨j,e⟩)
 ·intro i y hi
  by_cases e:i=.mem f F.l.length
  ·subst e
   rw [h.fresh _ hnh] at hi
   cases hi
  ·rw [upd_ne _ _ e]
   exact hi
 ·rintro i o u g ⟨j,rfl,hj⟩ ho hown hu hg
  by_cases e:j=F.l.length
  ·subst e
   rw [upd_self] at hu
   cases hu
   exact .inl (hblk g hg)
  ·rw [upd_ne _ _ (fun q=>e (by cases q; rfl))] at hu
   have:¬ S.has (.mem f j):=fun hh=>by
    obtain ⟨F',h1,h2⟩:=hh
    rw [hF] at h1
    cases h1
    omega
   rw [h.fresh _ this] at hu
   cases hu
 ·rintro i j o o' u u' g ⟨i,rfl,hi⟩ ⟨j,rfl,hj⟩ _ _ _ _ hne hu hu'
  have one:∀ k u,F.l.length≤k→upd θ (.mem f F.l.length) v (.mem f k)=some u→k=F.l.length:=fun k u hk hu=>by
   refine Classical.byContradiction (fun e=>?_)
   rw [upd_ne _ _ (fun q=>e (by cases q; rfl))] at hu
   have:¬ S.has (.mem f k):=fun hh=>by
    obtain ⟨F',h1,h2⟩:=hh
    rw [hF] at h1
    cases h1
    omega
   rw [h.fresh _ this] at hu
   cases hu
  exact (hne (by rw [one i _ hi hu,one j _ hj hu'])).elim
 ·rintro i ⟨j,rfl,hj⟩ hn
  by_cases e:j=F.l.length
  ·subst e; exact (hn hnew).elim
  ·rw [upd_ne _ _ (fun q=>e (by cases q; rfl))]
   refine h.fresh _ (fun hh=>?_)
   obtain ⟨F',h1,h2⟩:=hh
   rw [hF] at h1
   cases h1
   omega
 ·rintro i u ⟨j,rfl,hj⟩ hu
  by_cases e:j=F.l.length
  ·subst e
   rw [upd_self] at hu
   cases hu
   exact hb0
  ·rw [upd_ne _ _ (fun q=>e (by cases q; rfl))] at hu
   exact h.base _ _ hu
 ·rintro hk i o ⟨j,rfl,hj⟩ hh ho
  have hj' : j=F.l.length:=by
   obtain ⟨F',h1,h2⟩:=hh
   rw [hF'] at h1
   cases h1
   simp at h2
   omega
  subst hj'
  rw [obj_mem hF'] at ho
  cases ho
  exact hob _ hk
theorem newBox_ok {P:Program} {o:Oper} {e:TypeId} {x:AV} {v:Value} (h:Rel C S θ a w) (hx:(newBox C.E o e x).exe n S=some S') (hv:∀ ok' θ',Keeps w (w.alloc (.cells v.cells e)) (okOf C w S θ) ok' θ θ'→CV (w.alloc (.cells v.cells e)) ok' θ' x v) (hs:v.cells.size=x.width) :
  ∃ θ',Rel C S' θ' (a.put o.dst (.pointer (some ⟨w.heap.size,0,none⟩))) (w.alloc (.cells v.cells e)):=by
 have loc:(newOb o (.box x) fun d=>.ref d 0).exe n S=some S'→∃ θ',Rel C S' θ' (a.put o.dst (.pointer (some ⟨w.heap.size,0,none⟩))) (w.alloc (.cells v.cells e)):=fun hx=>
  newOb_ok (v:=.pointer (some ⟨w.heap.size,0,none⟩)) h hx (Below.new w (.cells v.cells e)) (by rintro g hg; cases hg; exact Nat.le_refl _) (base0_ptr _)
   (by
    intro d ok' θ' hk hd
    exact ⟨w.heap.size,e,(0,0),v,hd,heap_alloc_new w _,free00 _,hv ok' θ' hk,hs,.inl h.size⟩)
   (by
    intro d ok' θ' hd
    exact ⟨_,hd,rfl⟩)
 unfold newBox at hx
 split at hx
 ·exact loc hx
 ·rename_i f hf
  replace hx:=exe_fam hx
  cases hF:S.fam f with
  | none=>rw [hF] at hx; exact loc hx
  | some F=>
   rw [hF] at hx
   simp only at hx
   split at hx <;> first | exact (exe_fail hx).elim | skip
   rename_i hks
   obtain ⟨hm,hx1⟩:=exe_must hx
   have hx2:=exe_setFam hx1
   simp only [Bool.and_eq_true] at hm
   have hr:=h.grow (x:=nrm F.s x) (v:=.pointer (some ⟨w.heap.size,0,none⟩)) hF (Below.new w (.cells v.cells e)) (by rintro g hg; cases hg; exact Nat.le_refl _) (base0_ptr _) (by
    intro ok' hk
    have hat:({ F with l:=F.l++[nrm F.s x] }:Fam).at F.l.length=.box (eta F.s (nrm F.s x)):=by
     simp [Fam.at,hks,getE]
    rw [hat]
    refine ⟨w.heap.size,e,(0,0),v,upd_self _ _ _,heap_alloc_new w _,free00 _,CV_fam_box (hv ok' _ hk) hm.2,?_,.inl h.size⟩
    rw [eta_of_WT _ _ (fit_WT _ _ hm.2),nrm_width]
    exact hs)
   refine ⟨_,put_ok' hx2 hr ?_⟩
   exact ⟨upd_self _ _ _,_,rfl⟩
theorem opBox_ok {P:Program} {o:Oper} {e:TypeId} {x:Operand} {u:AV} (ho:o.op=.box e x) (h:Rel C S θ a w) (hu:CV w (okOf C w S θ) θ u (a.eval x))
  (hx:(opBox C.E o e u).exe n S=some S'):Does P C S' o a w:=by
 obtain ⟨hs,hx⟩:=exe_must hx
 obtain ⟨θ',hr⟩:=newBox_ok (P:=P) (v:=a.eval x) h hx (fun ok' θ' hk=>CV_mono hk _ _ hu) (CV_size hs hu)
 refine Does.value (v:=.pointer (some ⟨w.heap.size,0,none⟩)) ?_ hr
 simp only [execOp,ho,Instr.box,Sem.run_bind,run_newVar,Result.andThen_ok,Sem.run_pure]
theorem opAlloc_ok {P:Program} {o:Oper} {e:TypeId} (ho:o.op=.alloc e) (h:Rel C S θ a w) (hx:(opAlloc P C.E o e).exe n S=some S'):Does P C S' o a w:=by
 unfold opAlloc at hx
 split at hx
 ·rename_i i z hi hz
  split at hx
  ·rename_i v hv
   obtain ⟨hc,hx⟩:=exe_must hx
   simp only [Bool.and_eq_true] at hc
   obtain ⟨θ',hr⟩:=newBox_ok (P:=P) (v:=v) h hx (fun ok' θ' hk=>cvB_ok _ _ hc.1) (Nat.eq_of_beq_eq_true hc.2)
   refine Does.value (v:=.pointer (some ⟨w.heap.size,0,none⟩)) ?_ hr
   simp only [execOp,ho,Instr.alloc,zeroValue,typeInfo,Sem.run_bind,run_program,Result.andThen_ok,hi,hv,Sem.run_pure,run_newVar]
  ·exact (exe_fail hx).elim
 ·exact (exe_fail hx).elim
theorem opPick_ok {P:Program} {o:Oper} {c x y:Operand} {uc ux uy:AV} (ho:o.op=.pick c x y) (h:Rel C S θ a w) (hc:CV w (okOf C w S θ) θ uc (a.eval c))
  (hx:CV w (okOf C w S θ) θ ux (a.eval x)) (hy:CV w (okOf C w S θ) θ uy (a.eval y)) (hh:(opPick o uc ux uy).exe n S=some S'):Does P C S' o a w:=by
 unfold opPick at hh
 cases uc <;> first | exact (exe_fail hh).elim | skip
 rename_i b
 have hc' : a.eval c=.bool b:=hc
 refine Does.value (v:=if b then a.eval x else a.eval y) ?_ (put_ok h ?_ hh)
 ·simp only [execOp,ho,Sem.run_bind,hc',asBool,Sem.run_pure,Result.andThen_ok]
 ·unfold sel
  split
  ·rename_i p q
   have h1:a.eval x=.bool p:=hx
   have h2:a.eval y=.bool q:=hy
   rw [h1,h2]
   cases b <;> rfl
  ·rename_i k p k' q
   have h1:a.eval x=.int k p:=hx
   have h2:a.eval y=.int k' q:=hy
   rw [h1,h2]
   cases hk:k == k' with
   | true=>
    have:=eq_of_beq hk
    subst this
    cases b <;> rfl
   | false=>cases b <;> rfl
  ·cases b
   ·exact hy
   ·exact hx
end
end Go.Am
end
section
set_option linter.unusedVariables false
set_option linter.unusedSimpArgs false
namespace Go.Am
open Go.RowKit
section
variable {P:Program} {w:World}
theorem typOk_info {t:TypeId} (h:typOk P t=true):∃ i u,P.info? t=some i∧P.underlying t=some u:=by
 unfold typOk at h
 split at h
 ·rename_i i u hi hu
  exact ⟨i,u,hi,hu⟩
 ·cases h
theorem run_sizeOf' {t:TypeId} (h:typOk P t=true):(sizeOf t).run P w=.ok (sizeT P t) w:=by
 obtain ⟨i,u,hi,hu⟩:=typOk_info h
 simp [sizeOf,typeInfo,hi,sizeT]
theorem run_isAgg' {t:TypeId} (h:typOk P t=true):(isAgg t).run P w=.ok (aggT P t) w:=by
 obtain ⟨i,u,hi,hu⟩:=typOk_info h
 simp only [isAgg,Sem.run_bind,run_underlying hu,Result.andThen_ok,aggT,hu]
 cases u <;> rfl
theorem szIs_ok {t:TypeId} {n:Nat} (h:szIs P t n=true):typOk P t=true∧sizeT P t=n:=by
 simp only [szIs,Bool.and_eq_true] at h
 exact ⟨h.1,Nat.eq_of_beq_eq_true h.2⟩
end
section
variable {C:Ctx} {S S' : St} {θ θ' : Nm→Option Value} {a:Act} {w w' : World} {n:Rp} {ok:Nat→Prop} {P:Program}
theorem cellsAt_left {ad:Addr} {us vs:List Value} (h:cellsAt w ad (us++vs)):cellsAt w ad us:=fun j u hj=>h j u (by
 rw [List.getElem?_append_left (List.getElem?_eq_some_iff.1 hj).1]; exact hj)
theorem cellsAt_right {ad:Addr} {us vs:List Value} (h:cellsAt w ad (us++vs)):cellsAt w (ad.add us.length) vs:=fun j u hj=>by
 rw [add_add']
 exact h (us.length+j) u (by rw [List.getElem?_append_right (by omega)]; simpa using hj)
theorem run_loadCells' {ad:Addr} {cs:List Value} (h:cellsAt w ad cs):(loadCells ad cs.length).run P w=.ok cs.toArray w:=run_loadCells_list w ad cs h
theorem loadVar_ok {t:TypeId} {ad:Addr} {u:AV} {v:Value} (hf:fits P t u=true) (hs:v.cells.size=u.width) (hu:CV w ok θ u v) (hc:cellsAt w ad v.cells.toList) :
  ∃ v',(loadVar t ad).run P w=.ok v' w∧CV w ok θ u v':=by
 simp only [fits,Bool.and_eq_true,beq_iff_eq] at hf
 obtain ⟨ht,ha,hw⟩:=hf
 have hw' : u.width=sizeT P t:=Nat.eq_of_beq_eq_true hw
 simp only [loadVar,Sem.run_bind,run_isAgg' ht,Result.andThen_ok]
 cases hb:u.isAgg with
 | true=>
  rw [←ha,hb]
  simp only [if_true,Sem.run_bind,run_sizeOf' ht,Result.andThen_ok]
  have hl:sizeT P t=v.cells.toList.length:=by rw [←hw',←hs]; simp
  rw [hl,run_loadCells' hc]
  simp only [Result.andThen_ok,Sem.run_pure]
  refine ⟨_,rfl,?_⟩
  cases u with
  | arr k m xs=>obtain ⟨_,rfl⟩:=hu; simpa [Value.cells] using ⟨‹_›,rfl⟩
  | agg cs=>obtain ⟨vs,rfl,h2⟩:=hu; exact ⟨vs,by simp [Value.cells],h2⟩
  | _=>simp [AV.isAgg] at hb
 | false=>
  rw [←ha,hb]
  simp only [Bool.false_eq_true,if_false]
  by_cases hst:u.stor=true
  ·have h1:=CV_one hb hst hu
   have h2:=hc 0 v (by rw [h1]; rfl)
   have e0:ad.add 0=ad:=by simp [Addr.add]
   rw [e0] at h2
   simp only [run_load,h2]
   exact ⟨_,rfl,hu⟩
  ·cases u <;> first | (simp [AV.stor] at hst; done) | exact hu.elim | skip
   ·
    have hl:v.cells.size=1:=hs
    have h2:=hc 0 (v.cells.toList[0]'(by simp [hl])) (List.getElem?_eq_getElem _)
    have e0:ad.add 0=ad:=by simp [Addr.add]
    rw [e0] at h2
    simp only [run_load,h2]
    exact ⟨_,rfl,trivial⟩
   ·rename_i vs
    obtain ⟨us,rfl,h3⟩:=hu
    have h2:=hc 0 (.tuple us) rfl
    have e0:ad.add 0=ad:=by simp [Addr.add]
    rw [e0] at h2
    simp only [run_load,h2]
    exact ⟨_,rfl,us,rfl,h3⟩
mutual
theorem getAt_ok:∀ (x:AV) {v:Value} {off wd:Nat} {g:Bool} {u:AV},CV w ok θ x v→v.cells.size=x.width→getAt x off wd g=some u→
  ∃ v' us ws,v.cells.toList=us++(v'.cells.toList++ws)∧us.length=off∧CV w ok θ u v'∧v'.cells.size=u.width∧u.width=wd∧u.isAgg=g
 | .agg cs,v,off,wd,g,u,hv,hs,h=>by
  simp only [getAt] at h
  split at h
  ·rename_i hb
   simp only [Bool.and_eq_true] at hb
   cases h
   have h0:=Nat.eq_of_beq_eq_true hb.1
   subst h0
   exact ⟨v,[],[],by simp,rfl,hv,hs,Nat.eq_of_beq_eq_true hb.2.1,hb.2.2.symm ▸ rfl⟩
  ·obtain ⟨vs,rfl,hc⟩:=hv
   exact getsAt_ok cs hc h
 | .undef,v,off,wd,g,u,hv,hs,h=>getAt_leaf (by simpa [getAt] using h) hv hs
 | .bool b,v,off,wd,g,u,hv,hs,h=>getAt_leaf (by simpa [getAt] using h) hv hs
 | .int k m,v,off,wd,g,u,hv,hs,h=>getAt_leaf (by simpa [getAt] using h) hv hs
 | .str l,v,off,wd,g,u,hv,hs,h=>getAt_leaf (by simpa [getAt] using h) hv hs
 | .nils,v,off,wd,g,u,hv,hs,h=>getAt_leaf (by simpa [getAt] using h) hv hs
 | .nilp,v,off,wd,g,u,hv,hs,h=>getAt_leaf (by simpa [getAt] using h) hv hs
 | .nili,v,off,wd,g,u,hv,hs,h=>getAt_leaf (by simpa [getAt] using h) hv hs
 | .arr ..,v,off,wd,g,u,hv,hs,h=>getAt_leaf (by simpa [getAt] using h) hv hs
 | .fs ..,v,off,wd,g,u,hv,hs,h=>getAt_leaf (by simpa [getAt] using h) hv hs
 | .fv ..,v,off,wd,g,u,hv,hs,h=>getAt_leaf (by simpa [getAt] using h) hv hs
 | .own ..,v,off,wd,g,u,hv,hs,h=>getAt_leaf (by simpa [getAt] using h) hv hs
 | .win ..,v,off,wd,g,u,hv,hs,h=>getAt_leaf (by simpa [getAt] using h) hv hs
 | .wina ..,v,off,wd,g,u,hv,hs,h=>getAt_leaf (by simpa [getAt] using h) hv hs
 | .ref ..,v,off,wd,g,u,hv,hs,h=>getAt_leaf (by simpa [getAt] using h) hv hs
 | .refa ..,v,off,wd,g,u,hv,hs,h=>getAt_leaf (by simpa [getAt] using h) hv hs
 | .refw ..,v,off,wd,g,u,hv,hs,h=>getAt_leaf (by simpa [getAt] using h) hv hs
 | .eref ..,v,off,wd,g,u,hv,hs,h=>getAt_leaf (by simpa [getAt] using h) hv hs
 | .fp ..,v,off,wd,g,u,hv,hs,h=>getAt_leaf (by simpa [getAt] using h) hv hs
 | .tup ..,v,off,wd,g,u,hv,hs,h=>getAt_leaf (by simpa [getAt] using h) hv hs
 | .fn ..,v,off,wd,g,u,hv,hs,h=>getAt_leaf (by simpa [getAt] using h) hv hs
 | .nilm,v,off,wd,g,u,hv,hs,h=>getAt_leaf (by simpa [getAt] using h) hv hs
 | .clo ..,v,off,wd,g,u,hv,hs,h=>getAt_leaf (by simpa [getAt] using h) hv hs
 | .pt ..,v,off,wd,g,u,hv,hs,h=>getAt_leaf (by simpa [getAt] using h) hv hs
 | .mp ..,v,off,wd,g,u,hv,hs,h=>getAt_leaf (by simpa [getAt] using h) hv hs
 | .mc ..,v,off,wd,g,u,hv,hs,h=>getAt_leaf (by simpa [getAt] using h) hv hs
theorem getsAt_ok:∀ (cs:List AV) {vs:List Value} {off wd:Nat} {g:Bool} {u:AV},CVs w ok θ cs vs→getsAt cs off wd g=some u→
  ∃ v' us ws,vs=us++(v'.cells.toList++ws)∧us.length=off∧CV w ok θ u v'∧v'.cells.size=u.width∧u.width=wd∧u.isAgg=g
 | [],vs,off,wd,g,u,hc,h=>by simp [getsAt] at h
 | c::cs,vs,off,wd,g,u,hc,h=>by
  obtain ⟨v,rest,rfl,hs,h1,h2⟩:=hc
  simp only [getsAt] at h
  split at h
  ·obtain ⟨v',us,ws,h3,h4⟩:=getAt_ok c h1 hs h
   exact ⟨v',us,ws++rest,by rw [h3]; simp,h4⟩
  ·rename_i hb
   have hle:c.width≤off:=by
    rcases Nat.lt_or_ge off c.width with h' | h'
    ·rw [Nat.ble_eq_true_of_le h'] at hb; cases hb
    ·exact h'
   obtain ⟨v',us,ws,h3,h4,h5⟩:=getsAt_ok cs h2 h
   refine ⟨v',v.cells.toList++us,ws,by rw [h3]; simp,?_,h5⟩
   rw [List.length_append,h4,Array.length_toList,hs]
   omega
theorem getAt_leaf {x:AV} {v:Value} {off wd:Nat} {g:Bool} {u:AV} (h:leafAt x off wd g=some u)
  (hv:CV w ok θ x v) (hs:v.cells.size=x.width):∃ v' us ws,v.cells.toList=us++(v'.cells.toList++ws)∧us.length=off∧CV w ok θ u v'∧v'.cells.size=u.width∧u.width=wd∧u.isAgg=g:=by
 unfold leafAt at h
 split at h
 ·rename_i hb
  simp only [Bool.and_eq_true,beq_iff_eq] at hb
  cases h
  have h0:=Nat.eq_of_beq_eq_true hb.1
  subst h0
  exact ⟨v,[],[],by simp,rfl,hv,hs,Nat.eq_of_beq_eq_true hb.2.1,hb.2.2⟩
 ·cases h
end
theorem cellsAt_block {g:Nat} {cur:Array Value} {e:TypeId} {fr:Nat × Nat} (h:w.heap[g]? = some (.cells cur e fr)):cellsAt w ⟨g,0,none⟩ cur.toList:=fun j u hj=>by
 rw [add_lit,cell_of_row w g (0+j) cur e fr h]
 simpa using hj
theorem getI_get {xs:List Int} {i:Nat} (h:i<xs.length):xs[i]? = some (getI xs i):=by
 simp [getI,List.getD_eq_getElem?_getD,h]
theorem getE_get {xs:List AV} {i:Nat} (h:i<xs.length):xs[i]? = some (getE xs i):=by
 simp [getE,List.getD_eq_getElem?_getD,h]
theorem ints_get {k:IntKind} {xs:List Int} {i:Nat} (h:i<xs.length):(ints k xs)[i]? = some (.int k (getI xs i)):=by
 simp [ints,getI,List.getD_eq_getElem?_getD,h]
theorem OwnRow.cells {M:Nat→Prop} {e:TypeId} {size m c g m' : Nat} {cs:List Value} (h:OwnRow w M e size (.slice (some ⟨g,0,none⟩) m' c) m cs):cellsAt w ⟨g,0,none⟩ cs∧m' = m:=by
 rcases h.2 with ⟨h1,_⟩ | ⟨g',cap,cur,fr,h1,h2,h3,h4,h5,h6,h7,h8⟩
 ·cases h1
 ·cases h1
  refine ⟨?_,rfl⟩
  have:=cellsAt_block h3
  rw [←h8]
  rw [←List.take_append_drop (m * size) cur.toList] at this
  exact cellsAt_left this
theorem vw_some {q:Option Ob} {o:Ob} (h:vw q=some o):∃ o',q=some o'∧o'.isOwn=o.isOwn:=by
 unfold vw at h
 split at h
 ·cases h; exact ⟨_,rfl,rfl⟩
 ·exact ⟨o,h,rfl⟩
theorem Rel.viewH (h:Rel C S θ a w) {d:Nm} {o:Ob} (ho:vw (S.obj d)=some o) (hd:S.has d):OV C w (okOf C w S θ) θ d o:=by
 unfold vw at ho
 split at ho
 ·rename_i e k xs sp hq
  cases ho
  obtain ⟨v,h1,h2,_⟩:=h.objs _ _ hd hq
  exact ⟨v,h1,fun _=>h2,fun h=>by cases h⟩
 ·exact h.objs _ _ hd ho
theorem Rel.view (h:Rel C S θ a w) {d:Nm} {o:Ob} {v:Value} (ho:vw (S.obj d)=some o) (hd:θ d=some v):OV C w (okOf C w S θ) θ d o:=h.viewH ho (h.has_of hd)
theorem rows_has {d:Nm} {own:Bool} {e:TypeId} {s:Sh} {xs:List AV} (ho:vw (S.obj d)=some (.rows own e s xs)):S.has d:=by
 cases d with
 | top d=>
  show S.obj (.top d)≠none
  intro e
  rw [e] at ho
  cases ho
 | mem f i=>
  exfalso
  cases hq:S.obj (.mem f i) with
  | none=>rw [hq] at ho; cases ho
  | some o=>
   obtain ⟨F,_,rfl⟩:=fam_of_obj hq
   rw [hq] at ho
   unfold Fam.at at ho
   split at ho <;> cases ho
theorem row_cells {d:Nm} {g m c:Nat} {own:Bool} {e:TypeId} {k:IntKind} {xs:List Int} (h:OV C w ok θ d (.row own e k xs)) (hd:θ d=some (.slice (some ⟨g,0,none⟩) m c)) :
  cellsAt w ⟨g,0,none⟩ (ints k xs)∧m=xs.length:=by
 obtain ⟨v,h1,h2,h3⟩:=h
 rw [hd] at h1
 cases h1
 cases own with
 | true=>exact (h2 rfl).cells
 | false=>
  obtain ⟨A,c',h4,h5,h6⟩:=h3 rfl
  cases h4
  refine ⟨?_,rfl⟩
  rcases Nat.eq_zero_or_pos xs.length with h0 | h0
  ·have:xs=[]:=List.eq_nil_of_length_eq_zero h0
   subst this
   intro j u hj
   simp [ints] at hj
  ·obtain ⟨ad,h7,_,h8⟩:=h6 h0
   cases h7
   exact h8
theorem rows_cells {d:Nm} {g m c:Nat} {own:Bool} {e:TypeId} {s:Sh} {xs:List AV} (h:OV C w ok θ d (.rows own e s xs)) (hd:θ d=some (.slice (some ⟨g,0,none⟩) m c)) :
  ∃ cs,CVs w ok θ xs cs∧cellsAt w ⟨g,0,none⟩ cs∧m=xs.length∧∀ x∈xs,WT s x:=by
 obtain ⟨v,h1,hw,h2,h3⟩:=h
 rw [hd] at h1
 cases h1
 cases own with
 | true=>
  obtain ⟨cs,h4,h5⟩:=h2 rfl
  exact ⟨cs,h4,h5.cells.1,h5.cells.2,hw⟩
 | false=>
  obtain ⟨A,c',cs,h4,h5,_,h7,h6⟩:=h3 rfl
  cases h4
  refine ⟨cs,h7,?_,rfl,hw⟩
  rcases Nat.eq_zero_or_pos xs.length with h0 | h0
  ·have:xs=[]:=List.eq_nil_of_length_eq_zero h0
   subst this
   simp only [CVs] at h7
   subst h7
   intro j u hj
   simp at hj
  ·obtain ⟨ad,h8,_,h9⟩:=h6 h0
   cases h8
   exact h9
theorem elem_at {xs:List AV} {cs:List Value} {s:Sh} (hc:CVs w ok θ xs cs) (hw:∀ x∈xs,WT s x) {i:Nat} (hi:i<xs.length) {ad:Addr} (hl:cellsAt w ad cs) :
  ∃ v,CV w ok θ (getE xs i) v∧v.cells.size=(getE xs i).width∧cellsAt w (ad.add (i * s.width)) v.cells.toList∧eta s (getE xs i)=getE xs i∧(getE xs i).width=s.width:=by
 have hg:=getE_get hi
 obtain ⟨v,us,ws,rfl,h1,h2,h3,_,_⟩:=CVs_get hc hg
 have hm:getE xs i∈xs:=List.mem_of_getElem? hg
 refine ⟨v,h3,h2,?_,eta_of_WT s _ (hw _ hm),WT_width s _ (hw _ hm)⟩
 have h4:us.length=i * s.width:=by
  rw [h1,WT_widths (s:=s) (fun x hx=>hw x (List.mem_of_mem_take hx)),List.length_take,Nat.min_eq_left (by omega)]
 rw [←h4]
 exact cellsAt_left (cellsAt_right hl)
theorem ld_ok {t:TypeId} {x:Operand} {u:AV} {K:AV→Pg} (h:Rel C S θ a w) (hu:CV w (okOf C w S θ) θ u (a.eval x)) (hh:(ld P t u K).exe n S=some S') :
  ∃ r v,CV w (okOf C w S θ) θ r v∧(Instr.loadAt t (a.eval x)).run P w=.ok v w∧(K r).exe n S=some S':=by
 unfold ld at hh
 have hq:=exe_must hh
 clear hh
 obtain ⟨ht,hh⟩:=hq
 have done:∀ (ad:Addr) (r:AV) (v:Value),a.eval x=.pointer (some ad)→fits P t r=true→v.cells.size=r.width→CV w (okOf C w S θ) θ r v→cellsAt w ad v.cells.toList→(K r).exe n S=some S'→
   ∃ r v,CV w (okOf C w S θ) θ r v∧(Instr.loadAt t (a.eval x)).run P w=.ok v w∧(K r).exe n S=some S':=by
  intro ad r v he hf hs hr hc hk
  obtain ⟨v',h1,h2⟩:=loadVar_ok hf hs hr hc
  refine ⟨r,v',h2,?_,hk⟩
  simp only [Instr.loadAt,Sem.run_bind,he,Instr.sureAddr,Sem.run_pure,Result.andThen_ok,h1]
 have fitsOf:∀ r:AV,r.width=sizeT P t→r.isAgg=aggT P t→fits P t r=true:=by
  intro r h1 h2
  simp only [fits,ht,h1,h2,Bool.true_and,beq_self_eq_true,Bool.and_eq_true,true_and]
  exact Nat.beq_refl _
 cases u <;> first | exact (exe_fail hh).elim | skip
 ·
  rename_i d off
  obtain ⟨g,hd,he⟩:=hu
  replace hh:=exe_obj hh
  cases ho:S.obj d with
  | none=>rw [ho] at hh; exact (exe_fail hh).elim
  | some ob=>
   rw [ho] at hh
   cases ob <;> first | exact (exe_fail hh).elim | skip
   rename_i tr
   simp only at hh
   split at hh
   ·rename_i r hr
    obtain ⟨g',e,fr,v,h1,h2,h3,h4,h5,h6⟩:=h.ob ho hd
    rw [hd] at h1
    cases h1
    obtain ⟨v',us,ws,k1,k2,k3,k4,k5,k6⟩:=getAt_ok tr h4 h5 hr
    have hc:=cellsAt_block h2
    rw [k1] at hc
    have hc':=cellsAt_left (cellsAt_right hc)
    rw [add_lit,Nat.zero_add,k2] at hc'
    exact done _ r v' he (fitsOf r k5 k6) k4 k3 hc' hh
   ·exact (exe_fail hh).elim
 ·
  rename_i d off m i
  obtain ⟨hi,g,hd,he⟩:=hu
  replace hh:=exe_obj hh
  cases ho:S.obj d with
  | none=>rw [ho] at hh; exact (exe_fail hh).elim
  | some ob=>
   rw [ho] at hh
   cases ob <;> first | exact (exe_fail hh).elim | skip
   rename_i tr
   simp only at hh
   split at hh
   ·rename_i k' n' xs hr
    have hq:=exe_must hh
    clear hh
    obtain ⟨hm,hh⟩:=hq
    simp only [Bool.and_eq_true,Bool.not_eq_true'] at hm
    have hn:=Nat.eq_of_beq_eq_true hm.2
    subst hn
    obtain ⟨g',e,fr,v,h1,h2,h3,h4,h5,h6⟩:=h.ob ho hd
    rw [hd] at h1
    cases h1
    obtain ⟨v',us,ws,k1,k2,⟨k3,rfl⟩,k4,k5,k6⟩:=getAt_ok tr h4 h5 hr
    have hc:=cellsAt_block h2
    rw [k1] at hc
    have hc':=cellsAt_left (cellsAt_right hc)
    rw [add_lit,Nat.zero_add,k2] at hc'
    have hc2:=hc' i (.int k' (getI xs i)) (by simpa [Value.cells] using ints_get (by omega))
    rw [add_lit] at hc2
    refine ⟨.int k' (getI xs i),_,rfl,?_,hh⟩
    simp only [Instr.loadAt,Sem.run_bind,he,Instr.sureAddr,Sem.run_pure,Result.andThen_ok,loadVar,run_isAgg' ht,hm.1,Bool.false_eq_true,if_false,run_load,hc2]
   ·exact (exe_fail hh).elim
 ·
  rename_i d sz i off
  obtain ⟨g,m,c,hd,hi,he⟩:=hu
  replace hh:=exe_obj hh
  cases ho:vw (S.obj d) with
  | none=>rw [ho] at hh; exact (exe_fail hh).elim
  | some ob=>
   rw [ho] at hh
   cases ob <;> first | exact (exe_fail hh).elim | skip
   ·rename_i own e k' xs
    have hq:=exe_must hh
    clear hh
    obtain ⟨hm,hh⟩:=hq
    have hq:=exe_chk hh
    clear hh
    obtain ⟨hlt,hh⟩:=hq
    simp only [Bool.and_eq_true,Bool.not_eq_true'] at hm
    have h1:=Nat.eq_of_beq_eq_true hm.2.1
    have h2:=Nat.eq_of_beq_eq_true hm.2.2
    subst h1
    subst h2
    have hlt:=Nat.le_of_ble_eq_true hlt
    have hc2:=(row_cells (h.view ho hd) hd).1 i (.int k' (getI xs i)) (ints_get (by omega))
    rw [add_lit,Nat.zero_add] at hc2
    refine ⟨.int k' (getI xs i),_,rfl,?_,hh⟩
    simp only [Instr.loadAt,Sem.run_bind,he,Instr.sureAddr,Sem.run_pure,Result.andThen_ok,loadVar,run_isAgg' ht,hm.1,Bool.false_eq_true,if_false,run_load,Nat.mul_one,Nat.add_zero,hc2]
   ·rename_i own e s xs
    simp only at hh
    split at hh
    ·rename_i r hr
     have hq:=exe_must hh
     clear hh
     obtain ⟨hm,hh⟩:=hq
     have hq:=exe_chk hh
     clear hh
     obtain ⟨hlt,hh⟩:=hq
     have h1:=Nat.eq_of_beq_eq_true hm
     subst h1
     have hlt:=Nat.le_of_ble_eq_true hlt
     obtain ⟨cs,hcs,hcl,hml,hw⟩:=rows_cells (h.view ho hd) hd
     obtain ⟨v,q1,q2,q3,q4,q5⟩:=elem_at hcs hw (i:=i) (by omega) hcl
     rw [q4] at hr
     obtain ⟨v',us,ws,k1,k2,k3,k4,k5,k6⟩:=getAt_ok _ q1 q2 hr
     rw [k1] at q3
     have hc':=cellsAt_left (cellsAt_right q3)
     rw [add_lit,add_lit,Nat.zero_add,k2] at hc'
     exact done _ r v' he (fitsOf r k5 k6) k4 k3 hc' hh
    ·exact (exe_fail hh).elim
 ·
  rename_i d oo nn off m
  obtain ⟨hi,g,hd,he⟩:=hu
  replace hh:=exe_obj hh
  cases ho:S.obj d with
  | none=>rw [ho] at hh; exact (exe_fail hh).elim
  | some ob=>
   rw [ho] at hh
   cases ob <;> first | exact (exe_fail hh).elim | skip
   rename_i tr
   simp only at hh
   split at hh
   ·rename_i k' n' xs hr
    have hq:=exe_must hh
    clear hh
    obtain ⟨hm,hh⟩:=hq
    rw [Bool.and_eq_true] at hm
    have hn:=Nat.eq_of_beq_eq_true hm.2
    subst hn
    obtain ⟨g',e,fr,v,h1,h2,h3,h4,h5,h6⟩:=h.ob ho hd
    rw [hd] at h1
    cases h1
    obtain ⟨v',us,ws,k1,k2,⟨k3,rfl⟩,k4,k5,k6⟩:=getAt_ok tr h4 h5 hr
    have hc:=cellsAt_block h2
    rw [k1] at hc
    have hc':=cellsAt_left (cellsAt_right hc)
    rw [add_lit,Nat.zero_add,k2] at hc'
    have hlen:((xs.drop off).take m).length=m:=by simp; omega
    refine done _ (.arr k' m ((xs.drop off).take m)) (.agg (ints k' ((xs.drop off).take m)).toArray) he hm.1 (by simp [Value.cells,ints,AV.width]; omega) ⟨hlen,rfl⟩ (fun j u hj=>?_) hh
    have hj' : (ints k' ((xs.drop off).take m))[j]? = some u:=by simpa [Value.cells] using hj
    have hjm:j<m:=by
     have:=(List.getElem?_eq_some_iff.1 hj').1
     rw [ints_length,hlen] at this
     exact this
    have hx:(ints k' xs)[off+j]? = some u:=by
     unfold ints at hj' ⊢
     rw [List.getElem?_map,List.getElem?_take_of_lt hjm,List.getElem?_drop] at hj'
     rw [List.getElem?_map]
     exact hj'
    have:=hc' (off+j) u (by simpa [Value.cells] using hx)
    rw [add_lit] at this ⊢
    rw [Nat.add_assoc]
    exact this
   ·exact (exe_fail hh).elim
 ·
  rename_i r
  obtain ⟨ad,v,he,_,h2,h3⟩:=hu
  obtain ⟨hf,hh⟩:=exe_must hh
  simp only [Bool.and_eq_true] at hf
  exact done ad r v he hf.1 (CV_size hf.2 h2) h2 h3 hh
theorem flat_stor {x:AV} (h:x.flat=true):x.stor=true:=by cases x <;> first | rfl | (simp [AV.flat] at h; done)
mutual
theorem CV_cells:∀ {x:AV} {v:Value},x.flat=true→CV w ok θ x v→∀ c∈v.cells.toList,c.oneCell' = true
 | .agg cs,v,hf,h,c,hc=>by
  obtain ⟨vs,rfl,h2⟩:=h
  exact CVs_cells (by simpa [AV.flat] using hf) h2 c (by simpa [Value.cells] using hc)
 | .arr k n xs,v,hf,h,c,hc=>by
  obtain ⟨_,rfl⟩:=h
  simp only [Value.cells,ints,List.mem_map] at hc
  obtain ⟨_,_,rfl⟩:=hc
  rfl
 | .undef,v,hf,_,_,_=>by simp [AV.flat] at hf
 | .tup _,v,hf,_,_,_=>by simp [AV.flat] at hf
 | .bool b,v,_,h,c,hc=>by cases (h:v=_); simp only [Value.cells,List.mem_singleton] at hc; subst hc; rfl
 | .int k m,v,_,h,c,hc=>by cases (h:v=_); simp only [Value.cells,List.mem_singleton] at hc; subst hc; rfl
 | .str l,v,_,h,c,hc=>by cases (h:v=_); simp only [Value.cells,List.mem_singleton] at hc; subst hc; rfl
 | .nils,v,_,h,c,hc=>by cases (h:v=_); simp only [Value.cells,List.mem_singleton] at hc; subst hc; rfl
 | .nilp,v,_,h,c,hc=>by cases (h:v=_); simp only [Value.cells,List.mem_singleton] at hc; subst hc; rfl
 | .nili,v,_,h,c,hc=>by cases (h:v=_); simp only [Value.cells,List.mem_singleton] at hc; subst hc; rfl
 | .fs ..,v,_,h,c,hc=>by obtain ⟨_,_,rfl,_⟩:=h; simp only [Value.cells,List.mem_singleton] at hc; subst hc; rfl
 | .fv ..,v,_,h,c,hc=>by obtain ⟨_,_,_,rfl,_⟩:=h; simp only [Value.cells,List.mem_singleton] at hc; subst hc; rfl
 | .win ..,v,_,h,c,hc=>by obtain ⟨_,_,rfl,_⟩:=h; simp only [Value.cells,List.mem_singleton] at hc; subst hc; rfl
 | .wina ..,v,_,h,c,hc=>by obtain ⟨_,_,rfl,_⟩:=h; simp only [Value.cells,List.mem_singleton] at hc; subst hc; rfl
 | .own ..,v,_,h,c,hc=>by obtain ⟨_,_,_,_,rfl⟩:=h; simp only [Value.cells,List.mem_singleton] at hc; subst hc; rfl
 | .ref ..,v,_,h,c,hc=>by obtain ⟨_,_,rfl⟩:=h; simp only [Value.cells,List.mem_singleton] at hc; subst hc; rfl
 | .refw ..,v,_,h,c,hc=>by obtain ⟨_,_,_,rfl⟩:=h; simp only [Value.cells,List.mem_singleton] at hc; subst hc; rfl
 | .refa ..,v,_,h,c,hc=>by obtain ⟨_,_,_,rfl⟩:=h; simp only [Value.cells,List.mem_singleton] at hc; subst hc; rfl
 | .eref ..,v,_,h,c,hc=>by obtain ⟨_,_,_,_,_,rfl⟩:=h; simp only [Value.cells,List.mem_singleton] at hc; subst hc; rfl
 | .fp ..,v,_,h,c,hc=>by obtain ⟨_,_,rfl,_⟩:=h; simp only [Value.cells,List.mem_singleton] at hc; subst hc; rfl
 | .fn f,v,_,h,c,hc=>by cases (h:v=_); simp only [Value.cells,List.mem_singleton] at hc; subst hc; rfl
 | .nilm,v,_,h,c,hc=>by cases (h:v=_); simp only [Value.cells,List.mem_singleton] at hc; subst hc; rfl
 | .clo ..,v,_,h,c,hc=>by obtain ⟨_,rfl,_⟩:=h; simp only [Value.cells,List.mem_singleton] at hc; subst hc; rfl
 | .pt f none,v,_,h,c,hc=>by cases (h:v=_); simp only [Value.cells,List.mem_singleton] at hc; subst hc; rfl
 | .pt f (some i),v,_,h,c,hc=>by obtain ⟨_,g,rfl⟩:=h; simp only [Value.cells,List.mem_singleton] at hc; subst hc; rfl
 | .mp f none,v,_,h,c,hc=>by cases (h:v=_); simp only [Value.cells,List.mem_singleton] at hc; subst hc; rfl
 | .mp f (some i),v,_,h,c,hc=>by obtain ⟨_,g,rfl⟩:=h; simp only [Value.cells,List.mem_singleton] at hc; subst hc; rfl
 | .mc _ _,v,hf,_,_,_=>by simp [AV.flat] at hf
theorem CVs_cells:∀ {cs:List AV} {vs:List Value},AV.flats cs=true→CVs w ok θ cs vs→∀ c∈vs,c.oneCell' = true
 | [],vs,_,h,c,hc=>by simp only [CVs] at h; subst h; cases hc
 | x::cs,vs,hf,h,c,hc=>by
  obtain ⟨v,rest,rfl,_,h1,h2⟩:=h
  simp only [AV.flats,Bool.and_eq_true] at hf
  rcases List.mem_append.1 hc with hc | hc
  ·exact CV_cells hf.1 h1 c hc
  ·exact CVs_cells hf.2 h2 c hc
end
mutual
theorem setAt_ok:∀ (x:AV) {v vy:Value} {off:Nat} {y u:AV},CV w ok θ x v→v.cells.size=x.width→getAt x off y.width y.isAgg=some u→CV w ok θ y vy→vy.cells.size=y.width→
  ∃ v2 v0 us ws,v.cells.toList=us++(v0++ws)∧us.length=off∧v0.length=y.width∧CV w ok θ (setAt x off y) v2∧v2.cells.toList=us++(vy.cells.toList++ws)∧(setAt x off y).width=x.width
 | .agg cs,v,vy,off,y,u,hv,hs,h,hy,hys=>by
  simp only [getAt] at h
  simp only [setAt]
  split at h
  ·rename_i hb
   simp only [Bool.and_eq_true] at hb
   have h0:=Nat.eq_of_beq_eq_true hb.1
   have h1:=Nat.eq_of_beq_eq_true hb.2.1
   subst h0
   exact ⟨vy,v.cells.toList,[],[],by simp,rfl,by rw [Array.length_toList,hs,←h1]; rfl,hy,by simp,by rw [←h1]; rfl⟩
  ·rename_i hb
   obtain ⟨vs,rfl,hc⟩:=hv
   obtain ⟨vs2,v0,us,ws,h1,h2,h3,h4,h5,h6⟩:=setsAt_ok cs hc h hy hys
   exact ⟨.agg vs2.toArray,v0,us,ws,h1,h2,h3,⟨_,rfl,by simpa using h4⟩,by simpa [Value.cells] using h5,h6⟩
 | .undef,v,vy,off,y,u,hv,hs,h,hy,hys=>setAt_leaf (by simpa [getAt] using h) hs hy
 | .bool b,v,vy,off,y,u,hv,hs,h,hy,hys=>setAt_leaf (by simpa [getAt] using h) hs hy
 | .int k m,v,vy,off,y,u,hv,hs,h,hy,hys=>setAt_leaf (by simpa [getAt] using h) hs hy
 | .str l,v,vy,off,y,u,hv,hs,h,hy,hys=>setAt_leaf (by simpa [getAt] using h) hs hy
 | .nils,v,vy,off,y,u,hv,hs,h,hy,hys=>setAt_leaf (by simpa [getAt] using h) hs hy
 | .nilp,v,vy,off,y,u,hv,hs,h,hy,hys=>setAt_leaf (by simpa [getAt] using h) hs hy
 | .nili,v,vy,off,y,u,hv,hs,h,hy,hys=>setAt_leaf (by simpa [getAt] using h) hs hy
 | .arr ..,v,vy,off,y,u,hv,hs,h,hy,hys=>setAt_leaf (by simpa [getAt] using h) hs hy
 | .fs ..,v,vy,off,y,u,hv,hs,h,hy,hys=>setAt_leaf (by simpa [getAt] using h) hs hy
 | .fv ..,v,vy,off,y,u,hv,hs,h,hy,hys=>setAt_leaf (by simpa [getAt] using h) hs hy
 | .own ..,v,vy,off,y,u,hv,hs,h,hy,hys=>setAt_leaf (by simpa [getAt] using h) hs hy
 | .win ..,v,vy,off,y,u,hv,hs,h,hy,hys=>setAt_leaf (by simpa [getAt] using h) hs hy
 | .wina ..,v,vy,off,y,u,hv,hs,h,hy,hys=>setAt_leaf (by simpa [getAt] using h) hs hy
 | .ref ..,v,vy,off,y,u,hv,hs,h,hy,hys=>setAt_leaf (by simpa [getAt] using h) hs hy
 | .refa ..,v,vy,off,y,u,hv,hs,h,hy,hys=>setAt_leaf (by simpa [getAt] using h) hs hy
 | .refw ..,v,vy,off,y,u,hv,hs,h,hy,hys=>setAt_leaf (by simpa [getAt] using h) hs hy
 | .eref ..,v,vy,off,y,u,hv,hs,h,hy,hys=>setAt_leaf (by simpa [getAt] using h) hs hy
 | .fp ..,v,vy,off,y,u,hv,hs,h,hy,hys=>setAt_leaf (by simpa [getAt] using h) hs hy
 | .tup ..,v,vy,off,y,u,hv,hs,h,hy,hys=>setAt_leaf (by simpa [getAt] using h) hs hy
 | .fn ..,v,vy,off,y,u,hv,hs,h,hy,hys=>setAt_leaf (by simpa [getAt] using h) hs hy
 | .nilm,v,vy,off,y,u,hv,hs,h,hy,hys=>setAt_leaf (by simpa [getAt] using h) hs hy
 | .clo ..,v,vy,off,y,u,hv,hs,h,hy,hys=>setAt_leaf (by simpa [getAt] using h) hs hy
 | .pt ..,v,vy,off,y,u,hv,hs,h,hy,hys=>setAt_leaf (by simpa [getAt] using h) hs hy
 | .mp ..,v,vy,off,y,u,hv,hs,h,hy,hys=>setAt_leaf (by simpa [getAt] using h) hs hy
 | .mc ..,v,vy,off,y,u,hv,hs,h,hy,hys=>setAt_leaf (by simpa [getAt] using h) hs hy
theorem setsAt_ok:∀ (cs:List AV) {vs:List Value} {vy:Value} {off:Nat} {y u:AV},CVs w ok θ cs vs→getsAt cs off y.width y.isAgg=some u→CV w ok θ y vy→vy.cells.size=y.width→
  ∃ vs2 v0 us ws,vs=us++(v0++ws)∧us.length=off∧v0.length=y.width∧CVs w ok θ (setsAt cs off y) vs2∧vs2=us++(vy.cells.toList++ws)∧AV.widths (setsAt cs off y)=AV.widths cs
 | [],vs,vy,off,y,u,hc,h,hy,hys=>by simp [getsAt] at h
 | c::cs,vs,vy,off,y,u,hc,h,hy,hys=>by
  obtain ⟨v,rest,rfl,hs,h1,h2⟩:=hc
  simp only [getsAt] at h
  simp only [setsAt]
  split at h
  ·rename_i hb
   obtain ⟨v2,v0,us,ws,k1,k2,k3,k4,k5,k6⟩:=setAt_ok c h1 hs h hy hys
   refine ⟨v2.cells.toList++rest,v0,us,ws++rest,by rw [k1]; simp,k2,k3,⟨v2,rest,rfl,?_,k4,h2⟩,by rw [k5]; simp,by simp only [AV.widths,k6]⟩
   have e1:v2.cells.size=v.cells.size:=by
    rw [←Array.length_toList,←Array.length_toList,k5,k1]
    simp only [List.length_append,Array.length_toList,hys,k3]
   rw [e1,hs,k6]
  ·rename_i hb
   have hle:c.width≤off:=by
    rcases Nat.lt_or_ge off c.width with h' | h'
    ·rw [Nat.ble_eq_true_of_le h'] at hb; cases hb
    ·exact h'
   obtain ⟨vs2,v0,us,ws,k1,k2,k3,k4,k5,k6⟩:=setsAt_ok cs h2 h hy hys
   refine ⟨v.cells.toList++vs2,v0,v.cells.toList++us,ws,by rw [k1]; simp,?_,k3,⟨v,vs2,rfl,hs,h1,k4⟩,by rw [k5]; simp,by simp only [AV.widths,k6]⟩
   rw [List.length_append,k2,Array.length_toList,hs]
   omega
theorem setAt_leaf {x:AV} {v vy:Value} {off:Nat} {y u:AV} (h:leafAt x off y.width y.isAgg=some u) (hs:v.cells.size=x.width) (hy:CV w ok θ y vy) :
  ∃ v2 v0 us ws,v.cells.toList=us++(v0++ws)∧us.length=off∧v0.length=y.width∧CV w ok θ y v2∧v2.cells.toList=us++(vy.cells.toList++ws)∧y.width=x.width:=by
 unfold leafAt at h
 split at h
 ·rename_i hb
  simp only [Bool.and_eq_true,beq_iff_eq] at hb
  have h0:=Nat.eq_of_beq_eq_true hb.1
  have h1:=Nat.eq_of_beq_eq_true hb.2.1
  subst h0
  exact ⟨vy,v.cells.toList,[],[],by simp,rfl,by rw [Array.length_toList,hs,h1],hy,by simp,h1.symm⟩
 ·cases h
end
theorem storeCells_ok (P:Program) {g:Nat} {e:TypeId} {fr:Nat × Nat}:∀ (vs us ws old:List Value) (i o:Nat) (w:World),
  w.heap[g]? = some (.cells (us++(old++ws)).toArray e fr)→old.length=vs.length→us.length=o+i→Free (us++(old++ws)).toArray fr→(∀ u∈vs,u.oneCell' = true)→
  ∃ w',(storeCells ⟨g,o,none⟩ vs i).run P w=.ok () w'∧w'.heap[g]? = some (.cells (us++(vs++ws)).toArray e fr)∧(∀ b,b≠g→w'.heap[b]? = w.heap[b]?)∧w'.heap.size=w.heap.size∧
   w'.os=w.os∧w'.tape=w.tape∧Out w w'
 | [],us,ws,old,i,o,w,hg,hl,hu,hf,h1=>by
  have:old=[]:=List.eq_nil_of_length_eq_zero hl
  subst this
  exact ⟨w,by simp [storeCells],by simpa using hg,fun _ _=>rfl,rfl,rfl,rfl,⟨rfl,.inr trivial⟩⟩
 | v::vs,us,ws,old,i,o,w,hg,hl,hu,hf,h1=>by
  cases old with
  | nil=>simp at hl
  | cons x old=>
   have hc:w.cell? ⟨g,o+i,none⟩ = some x:=by
    rw [cell_of_row w g (o+i) _ e fr hg,←hu]
    simp
   have hfz:w.frozen? ⟨g,o+i,none⟩ = false:=by
    have:=hf.2 (o+i) (by rw [←hu]; simp)
    simp only [World.frozen?,hg]
    simpa using this
   have hset:(w.setCell ⟨g,o+i,none⟩ v).heap[g]? = some (.cells ((us++[v])++(old++ws)).toArray e fr):=by
    simp only [World.setCell,Array.getElem?_modify,if_true,hg,Option.map_some,Option.isSome_none,Bool.false_eq_true,if_false]
    congr 2
    apply Array.ext'
    rw [Array.toList_setIfInBounds,←hu]
    simp
   have hf' : Free ((us++[v])++(old++ws)).toArray fr:=⟨hf.1,fun p hp=>hf.2 p (by simpa [Nat.add_assoc,Nat.add_comm,Nat.add_left_comm] using hp)⟩
   obtain ⟨w',k1,k2,k3,k4,k5,k6,k7⟩:=storeCells_ok P vs (us++[v]) ws old (i+1) o (w.setCell ⟨g,o+i,none⟩ v) hset (by simpa using hl) (by simp [hu]; omega) hf' (fun u hu=>h1 u (by simp [hu]))
   refine ⟨w',?_,by simpa using k2,fun b hb=>(k3 b hb).trans (Below.heap_setCell w _ v b hb),k4.trans (by simp),k5,k6,k7⟩
   rw [storeCells]
   simp only [Sem.run_bind,add_lit,run_store P w ⟨g,o+i,none⟩ v .plain (h1 v (by simp)),hc,hfz,Bool.false_eq_true,if_false,Result.andThen_ok]
   exact k1
end
end Go.Am
end
section
set_option linter.unusedVariables false
set_option linter.unusedSimpArgs false
namespace Go.Am
open Go.RowKit
section
variable {C:Ctx} {S S' : St} {θ θ' : Nm→Option Value} {a:Act} {w w' : World} {n:Rp} {ok:Nat→Prop} {P:Program}
structure Only (g:Nat) (w w' : World):Prop where
 far:∀ b,b≠g→w'.heap[b]? = w.heap[b]?
 size:w'.heap.size=w.heap.size
 os:w'.os=w.os
 tape:w'.tape=w.tape
 output:Out w w'
theorem Rel.write0 (h:Rel C S θ a w) {d:Nat} {o o' : Ob} {v:Value} {g:Nat} (ho:S.obj (.top d)=some o) (hown:o.isOwn=true) (hv:θ (.top d)=some v) (hb:blk v=some g) (hw:Only g w w')
  (hob:∀ ok',Keeps w w' (okOf C w S θ) ok' θ θ→OV C w' ok' θ (.top d) o'):Rel C (S.setObj d o') θ a w':=by
 refine h.turn (fun i=>i=.top d) (fun b=>b=g) rfl (fun i hi=>⟨obj_setObj_other _ _ _ _ hi,rfl⟩) (fun i hi=>has_setObj_other _ _ _ _ hi) (fun _ _ h=>h) hw.os hw.tape hw.output (by rw [hw.size]; exact Nat.le_refl _)
  (fun b _ hb'=>hw.far b hb') ?_ ?_ ?_ ?_ (fun i u _ hu=>h.base i u hu) ?_
 ·rintro b rfl
  exact ⟨.top d,o,v,rfl,ho,hown,hv,hb⟩
 ·rintro i o₁ u b rfl h1 h2 h3 h4
  exact .inr ⟨.top d,o,v,rfl,ho,hown,hv,by rw [hv] at h3; cases h3; exact h4⟩
 ·rintro i j o₁ o₂ u u' b rfl rfl _ _ _ _ hne
  exact (hne rfl).elim
 ·rintro i rfl hi
  exact (hi (has_setObj_same _ _ _)).elim
 ·rintro hk i o₁ rfl _ h1
  rw [obj_setObj_same] at h1
  cases h1
  exact hob _ hk
theorem Rel.writeM (h:Rel C S θ a w) {f i:Nat} {F:Fam} {x:AV} {v:Value} {g:Nat} (hF:S.fam f=some F) (hown:(F.at i).isOwn=true) (hv:θ (.mem f i)=some v) (hb:blk v=some g) (hw:Only g w w')
  (hob:∀ ok',Keeps w w' (okOf C w S θ) ok' θ θ→OV C w' ok' θ (.mem f i) (({ F with l:=F.l.set i x }:Fam).at i)):Rel C (S.setFam f (F.l.set i x)) θ a w':=by
 have hF':=fam_setFam_same (x:=F.l.set i x) hF
 have hi:i<F.l.length:=by
  obtain ⟨F',h1,h2⟩:=h.has_of hv
  rw [hF] at h1
  cases h1
  exact h2
 have hat:∀ j,j≠i→({ F with l:=F.l.set i x }:Fam).at j=F.at j:=fun j hj=>by
  have:getE (F.l.set i x) j=getE F.l j:=by simp [getE,List.getD_eq_getElem?_getD,List.getElem?_set_ne (fun e=>hj e.symm)]
  simp only [Fam.at,this]
 have hh1:∀ j,(S.setFam f (F.l.set i x)).has (.mem f j)↔S.has (.mem f j):=fun j=>by
  constructor
  ·rintro ⟨F',h1,h2⟩
   rw [hF'] at h1
   cases h1
   exact ⟨F,hF,by simpa using h2⟩
  ·rintro ⟨F',h1,h2⟩
   rw [hF] at h1
   cases h1
   exact ⟨_,hF',by simpa using h2⟩
 refine h.turn (fun j=>j=.mem f i) (fun b=>b=g) rfl (fun j hj=>⟨?_,rfl⟩) (fun j hj=>?_) (fun _ _ h=>h) hw.os hw.tape hw.output (by rw [hw.size]; exact Nat.le_refl _)
  (fun b _ hb'=>hw.far b hb') ?_ ?_ ?_ ?_ (fun i u _ hu=>h.base i u hu) ?_
 ·by_cases hm:∃ k,j=.mem f k
  ·obtain ⟨k,rfl⟩:=hm
   rw [obj_mem hF',obj_mem hF,hat k (fun e=>hj (by rw [e]))]
  ·exact obj_setFam_other (fun k e=>hm ⟨k,e⟩)
 ·by_cases hm:∃ k,j=.mem f k
  ·obtain ⟨k,rfl⟩:=hm
   exact hh1 k
  ·exact has_setFam_other (fun k e=>hm ⟨k,e⟩)
 ·rintro b rfl
  exact ⟨.mem f i,F.at i,v,rfl,obj_mem hF,hown,hv,hb⟩
 ·rintro j o₁ u b rfl h1 h2 h3 h4
  exact .inr ⟨.mem f i,F.at i,v,rfl,obj_mem hF,hown,hv,by rw [hv] at h3; cases h3; exact h4⟩
 ·rintro i j o₁ o₂ u u' b rfl rfl _ _ _ _ hne
  exact (hne rfl).elim
 ·rintro j rfl hn
  exact (hn ((hh1 i).2 ⟨F,hF,hi⟩)).elim
 ·rintro hk j o₁ rfl _ h1
  rw [obj_mem hF'] at h1
  cases h1
  exact hob _ hk
theorem Rel.write (h:Rel C S θ a w) {d:Nm} {o o' : Ob} {v:Value} {g:Nat} {k:Pg} (ho:S.obj d=some o) (hown:o.isOwn=true) (hv:θ d=some v) (hb:blk v=some g) (hw:Only g w w')
  (hob:∀ ok',Keeps w w' (okOf C w S θ) ok' θ θ→OV C w' ok' θ d o') (hx:(wr d o' k).exe n S=some S'):∃ S1,k.exe n S1=some S'∧Rel C S1 θ a w':=by
 cases d with
 | top d=>exact ⟨_,hx,h.write0 ho hown hv hb hw hob⟩
 | mem f i=>
  unfold wr at hx
  replace hx:=exe_fam hx
  cases hF:S.fam f with
  | none=>rw [hF] at hx; exact (exe_fail hx).elim
  | some F=>
   rw [hF] at hx
   simp only at hx
   rw [obj_mem hF] at ho
   cases ho
   have hi:i<F.l.length:=by
    obtain ⟨F',h1,h2⟩:=h.has_of hv
    rw [hF] at h1
    cases h1
    exact h2
   split at hx <;> first | exact (exe_fail hx).elim | skip
   ·rename_i t hks
    obtain ⟨hm,hx1⟩:=exe_must hx
    refine ⟨_,hx1,h.writeM hF hown hv hb hw (fun ok' hk=>?_)⟩
    have hat:({ F with l:=F.l.set i (nrm F.s t) }:Fam).at i=.box (eta F.s (nrm F.s t)):=by
     simp [Fam.at,hks,getE,hi]
    rw [hat]
    obtain ⟨g',e,fr,u,h1,h2,h3,h4,h5,h6⟩:=hob ok' hk
    exact ⟨g',e,fr,u,h1,h2,h3,CV_fam_box h4 hm,by rw [eta_of_WT _ _ (fit_WT _ _ hm),nrm_width]; exact h5,h6⟩
   ·rename_i ks ks' vs' es clk hks
    obtain ⟨hm,hx1⟩:=exe_must hx
    rw [Bool.and_eq_true] at hm
    have e1:=shEq_eq hm.1
    have e2:=shEq_eq hm.2
    subst e1 e2
    refine ⟨_,hx1,h.writeM hF hown hv hb hw (fun ok' hk=>?_)⟩
    have hat:({ F with l:=F.l.set i (.mc es clk) }:Fam).at i=.mapo ks F.s es clk:=by
     simp [Fam.at,hks,getE,hi,AV.ments,AV.mclk]
    rw [hat]
    exact hob ok' hk
theorem Rel.writeT (h:Rel C S θ a w) {d:Nm} {o o' : Ob} {v:Value} {g:Nat} {k:Pg} (ho:S.obj d=some o) (hown:o.isOwn=true) (hv:θ d=some v) (hb:blk v=some g) (hw:Only g w w')
  (hob:∀ ok',Keeps w w' (okOf C w S θ) ok' θ θ→OV C w' ok' θ d o') (hx:(wrT d o' k).exe n S=some S'):∃ S1,k.exe n S1=some S'∧Rel C S1 θ a w':=by
 cases d with
 | top d=>exact ⟨_,hx,h.write0 ho hown hv hb hw hob⟩
 | mem f i=>exact (exe_fail hx).elim
theorem Rel.writeD (h:Rel C S θ a w) {d:Nm} {o o' : Ob} {v:Value} {g:Nat} (ho:S.obj d=some o) (hown:o.isOwn=true) (hv:θ d=some v) (hb:blk v=some g) (hw:Only g w w')
  (hx:(wr d o' .done).exe n S=some S') (hob:∀ ok',Keeps w w' (okOf C w S θ) ok' θ θ→OV C w' ok' θ d o'):Rel C S' θ a w':=by
 obtain ⟨S1,h1,h2⟩:=h.write ho hown hv hb hw hob hx
 rw [exe_done h1]
 exact h2
theorem Rel.writeTD (h:Rel C S θ a w) {d:Nm} {o o' : Ob} {v:Value} {g:Nat} (ho:S.obj d=some o) (hown:o.isOwn=true) (hv:θ d=some v) (hb:blk v=some g) (hw:Only g w w')
  (hx:(wrT d o' .done).exe n S=some S') (hob:∀ ok',Keeps w w' (okOf C w S θ) ok' θ θ→OV C w' ok' θ d o'):Rel C S' θ a w':=by
 obtain ⟨S1,h1,h2⟩:=h.writeT ho hown hv hb hw hob hx
 rw [exe_done h1]
 exact h2
theorem toArray_toList' (a:Array Value):a.toList.toArray=a:=by simp
theorem append_inj_len {α:Type} {a b c d:List α} (h:a++b=c++d) (hl:a.length=c.length):a=c∧b=d:=List.append_inj h hl
theorem ints_set (k:IntKind) (xs:List Int) (i:Nat) (x:Int):ints k (xs.set i x)=(ints k xs).set i (.int k x):=by simp [ints,List.map_set]
theorem set_split {α:Type} (l:List α) (i:Nat) (x:α) (h:i<l.length):l.set i x=l.take i++([x]++l.drop (i+1)):=by
 rw [List.set_eq_take_append_cons_drop,if_pos h]; rfl
theorem self_split {α:Type} (l:List α) (i:Nat) (h:i<l.length):l=l.take i++([l[i]]++l.drop (i+1)):=by
 have:=List.drop_eq_getElem_cons h
 conv=>lhs; rw [←List.take_append_drop i l,this]
 rfl
theorem self_split_app {α:Type} (l r:List α) (i:Nat) (h:i<l.length):l++r=l.take i++([l[i]]++(l.drop (i+1)++r)):=by
 have:=congrArg (·++r) (self_split l i h)
 simpa only [List.append_assoc] using this
theorem CVs_set {xs:List AV} {cs:List Value} (h:CVs w ok θ xs cs) {i:Nat} {x y:AV} (hi:xs[i]? = some x) :
  ∃ v us ws,cs=us++(v.cells.toList++ws)∧us.length=AV.widths (xs.take i)∧v.cells.size=x.width∧CV w ok θ x v∧
   ∀ vy,CV w ok θ y vy→vy.cells.size=y.width→CVs w ok θ (xs.set i y) (us++(vy.cells.toList++ws)):=by
 obtain ⟨v,us,ws,h1,h2,h3,h4,h5,h6⟩:=CVs_get h hi
 refine ⟨v,us,ws,h1,h2,h3,h4,fun vy hy hs=>?_⟩
 have hlt:i<xs.length:=(List.getElem?_eq_some_iff.1 hi).1
 rw [set_split _ _ _ hlt]
 exact CVs_append h5 ⟨vy,ws,rfl,hs,hy,h6⟩
theorem Free.same {c c' : Array Value} {fr:Nat × Nat} (h:Free c fr) (hs:c'.size=c.size):Free c' fr:=⟨h.1,fun o ho=>h.2 o (by omega)⟩
theorem shOk_WT:∀ {s:Sh} {x:AV},shOk s x=true→WT s x:=by
 intro s
 exact Sh.rec (motive_1:=fun s=>∀ x,shOk s x=true→WT s x) (motive_2:=fun l=>∀ cs,shsOk l cs=true→WTs l cs)
  (fun k x h=>by cases x <;> first | (simp [shOk] at h; done) | (simp only [shOk,beq_iff_eq] at h; subst h; exact ⟨_,rfl⟩))
  (fun x h=>by cases x <;> first | (simp [shOk] at h; done) | exact ⟨_,rfl⟩)
  (fun x h=>by cases x <;> first | (simp [shOk] at h; done) | exact ⟨_,rfl⟩)
  (fun k n x h=>by
   cases x <;> first | (simp [shOk] at h; done) | skip
   simp only [shOk,Bool.and_eq_true,beq_iff_eq] at h
   obtain ⟨rfl,h⟩:=h
   have:=Nat.eq_of_beq_eq_true h
   subst this
   exact ⟨_,rfl⟩)
  (fun l ih x h=>by
   cases x <;> first | (simp [shOk] at h; done) | skip
   rename_i cs
   exact ⟨cs,rfl,ih cs (by simpa [shOk] using h)⟩)
  (fun k x h=>by cases x <;> first | (simp [shOk] at h; done) | (simp only [shOk,beq_iff_eq] at h; subst h; exact ⟨_,rfl⟩))
  (fun k x h=>by cases x <;> simp [shOk] at h)
  (fun s _ x h=>by cases x <;> simp [shOk] at h)
  (fun f x h=>by cases x <;> first | (simp [shOk] at h; done) | exact ⟨_,by rw [Nat.eq_of_beq_eq_true h]⟩)
  (fun f x h=>by cases x <;> first | (simp [shOk] at h; done) | exact ⟨_,by rw [Nat.eq_of_beq_eq_true h]⟩)
  (fun cs h=>by
   cases cs with
   | nil=>rfl
   | cons c cs=>simp [shsOk] at h)
  (fun s l ih1 ih2 cs h=>by
   cases cs with
   | nil=>simp [shsOk] at h
   | cons c cs=>
    simp only [shsOk,Bool.and_eq_true] at h
    exact ⟨c,cs,rfl,ih1 c h.1,ih2 cs h.2⟩)
  s _
theorem st_ok {t:TypeId} {x y:Operand} {u uv:AV} (h:Rel C S θ a w) (hu:CV w (okOf C w S θ) θ u (a.eval x)) (hv:CV w (okOf C w S θ) θ uv (a.eval y)) (hh:(st P t u uv).exe n S=some S') :
  ∃ w',(Instr.storeAt t (a.eval x) (a.eval y)).run P w=.ok () w'∧Rel C S' θ a w':=by
 unfold st at hh
 have hq:=exe_must hh
 clear hh
 obtain ⟨hm,hh⟩:=hq
 simp only [Bool.and_eq_true] at hm
 obtain ⟨hfit,hflat⟩:=hm
 have hfit':=hfit
 simp only [fits,Bool.and_eq_true,beq_iff_eq] at hfit'
 obtain ⟨ht,ha,hw⟩:=hfit'
 have hw' : uv.width=sizeT P t:=Nat.eq_of_beq_eq_true hw
 have hsz:=CV_size (flat_stor hflat) hv
 have hone:=CV_cells hflat hv
 have run:∀ (g o:Nat) (w' : World),a.eval x=.pointer (some ⟨g,o,none⟩)→(storeCells ⟨g,o,none⟩ (a.eval y).cells.toList 0).run P w=.ok () w'→(Instr.storeAt t (a.eval x) (a.eval y)).run P w=.ok () w':=by
  intro g o w' he hr
  simp only [Instr.storeAt,Sem.run_bind,he,Instr.sureAddr,Sem.run_pure,Result.andThen_ok,storeVar,run_sizeOf' ht,hsz,hw',ne_eq,not_true_eq_false,if_false,hr]
 cases u <;> first | exact (exe_fail hh).elim | skip
 ·
  rename_i d off
  obtain ⟨g,hd,he⟩:=hu
  replace hh:=exe_obj hh
  cases ho:S.obj d with
  | none=>rw [ho] at hh; exact (exe_fail hh).elim
  | some ob=>
   rw [ho] at hh
   cases ob <;> first | exact (exe_fail hh).elim | skip
   rename_i tr
   simp only at hh
   split at hh
   ·rename_i r hr
    obtain ⟨g',e,fr,v,h1,h2,h3,h4,h5,h6⟩:=h.ob ho hd
    have h1':=h1
    rw [hd] at h1
    cases h1
    obtain ⟨v2,v0,us,ws,k1,k2,k3,k4,k5,k6⟩:=setAt_ok tr h4 h5 hr hv hsz
    have hheap:w.heap[g]? = some (.cells (us++(v0++ws)).toArray e fr):=by rw [←k1,toArray_toList']; exact h2
    obtain ⟨w',q1,q2,q3,q4,q5,q6,q7⟩:=storeCells_ok P (a.eval y).cells.toList us ws v0 0 off w hheap (by rw [k3,Array.length_toList,hsz]) k2 (by rw [←k1,toArray_toList']; exact h3) hone
    refine ⟨w',run g off w' he q1,?_⟩
    have hcells:(us++((a.eval y).cells.toList++ws)).toArray=v2.cells:=by rw [←k5,toArray_toList']
    rw [hcells] at q2
    have hs2:v2.cells.size=v.cells.size:=by
     rw [←Array.length_toList,←Array.length_toList,k5,k1]
     simp only [List.length_append,Array.length_toList,hsz,k3]
    refine h.writeD ho rfl h1' rfl ⟨q3,q4,q5,q6,q7⟩ hh (fun ok' hk=>?_)
    exact ⟨g,e,fr,v2,h1',q2,h3.same hs2,CV_mono hk _ _ k4,by rw [hs2,h5,k6],h6⟩
   ·exact (exe_fail hh).elim
 ·
  rename_i d off m i
  obtain ⟨hi,g,hd,he⟩:=hu
  replace hh:=exe_obj hh
  cases ho:S.obj d with
  | none=>rw [ho] at hh; exact (exe_fail hh).elim
  | some ob=>
   rw [ho] at hh
   cases ob <;> first | exact (exe_fail hh).elim | skip
   rename_i tr
   cases uv <;> first | exact (exe_fail hh).elim | skip
   rename_i kx xv
   have hv' : a.eval y=.int kx xv:=hv
   simp only at hh
   split at hh
   ·rename_i k' n' xs hr
    have hq:=exe_must hh
    clear hh
    obtain ⟨hm,hh⟩:=hq
    simp only [Bool.and_eq_true,beq_iff_eq] at hm
    obtain ⟨hkk,hnn⟩:=hm
    subst hkk
    have hn:=Nat.eq_of_beq_eq_true hnn
    subst hn
    obtain ⟨g',e,fr,v,h1,h2,h3,h4,h5,h6⟩:=h.ob ho hd
    have h1':=h1
    rw [hd] at h1
    cases h1
    obtain ⟨va,usa,wsa,p1,p2,⟨p3,rfl⟩,p4,p5,p6⟩:=getAt_ok tr h4 h5 hr
    have hset:CV w (okOf C w S θ) θ (.arr kx m (xs.set i xv)) (.agg (ints kx (xs.set i xv)).toArray):=⟨by simpa using p3,rfl⟩
    obtain ⟨v2,v0,us,ws,k1,k2,k3,k4,k5,k6⟩:=setAt_ok tr (y:=.arr kx m (xs.set i xv)) h4 h5 hr hset (by simp [Value.cells,ints,AV.width,p3])
    have ea:∀ l:List Int,(Value.agg (ints kx l).toArray).cells.toList=ints kx l:=fun l=>by simp [Value.cells]
    rw [ea] at p1 k5
    obtain ⟨e1,e2⟩:=append_inj_len (p1.symm.trans k1) (by rw [p2,k2])
    obtain ⟨e3,e4⟩:=append_inj_len e2 (by rw [ints_length,p3,k3]; rfl)
    subst e1
    subst e3
    subst e4
    have hil:i<(ints kx xs).length:=by rw [ints_length]; omega
    have hsp:=self_split (ints kx xs) i hil
    have hheap:w.heap[g]? = some (.cells ((usa++(ints kx xs).take i)++([(ints kx xs)[i]]++((ints kx xs).drop (i+1)++wsa))).toArray e fr):=by
     rw [h2]
     congr 2
     apply Array.ext'
     rw [k1,self_split_app (ints kx xs) wsa i hil]
     simp only [List.toList_toArray,List.append_assoc]
    obtain ⟨w',q1,q2,q3,q4,q5,q6,q7⟩:=storeCells_ok P (a.eval y).cells.toList (usa++(ints kx xs).take i) ((ints kx xs).drop (i+1)++wsa) [(ints kx xs)[i]] 0 (off+i) w hheap
     (by rw [hv']; rfl) (by rw [List.length_append,p2,List.length_take,Nat.min_eq_left (by omega)]; rfl) (h3.same (by
      rw [←Array.length_toList,←Array.length_toList,k1,self_split_app (ints kx xs) wsa i hil]
      simp only [List.toList_toArray,List.append_assoc])) hone
    refine ⟨w',run g (off+i) w' he q1,?_⟩
    have hcells:((usa++(ints kx xs).take i)++((a.eval y).cells.toList++((ints kx xs).drop (i+1)++wsa))).toArray=v2.cells:=by
     apply Array.ext'
     rw [k5,ints_set,set_split _ _ _ hil,hv']
     simp [Value.cells]
    rw [hcells] at q2
    have hs2:v2.cells.size=v.cells.size:=by
     rw [←Array.length_toList,←Array.length_toList,k5,k1]
     simp only [List.length_append,ints_length,List.length_set]
    refine h.writeD ho rfl h1' rfl ⟨q3,q4,q5,q6,q7⟩ hh (fun ok' hk=>?_)
    exact ⟨g,e,fr,v2,h1',q2,h3.same hs2,CV_mono hk _ _ k4,by rw [hs2,h5,k6],h6⟩
   ·exact (exe_fail hh).elim
 ·
  rename_i d sz i off
  obtain ⟨g,m,c,hd,hi,he⟩:=hu
  replace hh:=exe_obj hh
  cases ho:S.obj d with
  | none=>rw [ho] at hh; exact (exe_fail hh).elim
  | some ob=>
   rw [ho] at hh
   cases ob <;> first | exact (exe_fail hh).elim | skip
   ·rename_i own e k' xs
    cases own <;> first | exact (exe_fail hh).elim | skip
    cases uv <;> first | exact (exe_fail hh).elim | skip
    rename_i kx xv
    have hv' : a.eval y=.int kx xv:=hv
    have hq:=exe_must hh
    clear hh
    obtain ⟨hm,hh⟩:=hq
    simp only [Bool.and_eq_true,beq_iff_eq] at hm
    obtain ⟨hkk,hs1,ho1⟩:=hm
    subst hkk
    have hs1:=Nat.eq_of_beq_eq_true hs1
    have ho1:=Nat.eq_of_beq_eq_true ho1
    subst hs1
    subst ho1
    obtain ⟨v,h1,h2,_⟩:=h.ob ho hd
    have h1':=h1
    rw [hd] at h1
    cases h1
    obtain ⟨hl,h3⟩:=h2 rfl
    rcases h3 with ⟨h3,_⟩ | ⟨g',cap,cur,fr,h3,h4,h5,h6,h7,h8,h9,h10⟩
    ·cases h3
    cases h3
    simp only [Nat.mul_one,Nat.add_zero] at h9 h10 he
    have hil:i<cur.toList.length:=by rw [Array.length_toList]; omega
    have hsp:=self_split cur.toList i hil
    have hheap:w.heap[g]? = some (.cells (cur.toList.take i++([cur.toList[i]]++cur.toList.drop (i+1))).toArray e fr):=by rw [←hsp,toArray_toList']; exact h5
    obtain ⟨w',q1,q2,q3,q4,q5,q6,q7⟩:=storeCells_ok P (a.eval y).cells.toList (cur.toList.take i) (cur.toList.drop (i+1)) [cur.toList[i]] 0 i w hheap
     (by rw [hv']; rfl) (by rw [List.length_take,Nat.min_eq_left (by omega)]; rfl) (by rw [←hsp,toArray_toList']; exact h6) hone
    refine ⟨w',run g i w' he q1,?_⟩
    have hcells:(cur.toList.take i++((a.eval y).cells.toList++cur.toList.drop (i+1)))=cur.toList.set i (.int kx xv):=by rw [set_split _ _ _ hil,hv']; rfl
    rw [hcells] at q2
    refine h.writeTD ho rfl h1' rfl ⟨q3,q4,q5,q6,q7⟩ hh (fun ok' hk=>?_)
    refine ⟨_,h1',fun _=>⟨by simp [ints],.inr ⟨g,c,_,fr,by simp,h4,q2,h6.same (by simp),by simpa using h7,h8,by simpa using h9,?_⟩⟩,fun h=>by cases h⟩
    simp only [Nat.mul_one,List.length_set,List.toList_toArray]
    rw [ints_set,←h10,List.take_set]
   ·rename_i own e s xs
    cases own <;> first | exact (exe_fail hh).elim | skip
    simp only at hh
    split at hh
    ·rename_i r hr
     have hq:=exe_must hh
     clear hh
     obtain ⟨hm,hh⟩:=hq
     have hq:=exe_chk hh
     clear hh
     obtain ⟨hlt,hh⟩:=hq
     simp only [Bool.and_eq_true] at hm
     have h1s:=Nat.eq_of_beq_eq_true hm.1
     subst h1s
     have hlt:=Nat.le_of_ble_eq_true hlt
     obtain ⟨v,h1,hwt,h2,_⟩:=h.ob ho hd
     have h1':=h1
     rw [hd] at h1
     cases h1
     obtain ⟨cs,hcs,hl,h3⟩:=h2 rfl
     rcases h3 with ⟨h3,_⟩ | ⟨g',cap,cur,fr,h3,h4,h5,h6,h7,h8,h9,h10⟩
     ·cases h3
     cases h3
     have hge:=getE_get (xs:=xs) (i:=i) (by omega)
     have hwe:=hwt _ (List.mem_of_getElem? hge)
     have heta:=eta_of_WT s _ hwe
     rw [heta] at hr hh hm
     obtain ⟨ve,us,ws,r1,r2,r3,r4,r5⟩:=CVs_set (y:=nrm s (setAt (getE xs i) off uv)) hcs hge
     obtain ⟨v2,v0,us2,ws2,k1,k2,k3,k4,k5,k6⟩:=setAt_ok _ r4 r3 hr hv hsz
     have hs2:v2.cells.size=(setAt (getE xs i) off uv).width:=by
      rw [k6,←r3,←Array.length_toList,←Array.length_toList,k5,k1]
      simp only [List.length_append,Array.length_toList,hsz,k3]
     have hnew:=r5 v2 (CV_nrm _ _ _ k4) (by rw [nrm_width]; exact hs2)
     have hul:us.length=i * s.width:=by
      rw [r2,WT_widths (s:=s) (fun x hx=>hwt x (List.mem_of_mem_take hx)),List.length_take,Nat.min_eq_left (by omega)]
     have hcur:cur.toList=cs++cur.toList.drop (xs.length * s.width):=by
      conv=>lhs; rw [←List.take_append_drop (xs.length * s.width) cur.toList,h10]
     have hheap:w.heap[g]? = some (.cells ((us++us2)++(v0++(ws2++(ws++cur.toList.drop (xs.length * s.width))))).toArray e fr):=by
      rw [h5]
      congr 2
      apply Array.ext'
      rw [List.toList_toArray]
      conv=>lhs; rw [hcur,r1,k1]
      simp only [List.append_assoc]
     obtain ⟨w',q1,q2,q3,q4,q5,q6,q7⟩:=storeCells_ok P (a.eval y).cells.toList (us++us2) (ws2++(ws++cur.toList.drop (xs.length * s.width))) v0 0 (i * s.width+off) w hheap
      (by rw [k3,Array.length_toList,hsz]) (by rw [List.length_append,hul,k2]; rfl) (h6.same (by
       rw [←Array.length_toList,←Array.length_toList,List.toList_toArray]
       conv=>rhs; rw [hcur,r1,k1]
       simp only [List.append_assoc])) hone
     refine ⟨w',run g (i * s.width+off) w' he q1,?_⟩
     have hcl:((us++us2)++((a.eval y).cells.toList++(ws2++(ws++cur.toList.drop (xs.length * s.width)))))=(us++(v2.cells.toList++ws))++cur.toList.drop (xs.length * s.width):=by
      rw [k5]
      simp only [List.append_assoc]
     rw [hcl] at q2
     have hlen2:(us++(v2.cells.toList++ws)).length=xs.length * s.width:=by
      rw [←hl,r1]
      simp only [List.length_append,Array.length_toList,hs2,k6,r3]
     refine h.writeTD ho rfl h1' rfl ⟨q3,q4,q5,q6,q7⟩ hh (fun ok' hk=>?_)
     refine ⟨_,h1',?_,fun _=>⟨us++(v2.cells.toList++ws),CVs_mono hk _ _ hnew,?_,.inr ⟨g,c,_,fr,by simp,h4,q2,h6.same ?_,by simpa using h7,h8,?_,?_⟩⟩,fun h=>by cases h⟩
     ·intro x hx
      rcases List.mem_or_eq_of_mem_set hx with hx | hx
      ·exact hwt x hx
      ·subst hx
       exact shOk_WT hm.2
     ·simpa using hlen2
     ·rw [List.size_toArray,List.length_append,hlen2,←Array.length_toList]
      conv=>rhs; rw [hcur]
      rw [List.length_append,hl]
     ·rw [List.size_toArray,List.length_append,hlen2,←h9,←Array.length_toList]
      conv=>rhs; rw [hcur]
      rw [List.length_append,hl]
     ·rw [List.length_set,List.toList_toArray,←hlen2,List.take_left]
    ·exact (exe_fail hh).elim
   ·rename_i e k' xs sp
    cases uv <;> first | exact (exe_fail hh).elim | skip
    rename_i kx xv
    have hv' : a.eval y=.int kx xv:=hv
    have hq:=exe_must hh
    clear hh
    obtain ⟨hm,hh⟩:=hq
    simp only [Bool.and_eq_true,beq_iff_eq] at hm
    obtain ⟨hkk,hs1,ho1⟩:=hm
    subst hkk
    have hs1:=Nat.eq_of_beq_eq_true hs1
    have ho1:=Nat.eq_of_beq_eq_true ho1
    subst hs1
    subst ho1
    obtain ⟨v,h1,h2,hspare⟩:=h.ob ho hd
    have h1':=h1
    rw [hd] at h1
    cases h1
    obtain ⟨hl,h3⟩:=h2
    rcases h3 with ⟨h3,_⟩ | ⟨g',cap,cur,fr,h3,h4,h5,h6,h7,h8,h9,h10⟩
    ·cases h3
    cases h3
    simp only [Nat.mul_one,Nat.add_zero] at h9 h10 he
    have hil:i<cur.toList.length:=by rw [Array.length_toList]; omega
    have hsp:=self_split cur.toList i hil
    have hheap:w.heap[g]? = some (.cells (cur.toList.take i++([cur.toList[i]]++cur.toList.drop (i+1))).toArray e fr):=by rw [←hsp,toArray_toList']; exact h5
    obtain ⟨w',q1,q2,q3,q4,q5,q6,q7⟩:=storeCells_ok P (a.eval y).cells.toList (cur.toList.take i) (cur.toList.drop (i+1)) [cur.toList[i]] 0 i w hheap
     (by rw [hv']; rfl) (by rw [List.length_take,Nat.min_eq_left (by omega)]; rfl) (by rw [←hsp,toArray_toList']; exact h6) hone
    refine ⟨w',run g i w' he q1,?_⟩
    have hcells:(cur.toList.take i++((a.eval y).cells.toList++cur.toList.drop (i+1)))=cur.toList.set i (.int kx xv):=by rw [set_split _ _ _ hil,hv']; rfl
    rw [hcells] at q2
    refine h.writeTD ho rfl h1' rfl ⟨q3,q4,q5,q6,q7⟩ hh (fun ok' hk=>?_)
    refine ⟨_,h1',⟨by simp [ints],.inr ⟨g,c,_,fr,by simp,h4,q2,h6.same (by simp),by simpa using h7,h8,by simpa using h9,?_⟩⟩,fun hs=>?_⟩
    ·simp only [Nat.mul_one,List.length_set,List.toList_toArray]
     rw [ints_set,←h10,List.take_set]
    ·obtain ⟨g1,cap1,cur1,fr1,z1,z2,z3,z4⟩:=hspare hs
     cases z1
     rw [h5] at z2
     cases z2
     refine ⟨g,c,_,fr,by simp,q2,by simpa using z3,?_⟩
     simp only [List.length_set,List.toList_toArray]
     rw [List.take_set,z4,←ints_set,List.set_append_left _ _ hi]
end
end Go.Am
end
section
set_option linter.unusedVariables false
set_option linter.unusedSimpArgs false
namespace Go.Am
open Go.RowKit
section
variable {C:Ctx} {S S' : St} {θ θ' : Nm→Option Value} {a:Act} {w w' : World} {n:Rp} {ok:Nat→Prop} {P:Program} {o:Oper}
theorem CVs_item {cs:List AV} {vs:List Value} (h:CVs w ok θ cs vs) {i:Nat} {c:AV} (hi:cs[i]? = some c) :
  ∃ v us ws,vs=us++(v.cells.toList++ws)∧us.length=AV.widths (cs.take i)∧v.cells.size=c.width∧CV w ok θ c v:=by
 obtain ⟨v,us,ws,h1,h2,h3,h4,_,_⟩:=CVs_get h hi
 exact ⟨v,us,ws,h1,h2,h3,h4⟩
theorem run_part {t:TypeId} {cs us ws:List Value} {v:Value} {c:AV} (hf:fits P t c=true) (hst:c.stor=true) (hv:CV w ok θ c v) (hs:v.cells.size=c.width) (hc:cs=us++(v.cells.toList++ws)) :
  (part t cs.toArray us.length).run P w=.ok v w:=by
 simp only [fits,Bool.and_eq_true,beq_iff_eq] at hf
 obtain ⟨ht,ha,hw⟩:=hf
 have hw' : c.width=sizeT P t:=Nat.eq_of_beq_eq_true hw
 simp only [part,Sem.run_bind,run_isAgg' ht,Result.andThen_ok]
 cases hb:c.isAgg with
 | true=>
  rw [←ha,hb]
  simp only [if_true,Sem.run_bind,run_sizeOf' ht,Result.andThen_ok,Sem.run_pure]
  have hv2:v=.agg v.cells:=by
   cases c with
   | arr k m xs=>obtain ⟨_,rfl⟩:=hv; rfl
   | agg cs=>obtain ⟨vs,rfl,_⟩:=hv; rfl
   | _=>simp [AV.isAgg] at hb
  congr 1
  conv=>rhs; rw [hv2]
  congr 1
  apply Array.ext'
  subst hc
  simp only [Array.toList_extract,List.extract_eq_take_drop]
  rw [List.drop_left,←hw',←hs,Nat.add_sub_cancel_left,←Array.length_toList,List.take_left]
 | false=>
  rw [←ha,hb]
  simp only [Bool.false_eq_true,if_false]
  have h1:=CV_one hb hst hv
  have:cs.toArray[us.length]? = some v:=by
   subst hc
   rw [h1]
   simp
  simp only [this,Sem.run_pure]
theorem opField_ok {t:TypeId} {x:Operand} {f:Nat} {u:AV} (ho:o.op=.field t x f) (h:Rel C S θ a w) (hu:CV w (okOf C w S θ) θ u (a.eval x)) (hh:(opField P o t u f).exe n S=some S'):Does P C S' o a w:=by
 unfold opField at hh
 split at hh <;> first | exact (exe_fail hh).elim | skip
 rename_i fs hfs
 split at hh <;> first | exact (exe_fail hh).elim | skip
 rename_i fd cs hfd
 split at hh <;> first | exact (exe_fail hh).elim | skip
 rename_i c hc
 obtain ⟨hm,hh⟩:=exe_must hh
 simp only [Bool.and_eq_true] at hm
 obtain ⟨hw,hfit,hst⟩:=hm
 obtain ⟨vs,he,hcs⟩:=hu
 obtain ⟨v,us,ws,h1,h2,h3,h4⟩:=CVs_item hcs hc
 have hp:=run_part (P:=P) hfit hst h4 h3 h1
 refine Does.value (v:=v) ?_ (put_ok h h4 hh)
 have hoff:fd.offset=us.length:=by rw [h2,Nat.eq_of_beq_eq_true hw]
 have e2:vs=vs.toList.toArray:=by simp
 simp only [execOp,ho,Instr.field,Sem.run_bind,run_underlying hfs,Result.andThen_ok,hfd,he,asAgg,Sem.run_pure]
 rw [e2,hoff,hp]
 rfl
theorem run_fieldPlace {ad:Addr} {f:Field} (ht:typOk P f.type=true) (h0:sizeT P f.type≠0):(fieldPlace ad f).run P w=.ok (ad.add f.offset) w:=by
 simp only [fieldPlace,Sem.run_bind,run_sizeOf' ht,Result.andThen_ok,h0,if_false,Sem.run_pure]
theorem opFieldAddr_ok {s:TypeId} {x:Operand} {f:Nat} {u:AV} (ho:o.op=.fieldAddr s x f) (h:Rel C S θ a w) (hu:CV w (okOf C w S θ) θ u (a.eval x)) (hh:(opFieldAddr P o s u f).exe n S=some S'):Does P C S' o a w:=by
 unfold opFieldAddr at hh
 split at hh <;> first | exact (exe_fail hh).elim | skip
 rename_i fs hfs
 split at hh <;> first | exact (exe_fail hh).elim | skip
 rename_i fd hfd
 obtain ⟨hm,hh⟩:=exe_must hh
 simp only [Bool.and_eq_true,Bool.not_eq_true'] at hm
 have h0:sizeT P fd.type≠0:=fun e=>by have:=hm.2; rw [e] at this; cases this
 have run:∀ ad,a.eval x=.pointer (some ad)→(execOp a.eval o).run P w=.ok (.value (.pointer (some (ad.add fd.offset)))) w:=by
  intro ad he
  simp only [execOp,ho,Instr.fieldAt,Sem.run_bind,run_underlying hfs,Result.andThen_ok,hfd,he,Instr.sureAddr,Sem.run_pure,run_fieldPlace hm.1 h0]
 split at hh <;> first | exact (exe_fail hh).elim | skip
 ·rename_i d off
  obtain ⟨g,hd,he⟩:=hu
  exact Does.value (run _ he) (put_ok' hh h ⟨g,hd,by rw [add_lit]⟩)
 ·rename_i d sz i off
  obtain ⟨g,m,c,hd,hi,he⟩:=hu
  exact Does.value (run _ he) (put_ok' hh h ⟨g,m,c,hd,hi,by rw [add_lit,Nat.add_assoc]⟩)
 ·rename_i cs
  split at hh <;> first | exact (exe_fail hh).elim | skip
  rename_i c hc
  obtain ⟨hw,hh⟩:=exe_must hh
  obtain ⟨ad,v,he,hok,⟨vs,rfl,hcs⟩,hl⟩:=hu
  obtain ⟨v',us,ws,h1,h2,h3,h4⟩:=CVs_item hcs hc
  have hl' : cellsAt w ad (us++(v'.cells.toList++ws)):=by rw [←h1]; exact hl
  have hl2:=cellsAt_left (cellsAt_right hl')
  rw [h2,Nat.eq_of_beq_eq_true hw] at hl2
  exact Does.value (run _ he) (put_ok' hh h ⟨_,v',rfl,by rw [block_add]; exact hok,h4,hl2⟩)
theorem inR_ok {i:Int} {m:Nat} (h:inR i m=true):0≤i∧i<m∧i.toNat<m:=by
 simp only [inR,Bool.and_eq_true,decide_eq_true_eq] at h
 omega
theorem run_indexAt_slice {t e:TypeId} {A:Addr} {len c:Nat} {kd:IntKind} {i:Int} (ht:P.underlying t=some (.slice e)) (he:typOk P e=true) (h0:0≤i) (h1:i<len) :
  (Instr.indexAt t (.slice (some A) len c) (.int kd i)).run P w=.ok (.pointer (some (A.add (i.toNat * sizeT P e)))) w:=by
 simp only [Instr.indexAt,Sem.run_bind,asIntOf,Sem.run_pure,Result.andThen_ok,run_underlying ht,h0,h1,and_self,if_true,run_sizeOf' he]
theorem run_indexAt_array {t e:TypeId} {A:Addr} {len:Nat} {kd:IntKind} {i:Int} (ht:P.underlying t=some (.array len e)) (he:typOk P e=true) (h0:0≤i) (h1:i<len) :
  (Instr.indexAt t (.pointer (some A)) (.int kd i)).run P w=.ok (.pointer (some (A.add (i.toNat * sizeT P e)))) w:=by
 simp only [Instr.indexAt,Sem.run_bind,asIntOf,Sem.run_pure,Result.andThen_ok,run_underlying ht,Instr.sureAddr,h0,h1,and_self,if_true,run_sizeOf' he]
theorem row_form {d:Nm} {own:Bool} {e:TypeId} {k:IntKind} {xs:List Int} {A:Option Addr} {m c:Nat} (h:Rel C S θ a w) (ho:vw (S.obj d)=some (.row own e k xs)) (hd:θ d=some (.slice A m c)) :
  m=xs.length∧xs.length≤c∧(0<xs.length→∃ g,A=some ⟨g,0,none⟩∧cellsAt w ⟨g,0,none⟩ (ints k xs)):=by
 have hov:=h.view ho hd
 have hml:m=xs.length∧xs.length≤c∧(0<xs.length→∃ ad,A=some ad):=by
  obtain ⟨v,v1,v2,v3⟩:=hov
  rw [hd] at v1
  cases v1
  cases own with
  | true=>
   rcases (v2 rfl).2 with ⟨q1,q2⟩ | ⟨g,cap,cur,fr,q1,q2,q3,q4,q5,q6,q7,q8⟩
   ·cases q1
    exact ⟨q2.symm,by omega,fun h=>by omega⟩
   ·cases q1
    exact ⟨rfl,q5,fun _=>⟨_,rfl⟩⟩
  | false=>
   obtain ⟨A',c',q1,q2,q3⟩:=v3 rfl
   cases q1
   exact ⟨rfl,q2,fun h0=>by obtain ⟨ad,q4,_⟩:=q3 h0; exact ⟨ad,q4⟩⟩
 refine ⟨hml.1,hml.2.1,fun h0=>?_⟩
 obtain ⟨ad,rfl⟩:=hml.2.2 h0
 obtain ⟨g,rfl⟩:=h.base d _ hd ad m c rfl
 exact ⟨g,rfl,(row_cells hov hd).1⟩
theorem rows_form {d:Nm} {own:Bool} {e:TypeId} {s:Sh} {xs:List AV} {A:Option Addr} {m c:Nat} (h:Rel C S θ a w) (ho:vw (S.obj d)=some (.rows own e s xs)) (hd:θ d=some (.slice A m c)) :
  m=xs.length∧xs.length≤c∧(∀ x∈xs,WT s x)∧∃ cs,CVs w (okOf C w S θ) θ xs cs∧(0<xs.length→∃ g,A=some ⟨g,0,none⟩∧cellsAt w ⟨g,0,none⟩ cs):=by
 have hov:=h.view ho hd
 obtain ⟨v,v1,hw,v2,v3⟩:=hov
 rw [hd] at v1
 cases v1
 cases own with
 | true=>
  obtain ⟨cs,hcs,hrow⟩:=v2 rfl
  rcases hrow.2 with ⟨q1,q2⟩ | ⟨g,cap,cur,fr,q1,q2,q3,q4,q5,q6,q7,q8⟩
  ·cases q1
   exact ⟨q2.symm,by omega,hw,cs,hcs,fun h=>by omega⟩
  ·cases q1
   exact ⟨rfl,q5,hw,cs,hcs,fun _=>⟨g,rfl,hrow.cells.1⟩⟩
 | false=>
  obtain ⟨A',c',cs,q1,q2,_,hcs,q3⟩:=v3 rfl
  cases q1
  refine ⟨rfl,q2,hw,cs,hcs,fun h0=>?_⟩
  obtain ⟨ad,rfl,_,hcl⟩:=q3 h0
  obtain ⟨g,rfl⟩:=h.base d _ hd ad _ _ rfl
  exact ⟨g,rfl,hcl⟩
theorem opIndexAddr_ok {t:TypeId} {x y:Operand} {u uy:AV} (ho:o.op=.indexAddr t x y) (h:Rel C S θ a w) (hu:CV w (okOf C w S θ) θ u (a.eval x)) (hy:CV w (okOf C w S θ) θ uy (a.eval y))
  (hh:(opIndexAddr P C.E o t u uy).exe n S=some S'):Does P C S' o a w:=by
 unfold opIndexAddr at hh
 split at hh <;> first | exact (exe_fail hh).elim | skip
 rename_i kd i
 have hy' : a.eval y=.int kd i:=hy
 have runS:∀ e A len c,P.underlying t=some (.slice e)→typOk P e=true→0≤i→i<(len:Nat)→a.eval x=.slice (some A) len c→
   (execOp a.eval o).run P w=.ok (.value (.pointer (some (A.add (i.toNat * sizeT P e))))) w:=by
  intro e A len c ht he h0 h1 hx
  simp only [execOp,ho,Sem.run_bind,hx,hy',run_indexAt_slice ht he h0 h1,Result.andThen_ok,Sem.run_pure]
 have runA:∀ e A len,P.underlying t=some (.array len e)→typOk P e=true→0≤i→i<(len:Nat)→a.eval x=.pointer (some A)→
   (execOp a.eval o).run P w=.ok (.value (.pointer (some (A.add (i.toNat * sizeT P e))))) w:=by
  intro e A len ht he h0 h1 hx
  simp only [execOp,ho,Sem.run_bind,hx,hy',run_indexAt_array ht he h0 h1,Result.andThen_ok,Sem.run_pure]
 split at hh <;> first | exact (exe_fail hh).elim | skip
 ·rename_i e ht
  split at hh <;> first | exact (exe_fail hh).elim | skip
  ·
   rename_i k xs
   obtain ⟨hm,hh⟩:=exe_must hh
   obtain ⟨hr,hh⟩:=exe_chk hh
   obtain ⟨he,hsz⟩:=szIs_ok hm
   obtain ⟨h0,h1,h2⟩:=inR_ok hr
   obtain ⟨A,c,hx,hc,hl⟩:=hu
   obtain ⟨ad,rfl,hok,hcl⟩:=hl (by omega)
   refine Does.value (runS e ad _ c ht he h0 h1 hx) (put_ok' hh h ⟨_,.int k (getI xs i.toNat),rfl,by rw [block_add]; exact hok,rfl,?_⟩)
   rw [hsz,Nat.mul_one]
   intro j u hj
   have:j=0:=by
    rcases Nat.eq_zero_or_pos j with h | h
    ·exact h
    ·have e:(Value.int k (getI xs i.toNat)).cells.toList=[.int k (getI xs i.toNat)]:=rfl
     rw [e,List.getElem?_eq_none (by simp; omega)] at hj
     cases hj
   subst this
   cases hj
   rw [add_add']
   exact hcl _ _ (ints_get h2)
  ·
   rename_i s xs
   obtain ⟨hm,hh⟩:=exe_must hh
   obtain ⟨hr,hh⟩:=exe_chk hh
   obtain ⟨he,hsz⟩:=szIs_ok hm
   obtain ⟨h0,h1,h2⟩:=inR_ok hr
   obtain ⟨A,c,cs,hx,hc,hw,hcs,hl⟩:=hu
   obtain ⟨ad,rfl,hok,hcl⟩:=hl (by omega)
   obtain ⟨v,q1,q2,q3,q4,q5⟩:=elem_at hcs hw h2 hcl
   rw [q4] at hh
   refine Does.value (runS e ad _ c ht he h0 h1 hx) (put_ok' hh h ⟨_,v,rfl,by rw [block_add]; exact hok,q1,?_⟩)
   rw [hsz]
   exact q3
  ·
   rename_i d
   obtain ⟨hd,A,m,c,hx⟩:=hu
   replace hh:=exe_obj hh
   cases hob:vw (S.obj d) with
   | none=>rw [hob] at hh; exact (exe_fail hh).elim
   | some ob=>
    rw [hob] at hh
    cases ob <;> first | exact (exe_fail hh).elim | skip
    ·rename_i own e' k xs
     obtain ⟨hm,hh⟩:=exe_must hh
     obtain ⟨hr,hh⟩:=exe_chk hh
     obtain ⟨he,hsz⟩:=szIs_ok hm
     obtain ⟨h0,h1,h2⟩:=inR_ok hr
     rw [hx] at hd
     obtain ⟨f1,_,f3⟩:=row_form h hob hd
     obtain ⟨g,rfl,_⟩:=f3 (by omega)
     refine Does.value (runS e _ m c ht he h0 (by omega) hx) (put_ok' hh h ⟨g,m,c,hd,by omega,?_⟩)
     rw [hsz,add_lit]
     simp
    ·rename_i own e' s xs
     obtain ⟨hm,hh⟩:=exe_must hh
     obtain ⟨hr,hh⟩:=exe_chk hh
     obtain ⟨he,hsz⟩:=szIs_ok hm
     obtain ⟨h0,h1,h2⟩:=inR_ok hr
     rw [hx] at hd
     obtain ⟨f1,_,_,cs,_,f3⟩:=rows_form h hob hd
     obtain ⟨g,rfl,_⟩:=f3 (by omega)
     refine Does.value (runS e _ m c ht he h0 (by omega) hx) (put_ok' hh h ⟨g,m,c,hd,by omega,?_⟩)
     rw [hsz,add_lit]
     simp
  ·
   rename_i d sz off len
   obtain ⟨hm,hh⟩:=exe_must hh
   obtain ⟨hr,hh⟩:=exe_chk hh
   obtain ⟨he,hsz⟩:=szIs_ok hm
   obtain ⟨h0,h1,h2⟩:=inR_ok hr
   obtain ⟨A,c,hx,hc,hl⟩:=hu
   obtain ⟨g,m,c',hd,hle,rfl⟩:=hl (by omega)
   refine Does.value (runS e _ len c ht he h0 h1 hx) (put_ok' hh h ⟨g,m,c',hd,by omega,?_⟩)
   rw [hsz,add_lit,Nat.add_mul,Nat.add_zero]
  ·
   rename_i d oo m off len
   obtain ⟨hm,hh⟩:=exe_must hh
   obtain ⟨hr,hh⟩:=exe_chk hh
   obtain ⟨he,hsz⟩:=szIs_ok hm
   obtain ⟨h0,h1,h2⟩:=inR_ok hr
   obtain ⟨A,c,hx,hc,hle,hl⟩:=hu
   obtain ⟨g,hd,rfl⟩:=hl (by omega)
   refine Does.value (runS e _ len c ht he h0 h1 hx) (put_ok' hh h ⟨by omega,g,hd,?_⟩)
   rw [hsz,add_lit,Nat.mul_one,Nat.add_assoc]
 ·rename_i m e ht
  split at hh <;> first | exact (exe_fail hh).elim | skip
  ·
   rename_i d off
   obtain ⟨g,hd,hx⟩:=hu
   split at hh
   ·obtain ⟨hm,hh⟩:=exe_must hh
    obtain ⟨hr,hh⟩:=exe_chk hh
    obtain ⟨he,hsz⟩:=szIs_ok hm
    obtain ⟨h0,h1,h2⟩:=inR_ok hr
    refine Does.value (runA e _ m ht he h0 h1 hx) (put_ok' hh h ⟨h2,g,hd,?_⟩)
    rw [hsz,add_lit,Nat.mul_one]
   ·obtain ⟨he,hh⟩:=exe_must hh
    obtain ⟨hr,hh⟩:=exe_chk hh
    obtain ⟨h0,h1,h2⟩:=inR_ok hr
    refine Does.value (runA e _ m ht he h0 h1 hx) (put_ok' hh h ⟨g,hd,?_⟩)
    rw [add_lit]
  ·
   rename_i k m' xs
   have hq:=exe_must hh
   clear hh
   obtain ⟨hm,hq⟩:=hq
   have hh:=exe_chk hq
   clear hq
   obtain ⟨hr,hh⟩:=hh
   simp only [Bool.and_eq_true] at hm
   obtain ⟨he,hsz⟩:=szIs_ok hm.1
   have hmm:=Nat.eq_of_beq_eq_true hm.2
   subst hmm
   obtain ⟨h0,h1,h2⟩:=inR_ok hr
   obtain ⟨ad,v,hx,hok,⟨hl,rfl⟩,hcl⟩:=hu
   refine Does.value (runA e _ m ht he h0 h1 hx) (put_ok' hh h ⟨_,.int k (getI xs i.toNat),rfl,by rw [block_add]; exact hok,rfl,?_⟩)
   rw [hsz,Nat.mul_one]
   intro j u hj
   have:j=0:=by
    rcases Nat.eq_zero_or_pos j with h | h
    ·exact h
    ·have e:(Value.int k (getI xs i.toNat)).cells.toList=[.int k (getI xs i.toNat)]:=rfl
     rw [e,List.getElem?_eq_none (by simp; omega)] at hj
     cases hj
   subst this
   cases hj
   rw [add_add']
   exact hcl _ _ (by simpa [Value.cells] using ints_get (k:=k) (xs:=xs) (i:=i.toNat) (by omega))
  ·
   rename_i cs
   split at hh
   ·rename_i s hs
    obtain ⟨hm,hh⟩:=exe_must hh
    obtain ⟨hr,hh⟩:=exe_chk hh
    simp only [Bool.and_eq_true] at hm
    obtain ⟨he,hsz⟩:=szIs_ok hm.1
    have hcl0:=Nat.eq_of_beq_eq_true hm.2
    obtain ⟨h0,h1,h2⟩:=inR_ok hr
    obtain ⟨ad,v,hx,hok,⟨vs,rfl,hcs⟩,hcl⟩:=hu
    obtain ⟨v',q1,q2,q3,q4,q5⟩:=elem_at hcs (homo_WT hs) (i:=i.toNat) (by omega) hcl
    rw [q4] at hh
    refine Does.value (runA e _ m ht he h0 h1 hx) (put_ok' hh h ⟨_,v',rfl,by rw [block_add]; exact hok,q1,?_⟩)
    rw [hsz]
    exact q3
   ·split at hh <;> first | exact (exe_fail hh).elim | skip
    rename_i c hc
    obtain ⟨hm,hh⟩:=exe_must hh
    obtain ⟨hr,hh⟩:=exe_chk hh
    simp only [Bool.and_eq_true] at hm
    have hmm:=Nat.eq_of_beq_eq_true hm.2
    obtain ⟨h0,h1,h2⟩:=inR_ok hr
    obtain ⟨ad,v,hx,hok,⟨vs,rfl,hcs⟩,hcl⟩:=hu
    obtain ⟨v',us,ws,q1,q2,q3,q4⟩:=CVs_item hcs hc
    have hl' : cellsAt w ad (us++(v'.cells.toList++ws)):=by rw [←q1]; exact hcl
    have hl2:=cellsAt_left (cellsAt_right hl')
    rw [q2,hmm] at hl2
    exact Does.value (runA e _ m ht hm.1 h0 h1 hx) (put_ok' hh h ⟨_,v',rfl,by rw [block_add]; exact hok,q4,hl2⟩)
theorem opExtract_ok {x:Operand} {i:Nat} {u:AV} (ho:o.op=.extract x i) (h:Rel C S θ a w) (hu:CV w (okOf C w S θ) θ u (a.eval x)) (hh:(opExtract o u i).exe n S=some S'):Does P C S' o a w:=by
 unfold opExtract at hh
 split at hh <;> first | exact (exe_fail hh).elim | skip
 rename_i vs
 split at hh <;> first | exact (exe_fail hh).elim | skip
 rename_i v hv
 obtain ⟨us,hx,hcs⟩:=hu
 have key:∀ (vs:List AV) (us:List Value) (i:Nat) (v:AV),CVt w (okOf C w S θ) θ vs us→vs[i]? = some v→∃ u,us[i]? = some u∧CV w (okOf C w S θ) θ v u:=by
  intro vs
  induction vs with
  | nil=>intro us i v _ h; simp at h
  | cons x vs ih=>
   intro us i v hc hi
   obtain ⟨u,rest,rfl,h1,h2⟩:=hc
   cases i with
   | zero=>cases hi; exact ⟨u,rfl,h1⟩
   | succ i=>exact ih rest i v h2 hi
 obtain ⟨u,h1,h2⟩:=key vs us.toList i v hcs hv
 refine Does.value (v:=u) ?_ (put_ok' hh h h2)
 have h1' : us[i]? = some u:=by simpa using h1
 simp only [execOp,ho,Instr.extract,hx,h1',Sem.run_bind,Sem.run_pure,Result.andThen_ok]
theorem opUn_ok {uo:UnOp} {t:TypeId} {x:Operand} {u:AV} (ho:o.op=.unOp uo t x) (h:Rel C S θ a w) (hu:CV w (okOf C w S θ) θ u (a.eval x)) (hh:(opUn o uo u).exe n S=some S'):Does P C S' o a w:=by
 unfold opUn at hh
 split at hh <;> first | exact (exe_fail hh).elim | skip
 ·rename_i b
  have hx:a.eval x=.bool b:=hu
  exact Does.value (v:=.bool (!b)) (by simp only [execOp,ho,hx,Op.unary,Sem.run_bind,Sem.run_pure,Result.andThen_ok]) (put_ok' hh h rfl)
 ·rename_i k m
  have hx:a.eval x=.int k m:=hu
  exact Does.value (v:=.int k (k.wrap (0 - m))) (by simp only [execOp,ho,hx,Op.unary,Op.intArith,Sem.run_bind,Sem.run_pure,Result.andThen_ok]) (put_ok' hh h rfl)
end
end Go.Am
end
section
set_option linter.unusedVariables false
set_option linter.unusedSimpArgs false
namespace Go.Am
open Go.RowKit
def Sh.isAgg:Sh→Bool
 | .arr _ _=>true
 | .agg _=>true
 | _=>false
theorem WT_isAgg {s:Sh} {x:AV} (h:WT s x):x.isAgg=s.isAgg:=by
 cases s <;> first
  | (rcases h with rfl | ⟨_,rfl⟩ <;> rfl; done)
  | (obtain ⟨_,rfl⟩:=h; rfl; done)
  | (obtain ⟨_,rfl,_⟩:=h; rfl; done)
theorem WT_stor {s:Sh} {x:AV} (h:WT s x):x.stor=true:=by
 cases s <;> first
  | (rcases h with rfl | ⟨_,rfl⟩ <;> rfl; done)
  | (obtain ⟨_,rfl⟩:=h; rfl; done)
  | (obtain ⟨_,rfl,_⟩:=h; rfl; done)
section
variable {P:Program} {w:World} {ok:Nat→Prop} {θ:Nm→Option Value}
theorem keyT_aggT {n:Nat} {t:TypeId} {s:Sh} (h:keyT P n t s=true):aggT P t=s.isAgg:=by
 cases n with
 | zero=>cases h
 | succ n=>
  unfold keyT at h
  unfold aggT
  split at h <;> first | (cases h; done) | skip
  all_goals (rename_i e; simp only [e]; rfl)
theorem fits_of {t:TypeId} {s:Sh} {x:AV} (hsz:szIs P t s.width=true) (ha:aggT P t=s.isAgg) (hw:WT s x):fits P t x=true:=by
 obtain ⟨h1,h2⟩:=szIs_ok hsz
 simp only [fits,h1,WT_isAgg hw,ha,WT_width s x hw,h2,Bool.true_and,beq_self_eq_true,Nat.beq_refl]
theorem forIn_range {α:Type} (m:Nat) (f:Nat→α→Sem (ForInStep α)) (init:α) :
  (forIn [0:m] init f)=forIn (List.range' 0 m) init f:=by
 rw [Std.Legacy.Range.forIn_eq_forIn_range']
 simp [Std.Legacy.Range.size]
theorem run_part_ints {e:TypeId} {k:IntKind} {xs:List Int} {i:Nat} (he:szIs P e 1=true) (hk:P.underlying e=some (.int k)) (hi:i<xs.length) :
  (part e (ints k xs).toArray (i * 1)).run P w=.ok (.int k (getI xs i)) w:=by
 obtain ⟨h1,h2⟩:=szIs_ok he
 have ha:aggT P e=false:=by simp [aggT,hk]
 have hg:(ints k xs).toArray[i * 1]? = some (.int k (getI xs i)):=by
  rw [Nat.mul_one]
  simpa using ints_get (k:=k) hi
 simp only [part,Sem.run_bind,run_isAgg' h1,ha,Result.andThen_ok,Bool.false_eq_true,if_false,hg,Sem.run_pure]
theorem run_equal_ints {d:Nat} {t e:TypeId} {k:IntKind} {m:Nat} {xs ys:List Int} (ht:P.underlying t=some (.array m e)) (he:szIs P e 1=true) (hk:P.underlying e=some (.int k)) (hx:xs.length=m) (hy:ys.length=m) :
  (Op.equalIn (d+2) t (.agg (ints k xs).toArray) (.agg (ints k ys).toArray)).run P w=.ok (xs == ys) w:=by
 obtain ⟨h1,h2⟩:=szIs_ok he
 rw [show d+2=(d+1)+1 from rfl,Op.equalIn]
 simp only [Sem.run_bind,run_underlying ht,Result.andThen_ok,run_sizeOf' h1,h2]
 rw [forIn_range]
 have key:∀ (j i:Nat),i+j=m→(∀ q,q<i→getI xs q=getI ys q)→
   ((forIn (List.range' i j) (none,PUnit.unit) fun i (_:Option Bool × PUnit)=>do
     let a ←part e (ints k xs).toArray (i * 1)
     let b ←part e (ints k ys).toArray (i * 1)
     let r ←Op.equalIn (d+1) e a b
     if (!r)=true then pure (ForInStep.done (some false,PUnit.unit)) else pure (ForInStep.yield (none,PUnit.unit)):Sem (Option Bool × PUnit))).run P w =
     .ok ((if xs=ys then none else some false),PUnit.unit) w:=by
  intro j
  induction j with
  | zero=>
   intro i hi hq
   have:xs=ys:=by
    apply List.ext_getElem?
    intro q
    by_cases hqm:q<m
    ·have:=hq q (by omega)
     rw [getI_get (by omega:q<xs.length),getI_get (by omega:q<ys.length),this]
    ·rw [List.getElem?_eq_none (by omega),List.getElem?_eq_none (by omega)]
   simp [this]
  | succ j ih=>
   intro i hi hq
   rw [List.range'_succ,List.forIn_cons]
   simp only [Sem.run_bind,run_part_ints he hk (by omega:i<xs.length),run_part_ints he hk (by omega:i<ys.length),Result.andThen_ok,run_equalIn_int w d e k k _ _ hk]
   by_cases hc:getI xs i=getI ys i
   ·simp only [hc,beq_self_eq_true,Bool.not_true,Bool.false_eq_true,if_false,Sem.run_pure,Result.andThen_ok]
    exact ih (i+1) (by omega) (fun q hq'=>by
     by_cases e:q=i
     ·rw [e]; exact hc
     ·exact hq q (by omega))
   ·have hne:xs≠ys:=fun e=>hc (by rw [e])
    have:(getI xs i == getI ys i)=false:=by simpa using hc
    simp only [this,Bool.not_false,if_true,Sem.run_pure,Result.andThen_ok,hne,if_false]
 have:=key m 0 (by omega) (fun q hq=>by omega)
 have e:(xs == ys)=decide (xs=ys):=by by_cases h:xs=ys <;> simp [h]
 rw [e]
 refine (congrArg (fun r:Result (Option Bool × PUnit)=>r.andThen _) this).trans ?_
 by_cases hxy:xs=ys <;> simp [hxy]
theorem eqFields_cons {d : Nat} {xs ys : Array Value} {f : Field} {fs : List Field} {a b : Value} {r : Bool} (hn : f.name ≠ "_") (ha : (part f.type xs f.offset).run P w = .ok a w) (hb : (part f.type ys f.offset).run P w = .ok b w)
  (hr:(Op.equalIn d f.type a b).run P w=.ok r w):(Op.eqFields d xs ys (f::fs)).run P w=if r=true then (Op.eqFields d xs ys fs).run P w else .ok false w:=by
 simp only [Op.eqFields,hn,ne_eq,not_false_eq_true,if_true,Sem.run_bind,ha,hb,hr,Result.andThen_ok,Sem.run_ite]
 cases r <;> simp
theorem equal_key:∀ (n d:Nat) (t:TypeId) (s:Sh) (x y:AV) (u v:Value),keyT P n t s=true→n<d→WT s x→WT s y→CV w ok θ x u→CV w ok θ y v→
  (Op.equalIn d t u v).run P w=.ok (keq x y) w
 | 0,d,t,s,x,y,u,v,h,_,_,_,_,_=>by cases h
 | n+1,0,t,s,x,y,u,v,h,hd,_,_,_,_=>by omega
 | n+1,1,t,s,x,y,u,v,h,hd,_,_,_,_=>by omega
 | n+1,d+2,t,s,x,y,u,v,h,hd,hx,hy,cx,cy=>by
  unfold keyT at h
  split at h <;> first | (cases h; done) | skip
  ·rename_i ht
   obtain ⟨a,rfl⟩:=hx
   obtain ⟨b,rfl⟩:=hy
   cases (cx:u=_)
   cases (cy:v=_)
   exact run_equalIn_bool w (d+1) t a b ht
  ·rename_i k k' ht
   have:=eq_of_beq h
   subst this
   obtain ⟨a,rfl⟩:=hx
   obtain ⟨b,rfl⟩:=hy
   cases (cx:u=_)
   cases (cy:v=_)
   rw [run_equalIn_int w (d+1) t k k a b ht]
   simp [keq]
  ·rename_i ht
   obtain ⟨a,rfl⟩:=hx
   obtain ⟨b,rfl⟩:=hy
   cases (cx:u=_)
   cases (cy:v=_)
   rw [run_equalIn_string w (d+1) t _ _ ht]
   simp [keq,ByteArray.toList_eq]
  ·rename_i m e k m' ht
   simp only [Bool.and_eq_true] at h
   obtain ⟨hm,he,hk⟩:=h
   have hm:=Nat.eq_of_beq_eq_true hm
   subst hm
   obtain ⟨a,rfl⟩:=hx
   obtain ⟨b,rfl⟩:=hy
   obtain ⟨la,rfl⟩:=cx
   obtain ⟨lb,rfl⟩:=cy
   have hk' : P.underlying e=some (.int k):=by
    split at hk
    ·rename_i k' hk'
     rw [hk',eq_of_beq hk]
    ·cases hk
   rw [run_equal_ints ht he hk' la lb]
   simp [keq]
  ·rename_i fs l ht
   simp only [Bool.and_eq_true,Bool.not_eq_true'] at h
   obtain ⟨hst,hfs⟩:=h
   obtain ⟨cs,rfl,hcs⟩:=hx
   obtain ⟨ds,rfl,hds⟩:=hy
   obtain ⟨us,rfl,cu⟩:=cx
   obtain ⟨vs,rfl,cv⟩:=cy
   have hfo:P.fieldsOf t=fs:=by simp [Program.fieldsOf,ht]
   rw [run_equalIn_struct w (d+1) t us vs (by rw [hfo]; exact ht) hst,hfo]
   have fields:∀ (l:List Sh) (fs:List Field) (off:Nat) (cs ds:List AV) (us vs pu pv:List Value),keyT.keyFs P (keyT P n) off fs l=true→WTs l cs→WTs l ds→CVs w ok θ cs us→CVs w ok θ ds vs→pu.length=off→pv.length=off→
     (Op.eqFields (d+1) (pu++us).toArray (pv++vs).toArray fs).run P w=.ok (keqs cs ds) w:=by
    intro l
    induction l with
    | nil=>
     intro fs off cs ds us vs pu pv h h1 h2 h3 h4 h5 h6
     cases fs with
     | cons=>simp [keyT.keyFs] at h
     | nil=>
      simp only [WTs] at h1 h2
      subst h1 h2
      rfl
    | cons s l ih=>
     intro fs off cs ds us vs pu pv h h1 h2 h3 h4 h5 h6
     cases fs with
     | nil=>simp [keyT.keyFs] at h
     | cons f fs=>
      simp only [keyT.keyFs,Bool.and_eq_true,bne_iff_ne] at h
      obtain ⟨⟨g1,g2,g3,g4⟩,g5⟩:=h
      have g1:=Nat.eq_of_beq_eq_true g1
      obtain ⟨c,cs,rfl,w1,w2⟩:=h1
      obtain ⟨c',ds,rfl,w3,w4⟩:=h2
      obtain ⟨va,ra,rfl,s1,q1,q2⟩:=h3
      obtain ⟨vb,rb,rfl,s2,q3,q4⟩:=h4
      have pa:=run_part (P:=P) (w:=w) (fits_of g3 (keyT_aggT g4) w1) (WT_stor w1) q1 s1 (us:=pu) (ws:=ra) (cs:=pu++(va.cells.toList++ra)) rfl
      have pb:=run_part (P:=P) (w:=w) (fits_of g3 (keyT_aggT g4) w3) (WT_stor w3) q3 s2 (us:=pv) (ws:=rb) (cs:=pv++(vb.cells.toList++rb)) rfl
      rw [h5,←g1] at pa
      rw [h6,←g1] at pb
      rw [eqFields_cons g2 pa pb (equal_key n (d+1) f.type s c c' va vb g4 (by omega) w1 w3 q1 q3)]
      have next:=ih fs (off+s.width) cs ds ra rb (pu++va.cells.toList) (pv++vb.cells.toList) g5 w2 w4 q2 q4 (by rw [List.length_append,h5,Array.length_toList,s1,WT_width s c w1]) (by rw [List.length_append,h6,Array.length_toList,s2,WT_width s c' w3])
      simp only [List.append_assoc] at next
      cases hk:keq c c' with
      | true=>rw [if_pos rfl,next]; simp [keqs,hk]
      | false=>simp [keqs,hk]
   have:=fields l fs.toList 0 cs ds us.toList vs.toList [] [] hfs hcs hds cu cv rfl rfl
   simpa [keq] using this
inductive FindsAt (k:AV):List AV→List MapEntry→Nat→Option (Nat × Value)→Prop
 | none (i:Nat):FindsAt k [] [] i none
 | here {e:AV} {es:List AV} {m:MapEntry} {ms:List MapEntry} {i:Nat}:keq k (e.item 1)=true→FindsAt k (e::es) (m::ms) i (some (i,m.val))
 | on {e:AV} {es:List AV} {m:MapEntry} {ms:List MapEntry} {i:Nat} {r}:keq k (e.item 1)=false→FindsAt k es ms (i+1) r→FindsAt k (e::es) (m::ms) i r
end
end Go.Am
end
