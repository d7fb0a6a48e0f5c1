/-
  Regions, templates and code are sound.
-/
import Derived.Test.YtlmnjnhmhacgkaaDoorAmD
import Derived.Test.YtlmnjnhmhacgkaaDoorAmH
import Derived.Test.YtlmnjnhmhacgkaaDoorAmI
import Derived.LoopN
import Derived.Scope
import Derived.Recover
section
set_option linter.unusedVariables false
set_option linter.unusedSimpArgs false
namespace Go.Am
open Go.RowKit
section
variable {C:Ctx} {S S' : St} {θ θ' : Nm→Option Value} {a:Act} {w w' : World} {n:Rp} {ok:Nat→Prop} {P:Program} {o:Oper}
theorem Does.wp (h:Does P C S' o a w) (K:Act→World→Prop) (Q:Exit→Act→World→Prop) (hK:∀ a' w' θ',Rel C S' θ' a' w'→a'.defers=a.defers→K a' w'):o.wp P a w K Q:=by
 obtain ⟨nx,w',hr,h⟩:=h
 unfold Oper.wp
 rw [hr]
 rcases h with ⟨v,rfl,θ',hrel⟩ | ⟨rfl,θ',hrel⟩
 ·exact hK _ _ θ' hrel (put_defers _ _ _)
 ·exact hK _ _ θ' hrel (put_defers _ _ _)
theorem opNilCheck_ok {x:Operand} {u:AV} (ho:o.op=.nilCheck x) (h:Rel C S θ a w) (hu:CV w (okOf C w S θ) θ u (a.eval x)) (hh:(opNilCheck o u).exe n S=some S'):Does P C S' o a w:=by
 unfold opNilCheck at hh
 have fin:∀ u',(∃ p,a.eval x=.pointer (some p))∨(∃ f us,a.eval x=.func (.func f) #[] us)→CV w (okOf C w S θ) θ u' (a.eval x)→(put o u').exe n S=some S'→Does P C S' o a w:=by
  intro u' hp hc hk
  refine Does.value (v:=a.eval x) ?_ (put_ok' hk h hc)
  rcases hp with ⟨p,hp⟩ | ⟨f,us,hp⟩ <;> simp only [execOp,ho,hp,Sem.run_pure]
 split at hh
 ·have hu':=hu
  obtain ⟨g,h1,h2⟩:=hu'; exact fin _ (.inl ⟨_,h2⟩) hu hh
 ·have hu':=hu
  obtain ⟨h0,g,h1,h2⟩:=hu'; exact fin _ (.inl ⟨_,h2⟩) hu hh
 ·have hu':=hu
  obtain ⟨g,m,c,h1,h0,h2⟩:=hu'; exact fin _ (.inl ⟨_,h2⟩) hu hh
 ·have hu':=hu
  obtain ⟨p,v,h1,h2⟩:=hu'; exact fin _ (.inl ⟨_,h1⟩) hu hh
 ·rename_i f
  have hu' : a.eval x=.func (.func f) #[] #[]:=hu
  exact fin _ (.inr ⟨f,_,hu'⟩) hu hh
 ·have hu':=hu
  obtain ⟨us,h1,_⟩:=hu'; exact fin _ (.inr ⟨_,_,h1⟩) hu hh
 ·rename_i f q
  obtain ⟨hs,hh⟩:=exe_chk hh
  cases q with
  | none=>cases hs
  | some i=>
   obtain ⟨h1,g,h2⟩:=hu
   exact fin (.ref (.mem f i) 0) (.inl ⟨_,h2⟩) ⟨g,by rw [←h2]; exact h1,h2⟩ hh
 ·exact (exe_fail hh).elim
theorem opS2a_ok {t:TypeId} {x:Operand} {u:AV} (ho:o.op=.sliceToArrayPointer t x) (h:Rel C S θ a w) (hu:CV w (okOf C w S θ) θ u (a.eval x)) (hh:(opS2a P o t u).exe n S=some S'):Does P C S' o a w:=by
 unfold opS2a at hh
 split at hh <;> first | exact (exe_fail hh).elim | skip
 rename_i m e ht
 split at hh <;> first | exact (exe_fail hh).elim | skip
 ·rename_i d oo nn off len
  obtain ⟨h1,hh⟩:=exe_must hh
  obtain ⟨h2,hh⟩:=exe_chk hh
  have h1:=Nat.le_of_ble_eq_true h1
  have h2:=Nat.le_of_ble_eq_true h2
  obtain ⟨A,c,hx,hc,hle,hl⟩:=hu
  obtain ⟨g,hd,rfl⟩:=hl (by omega)
  refine Does.value (v:=.pointer (some ⟨g,oo+off,none⟩)) ?_ (put_ok' hh h ⟨by omega,g,hd,rfl⟩)
  simp only [execOp,ho,Instr.arrayAt,Sem.run_bind,run_underlying ht,Result.andThen_ok,hx,Sem.run_pure,if_neg (show ¬ len<m by omega)]
 ·rename_i k xs
  obtain ⟨h1,hh⟩:=exe_must hh
  obtain ⟨h2,hh⟩:=exe_chk hh
  have h1:=Nat.le_of_ble_eq_true h1
  have h2:=Nat.le_of_ble_eq_true h2
  obtain ⟨A,c,hx,hc,hA⟩:=hu
  obtain ⟨ad,rfl,hok,hcell⟩:=hA (by omega)
  refine Does.value (v:=.pointer (some ad)) ?_ (put_ok' hh h ⟨ad,.agg (ints k (xs.take m)).toArray,rfl,hok,⟨by rw [List.length_take]; omega,rfl⟩,?_⟩)
  ·simp only [execOp,ho,Instr.arrayAt,Sem.run_bind,run_underlying ht,Result.andThen_ok,hx,Sem.run_pure,if_neg (show ¬ xs.length<m by omega)]
  ·have e:ints k xs=ints k (xs.take m)++ints k (xs.drop m):=by
    unfold ints
    rw [←List.map_append,List.take_append_drop]
   rw [e] at hcell
   exact cellsAt_left hcell
theorem opMin_ok {x y:Operand} {ats:Array TypeId} {u v:AV} (ho:o.op=.call { callee:=.builtin .min,args:=#[x,y],argTypes:=ats }) (h:Rel C S θ a w) (hu:CV w (okOf C w S θ) θ u (a.eval x)) (hv:CV w (okOf C w S θ) θ v (a.eval y)) (hh:(opMin o u v).exe n S=some S'):Does P C S' o a w:=by
 unfold opMin at hh
 split at hh
 ·rename_i k p k' q
  have h1:a.eval x=.int k p:=hu
  have h2:a.eval y=.int k' q:=hv
  refine Does.value (v:=.int k (match decide (q<p) with | true=>q | false=>p)) ?_ (put_ok' hh h rfl)
  simp only [execOp,ho,resolve,invoke,builtin,Sem.run_bind,Sem.run_pure,Result.andThen_ok,List.map_toArray,List.map_cons,List.map_nil,Builtin.min_,List.foldlM_cons,List.foldlM_nil,h1,h2,Builtin.min2]
  by_cases hq:q<p <;> simp [hq]
 ·exact (exe_fail hh).elim
theorem opMax_ok {x y:Operand} {ats:Array TypeId} {u v:AV} (ho:o.op=.call { callee:=.builtin .max,args:=#[x,y],argTypes:=ats }) (h:Rel C S θ a w) (hu:CV w (okOf C w S θ) θ u (a.eval x)) (hv:CV w (okOf C w S θ) θ v (a.eval y)) (hh:(opMax o u v).exe n S=some S'):Does P C S' o a w:=by
 unfold opMax at hh
 split at hh
 ·rename_i k p k' q
  have h1:a.eval x=.int k p:=hu
  have h2:a.eval y=.int k' q:=hv
  refine Does.value (v:=.int k (match decide (q > p) with | true=>q | false=>p)) ?_ (put_ok' hh h rfl)
  simp only [execOp,ho,resolve,invoke,builtin,Sem.run_bind,Sem.run_pure,Result.andThen_ok,List.map_toArray,List.map_cons,List.map_nil,Builtin.max_,List.foldlM_cons,List.foldlM_nil,h1,h2,Builtin.max2]
  by_cases hq:q > p <;> simp [hq]
 ·exact (exe_fail hh).elim
theorem CVt_append {ok:Nat→Prop} {us us' : List AV} {vs vs' : List Value} (h:CVt w ok θ us vs) (h' : CVt w ok θ us' vs'):CVt w ok θ (us++us') (vs++vs'):=by
 induction us generalizing vs with
 | nil=>have h:vs=[]:=h; subst h; exact h'
 | cons u us ih=>
  obtain ⟨v,rest,rfl,h1,h2⟩:=h
  exact ⟨v,rest++vs',rfl,h1,ih h2⟩
theorem aopCall_ok {cal:FuncId→Option Cal} (hcal:∀ f c,cal f=some c→SoundCal P C.E f c) {c:Call} (ho:o.op=.call c) (h:Rel C S θ a w) (hh:(aopCall P C.E cal o c).exe n S=some S') (K:Act→World→Prop) (Q:Exit→Act→World→Prop)
  (hK:∀ a' w' θ',Rel C S' θ' a' w'→a'.defers=a.defers→K a' w'):o.wp P a w K Q:=by
 obtain ⟨cl,args,ats⟩:=c
 unfold aopCall at hh
 dsimp only at hh
 split at hh
 ·split at hh
  ·rename_i x t e1 e2
   have e3:args = #[x]:=by rw [←Array.toList_inj,e1]
   have e4:ats = #[t]:=by rw [←Array.toList_inj,e2]
   subst e3 e4
   obtain ⟨u,hu,hk⟩:=ev_ok h hh
   split at hk
   ·exact (opMapLen_ok ho h hu hk).wp K Q hK
   ·exact (opLen_ok ho h hu hk).wp K Q hK
  ·exact (exe_fail hh).elim
 ·split at hh
  ·rename_i s x ts tx e1 e2
   have e3:args = #[s,x]:=by rw [←Array.toList_inj,e1]
   have e4:ats = #[ts,tx]:=by rw [←Array.toList_inj,e2]
   subst e3 e4
   obtain ⟨u,hu,h1⟩:=ev_ok h hh
   obtain ⟨uy,hy,h2⟩:=ev_ok h h1
   split at h2
   ·rename_i kn hkn; exact (opAppendZ_ok ho hkn h hu hy h2).wp K Q hK
   ·exact (opAppend_ok ho h hu hy h2).wp K Q hK
  ·exact (exe_fail hh).elim
 ·split at hh
  ·rename_i d s td ts e1 e2
   have e3:args = #[d,s]:=by rw [←Array.toList_inj,e1]
   have e4:ats = #[td,ts]:=by rw [←Array.toList_inj,e2]
   subst e3 e4
   obtain ⟨u,hu,h1⟩:=ev_ok h hh
   obtain ⟨uy,hy,h2⟩:=ev_ok h h1
   exact (opCopy_ok ho h hu hy h2).wp K Q hK
  ·exact (exe_fail hh).elim
 ·split at hh
  ·rename_i x y e1
   have e3:args = #[x,y]:=by rw [←Array.toList_inj,e1]
   subst e3
   obtain ⟨u,hu,h1⟩:=ev_ok h hh
   obtain ⟨uy,hy,h2⟩:=ev_ok h h1
   exact (opMin_ok ho h hu hy h2).wp K Q hK
  ·exact (exe_fail hh).elim
 ·split at hh
  ·rename_i x y e1
   have e3:args = #[x,y]:=by rw [←Array.toList_inj,e1]
   subst e3
   obtain ⟨u,hu,h1⟩:=ev_ok h hh
   obtain ⟨uy,hy,h2⟩:=ev_ok h h1
   exact (opMax_ok ho h hu hy h2).wp K Q hK
  ·exact (exe_fail hh).elim
 ·split at hh
  ·rename_i x y t ts e1 e2
   have e3:args = #[x,y]:=by rw [←Array.toList_inj,e1]
   subst e3
   obtain ⟨u,hu,h1⟩:=ev_ok h hh
   obtain ⟨uy,hy,h2⟩:=ev_ok h h1
   exact (opDelete_ok ho e2 h hu hy h2).wp K Q hK
  ·exact (exe_fail hh).elim
 ·rename_i q
  obtain ⟨uq,hq,h1⟩:=ev_ok h hh
  split at h1 <;> first | exact (exe_fail h1).elim | skip
  ·rename_i f
   have hq:a.eval q=.func (.func f) #[] #[]:=hq
   obtain ⟨us,hu,hk⟩:=evL_ok h h1
   refine opCall_ok hcal (f:=f) (args:=args.map a.eval) (fun hc=>?_) h (by simpa using hu) hk K Q hK
   simp only [execOp,ho,resolve,hq,Deferred.ofValue,Sem.run_bind,Sem.run_pure,Result.andThen_ok,invoke,Array.append_empty,Array.empty_append]
   exact hc
  ·rename_i f caps
   obtain ⟨uc,hq,hcc⟩:=hq
   obtain ⟨us,hu,hk⟩:=evL_ok h h1
   refine opCall_ok hcal (f:=f) (args:=args.map a.eval++uc) (fun hc=>?_) h (by simpa using CVt_append hu hcc) hk K Q hK
   simp only [execOp,ho,resolve,hq,Deferred.ofValue,Sem.run_bind,Sem.run_pure,Result.andThen_ok,invoke,Array.empty_append]
   exact hc
 ·exact (exe_fail hh).elim
theorem stD_ok {t:TypeId} {x y:Operand} {u uv:AV} (h:Rel C S θ a w) (hu:CV w (okOf C w S θ) θ u (a.eval x)) (hv:CV w (okOf C w S θ) θ uv (a.eval y)) (hh:(stD P C.E t u uv).exe n S=some S') :
  ∃ w',(Instr.storeAt t (a.eval x) (a.eval y)).run P w=.ok () w'∧Rel C S' θ a w':=by
 unfold stD at hh
 split at hh
 ·split at hh
  ·split at hh
   ·obtain ⟨S1,u',h1,_,h3,h4,h5,_⟩:=frz_ok h hv hh
    exact st_ok h1 (CV_mono (keepsOk h5) _ _ hu) h3 h4
   ·exact (exe_fail hh).elim
  ·exact st_ok h hu hv hh
 ·exact st_ok h hu hv hh
theorem aop_ok0 {cal:FuncId→Option Cal} (hcal:∀ f c,cal f=some c→SoundCal P C.E f c) (hnx:∀ x,o.op≠.next x false) (hni:∀ op t x y ty,o.op=.binOp op t x y ty→isNilC op y=none) (h:Rel C S θ a w) (hh:(aop P C.E cal o).exe n S=some S') (K:Act→World→Prop) (Q:Exit→Act→World→Prop)
  (hK:∀ a' w' θ',Rel C S' θ' a' w'→a'.defers=a.defers→K a' w'):o.wp P a w K Q:=by
 unfold aop at hh
 split at hh
 ·rename_i x ho
  obtain ⟨u,hu,hk⟩:=ev_ok h hh
  exact Does.wp (Does.value (v:=a.eval x) (by simp only [execOp,ho,Sem.run_pure]) (put_ok' hk h hu)) K Q hK
 ·rename_i x ho
  obtain ⟨u,hu,hk⟩:=ev_ok h hh
  exact Does.wp (Does.value (v:=a.eval x) (by simp only [execOp,ho,Sem.run_pure]) (put_ok' hk h hu)) K Q hK
 ·rename_i c x y ho
  obtain ⟨uc,hc,h1⟩:=ev_ok h hh
  obtain ⟨ux,hx,h2⟩:=ev_ok h h1
  obtain ⟨uy,hy,h3⟩:=ev_ok h h2
  exact (opPick_ok ho h hc hx hy h3).wp K Q hK
 ·rename_i e x ho
  obtain ⟨u,hu,hk⟩:=ev_ok h hh
  exact (opBox_ok ho h hu hk).wp K Q hK
 ·rename_i e ho
  exact (opAlloc_ok ho h hh).wp K Q hK
 ·rename_i t x ho
  obtain ⟨u,hu,hk⟩:=ev_ok h hh
  obtain ⟨r,v,hr,hrun,hk2⟩:=ld_ok h hu hk
  exact Does.wp (Does.value (v:=v) (by simp only [execOp,ho,Sem.run_bind,hrun,Result.andThen_ok,Sem.run_pure]) (put_ok' hk2 h hr)) K Q hK
 ·rename_i t x y ho
  split at hh
  ·rename_i hd
   obtain ⟨u,hu,h1⟩:=ev_ok h hh
   obtain ⟨uv,hv,h2⟩:=ev_ok h h1
   obtain ⟨w',hrun,hrel⟩:=stD_ok h hu hv h2
   refine Does.wp ⟨.skip,w',by simp only [execOp,ho,Sem.run_bind,hrun,Result.andThen_ok,Sem.run_pure],.inr ⟨rfl,θ,?_⟩⟩ K Q hK
   rw [hd]
   exact hrel
  ·exact (exe_fail hh).elim
 ·rename_i s x f ho
  obtain ⟨u,hu,hk⟩:=ev_ok h hh
  exact (opFieldAddr_ok ho h hu hk).wp K Q hK
 ·rename_i s x f ho
  obtain ⟨u,hu,hk⟩:=ev_ok h hh
  exact (opField_ok ho h hu hk).wp K Q hK
 ·rename_i t x y ho
  obtain ⟨u,hu,h1⟩:=ev_ok h hh
  obtain ⟨uy,hy,h2⟩:=ev_ok h h1
  exact (opIndexAddr_ok ho h hu hy h2).wp K Q hK
 ·rename_i t x y ho
  obtain ⟨u,hu,h1⟩:=ev_ok h hh
  obtain ⟨uy,hy,h2⟩:=ev_ok h h1
  exact (opIndex_ok ho h hu hy h2).wp K Q hK
 ·rename_i x i ho
  obtain ⟨u,hu,hk⟩:=ev_ok h hh
  exact (opExtract_ok ho h hu hk).wp K Q hK
 ·rename_i t parts ho
  obtain ⟨us,hu,hk⟩:=evL_ok h hh
  exact (opBuild_ok ho h hu hk).wp K Q hK
 ·rename_i t len parts ho
  obtain ⟨us,hu,hk⟩:=evL_ok h hh
  exact (opBuildSlice_ok ho h hu hk).wp K Q hK
 ·rename_i t x lo hi mx ho
  obtain ⟨u,hu,h1⟩:=ev_ok h hh
  obtain ⟨ul,hl,h2⟩:=evO_ok h h1
  obtain ⟨uh,hhi,h3⟩:=evO_ok h h2
  obtain ⟨um,hm,h4⟩:=evO_ok h h3
  exact (opSlice_ok ho h hu hl hhi hm h4).wp K Q hK
 ·rename_i s d x ho
  obtain ⟨u,hu,hk⟩:=ev_ok h hh
  exact (opConvert_ok ho h hu hk).wp K Q hK
 ·rename_i uo t x ho
  obtain ⟨u,hu,hk⟩:=ev_ok h hh
  exact (opUn_ok ho h hu hk).wp K Q hK
 ·rename_i op t x y ty ho
  rw [hni _ _ _ _ _ ho] at hh
  obtain ⟨u,hu,h1⟩:=ev_ok h hh
  obtain ⟨uy,hy,h2⟩:=ev_ok h h1
  exact (opBin_ok ho h hu hy h2).wp K Q hK
 ·rename_i t l c ho
  obtain ⟨u,hu,h1⟩:=ev_ok h hh
  obtain ⟨uy,hy,h2⟩:=ev_ok h h1
  split at h2
  ·exact (opMake_ok ho h hu hy h2).wp K Q hK
  ·exact (opMakeS_ok ho h hu hy h2).wp K Q hK
 ·rename_i c ho
  exact aopCall_ok hcal ho h hh K Q hK
 ·rename_i x ho
  obtain ⟨u,hu,hk⟩:=ev_ok h hh
  exact (opNilCheck_ok ho h hu hk).wp K Q hK
 ·rename_i t x ho
  obtain ⟨u,hu,hk⟩:=ev_ok h hh
  exact (opS2a_ok ho h hu hk).wp K Q hK
 ·rename_i t x i two ho
  obtain ⟨u,hu,h1⟩:=ev_ok h hh
  obtain ⟨uy,hy,h2⟩:=ev_ok h h1
  exact (opLookup_ok ho h hu hy h2).wp K Q hK
 ·rename_i t x y z ho
  split at hh
  ·rename_i hd
   obtain ⟨u,hu,h1⟩:=ev_ok h hh
   obtain ⟨uy,hy,h2⟩:=ev_ok h h1
   obtain ⟨uz,hz,h3⟩:=ev_ok h h2
   exact (opMapUpdate_ok ho hd h hu hy hz h3).wp K Q hK
  ·exact (exe_fail hh).elim
 ·rename_i t x y ho
  obtain ⟨u,hu,h1⟩:=ev_ok h hh
  obtain ⟨uy,hy,h2⟩:=ev_ok h h1
  exact (opMapEntry_ok ho h hu hy h2).wp K Q hK
 ·rename_i t x y z ho
  split at hh
  ·rename_i hd
   obtain ⟨u,hu,h1⟩:=ev_ok h hh
   obtain ⟨uy,hy,h2⟩:=ev_ok h h1
   obtain ⟨uz,hz,h3⟩:=ev_ok h h2
   exact (opEntryStore_ok ho hd h hu hy hz h3).wp K Q hK
  ·exact (exe_fail hh).elim
 ·rename_i t ho
  exact (opMakeMap_ok ho h hh).wp K Q hK
 ·rename_i t x ho
  obtain ⟨u,hu,hk⟩:=ev_ok h hh
  exact (opRange_ok ho h hu hk).wp K Q hK
 ·rename_i x ho
  exact (hnx x ho).elim
 ·rename_i x ho
  obtain ⟨u,hu,hk⟩:=ev_ok h hh
  exact (opEntry_ok ho h hu hk).wp K Q hK
 ·rename_i fn first caps ho
  obtain ⟨us,hu,h1⟩:=evL_ok h hh
  obtain ⟨uc,hc,h2⟩:=evL_ok h h1
  exact (opClo_ok ho h hu hc h2).wp K Q hK
 ·exact (exe_fail hh).elim
theorem ev_det (h:Rel C S θ a w) {x:Operand} {k:AV→Pg} {N:Nat} {c:Nat} (hh:(ev C.E x k).exe ⟨N,c⟩ S=some S'):∃ u,CV w (okOf C w S θ) θ u (a.eval x)∧∀ c',(ev C.E x k).exe ⟨N,c'⟩ S=(k u).exe ⟨N,c'⟩ S:=by
 cases x with
 | tmp t=>
  refine ⟨S.slot t,?_,fun c'=>rfl⟩
  simp only [Act.eval]
  cases ht:a.tmps[t]? with
  | some v=>
   have:=h.slots t v ht
   simpa [Array.getD_eq_getD_getElem?,ht] using this
  | none=>
   have hl:a.tmps.size≤t:=by simpa using ht
   have:S.slot t=.undef:=by
    have hl' : S.tm.length≤t:=by rw [←h.len]; exact hl
    simp [St.slot,List.getD_eq_getElem?_getD,List.getElem?_eq_none hl']
   rw [this]
   trivial
 | const v=>
  simp only [ev] at hh ⊢
  split at hh
  ·rename_i u hu
   exact ⟨u,cst_ok hu,fun c'=>rfl⟩
  ·exact (exe_fail hh).elim
 | global g=>
  simp only [ev] at hh ⊢
  split at hh
  ·rename_i t ht
   exact ⟨.fp t,h.globs g t ht,fun c'=>rfl⟩
  ·exact (exe_fail hh).elim
 | func f=>exact ⟨.fn f,rfl,fun c'=>rfl⟩
theorem ask_ok {x:Operand} {k:AV→Pg} (h:Rel C S θ a w) (N:Nat) (hk:∀ u,CV w (okOf C w S θ) θ u (a.eval x)→∃ c,∀ S',(k u).exe ⟨N,c⟩ S=some S'→Does P C S' o a w) :
  ∃ c,∀ S',(ev C.E x k).exe ⟨N,c⟩ S=some S'→∀ (K:Act→World→Prop) (Q:Exit→Act→World→Prop),(∀ a' w' θ',Rel C S' θ' a' w'→a'.defers=a.defers→K a' w')→o.wp P a w K Q:=by
 by_cases hP:∃ c S',(ev C.E x k).exe ⟨N,c⟩ S=some S'
 ·obtain ⟨c0,S0,h0⟩:=hP
  obtain ⟨u,hu,he⟩:=ev_det h h0
  obtain ⟨c,hc⟩:=hk u hu
  refine ⟨c,fun S' hh K Q hK=>(hc S' ?_).wp K Q hK⟩
  rw [←he c]
  exact hh
 ·exact ⟨0,fun S' hh=>(hP ⟨0,S',hh⟩).elim⟩
theorem aop_ok {cal:FuncId→Option Cal} (hcal:∀ f c,cal f=some c→SoundCal P C.E f c) (h:Rel C S θ a w) (N:Nat):∃ c,∀ S',(aop P C.E cal o).exe ⟨N,c⟩ S=some S'→∀ (K:Act→World→Prop) (Q:Exit→Act→World→Prop),
  (∀ a' w' θ',Rel C S' θ' a' w'→a'.defers=a.defers→K a' w')→o.wp P a w K Q:=by
 by_cases hx:∃ x,o.op=.next x false
 ·obtain ⟨x,ho⟩:=hx
  have e:aop P C.E cal o=ev C.E x (opNext o):=by unfold aop; rw [ho]
  rw [e]
  exact ask_ok h N fun u hu=>opNext_ok (P:=P) (N:=N) ho h hu
 ·by_cases hy:∃ op t x y ty neg,o.op=.binOp op t x y ty∧isNilC op y=some neg
  ·obtain ⟨op,t,x,y,ty,neg,ho,hn⟩:=hy
   have e:aop P C.E cal o=ev C.E x (opIsNil P o t neg):=by
    unfold aop
    rw [ho]
    simp only
    rw [hn]
   rw [e]
   exact ask_ok h N fun u hu=>opIsNil_ok ho hn h hu
  ·refine ⟨0,fun S' hh K Q hK=>aop_ok0 hcal (fun x e=>hx ⟨x,e⟩) (fun op t x y ty e=>?_) h hh K Q hK⟩
   cases hn:isNilC op y with
   | none=>rfl
   | some neg=>exact (hy ⟨op,t,x,y,ty,neg,e,hn⟩).elim
end
end Go.Am
end
section
set_option linter.unusedVariables false
set_option linter.unusedSimpArgs false
namespace Go.Am
open Go.RowKit
def Nm.code:Nm→Nat
 | .top d=>4 * d+1
 | .mem f _=>4 * f+3
def Pg.runL (n:Nat) {R:Type}:Pg→List Nat→List Nat→St→(List Nat→List Nat→St→Option R)→Option R
 | .done,rs,ws,S,K=>K rs ws S
 | .fail,_,_,_,_=>none
 | .slot i k,rs,ws,S,K=>(k (S.slot i)).runL n ((2 * i)::rs) ws S K
 | .obj d k,rs,ws,S,K=>(k (S.obj d)).runL n (d.code::rs) ws S K
 | .setSlot i v k,rs,ws,S,K=>k.runL n rs ((2 * i)::ws) (S.setSlot i v) K
 | .setObj d o k,rs,ws,S,K=>k.runL n ((4 * d+1)::rs) ((4 * d+1)::ws) (S.setObj d o) K
 | .chk b k,rs,ws,S,K=>brO b (k.runL n rs ws S K) none
 | .call c x k,rs,ws,S,K=>(c.F n x).bind fun r=>(k r).runL n rs ws S K
 | .fam f k,rs,ws,S,K=>(k (S.fam f)).runL n ((4 * f+3)::rs) ws S K
 | .setFam f l k,rs,ws,S,K=>k.runL n ((4 * f+3)::rs) ((4 * f+3)::ws) (S.setFam f l) K
 | .ask _ _,_,_,_,_=>none
 | .br b p q,rs,ws,S,K=>brO b (p.runL n rs ws S K) (q.runL n rs ws S K)
def gslot (ops:List Oper) (g:Nat):Option Nat:=(ops[g]?).bind (·.dst)
def gop (P:Program) (E:Env) (cal:FuncId→Option Cal) (ops:List Oper) (o:Oper):Pg:=
 match o.guard with
 | none=>aop P E cal o
 | some (g,want)=>match gslot ops g with
  | some t=>.slot t fun v=>match v with
   | .bool b=>match b,want with
    | true,true=>aop P E cal o
    | false,false=>aop P E cal o
    | true,false=>put o (.tup [])
    | false,true=>put o (.tup [])
   | .tup []=>put o (.tup [])
   | _=>.fail
  | none=>.fail
def isGuard (ops:List Oper) (i:Nat):Bool:=ops.any fun o=>match o.guard with | some (g,_)=>Nat.beq g i | none=>false
def split {R:Type} (ops:List Oper) (i:Nat) (o:Oper) (S:St) (K:St→Option R):Option R:=
 match isGuard ops i,o.dst with
 | true,some d=>match S.slot d with
  | .bool b=>brO b (K (S.setSlot d (.bool true))) (K (S.setSlot d (.bool false)))
  | _=>K S
 | _,_=>K S
def runOps (n:Nat) (P:Program) (E:Env) (cal:FuncId→Option Cal) (ops:List Oper) {R:Type}:Nat→List Oper→List (List Nat × List Nat)→St→(List (List Nat × List Nat)→St→Option R)→Option R
 | _,[],lg,S,K=>K lg S
 | i,o::os,lg,S,K=>(gop P E cal ops o).runL n [] [] S fun rs ws S'=>split ops i o S' fun S''=>runOps n P E cal ops (i+1) os ((rs,ws)::lg) S'' K
def meets (xs ys:List Nat):Bool:=xs.any fun x=>ys.any fun y=>Nat.beq x y
def clash (x y:List Nat × List Nat):Bool:=meets x.2 y.1 || (meets x.2 y.2 || meets y.2 x.1)
def maskOf (acc:List Nat) (es:List Edge):Nat:=es.foldr (fun e m=>match Region.binds .any e with | true=>(2 ^ e.on ||| acc.getD e.on 0) ||| m | false=>m) 0
def masks:List Oper→List Nat→List Nat
 | [],acc=>acc
 | o::os,acc=>masks os (acc++[maskOf acc o.after.toList])
def orderedAt (ms:List Nat) (x:List Nat × List Nat) (j m:Nat):Nat→List (List Nat × List Nat)→Bool
 | _,[]=>true
 | i,y::ys=>(match Nat.blt i j with | true=>(match clash y x with | true=>m.testBit i | false=>true) | false=>true) && orderedAt ms x j m (i+1) ys
def orderedFrom (ms:List Nat) (all:List (List Nat × List Nat)):Nat→List (List Nat × List Nat)→Bool
 | _,[]=>true
 | j,x::xs=>orderedAt ms x j (ms.getD j 0) 0 all && orderedFrom ms all (j+1) xs
def backB:Nat→List Oper→Bool
 | _,[]=>true
 | j,o::os=>o.after.toList.all (fun e=>match Region.binds .any e with | true=>Nat.blt e.on j | false=>true) && backB (j+1) os
def ordered (ops:List Oper) (lg:List (List Nat × List Nat)):Bool:=backB 0 ops && orderedFrom (masks ops []) lg 0 lg
noncomputable def runSeq (n:Nat) (P:Program) (E:Env) (cal:FuncId→Option Cal) (ops:List Oper) {R:Type}:Nat→List Oper→St→(St→Option R)→Option R
 | _,[],S,K=>K S
 | i,o::os,S,K=>(gop P E cal ops o).run n S fun S'=>split ops i o S' fun S''=>runSeq n P E cal ops (i+1) os S'' K
noncomputable def runReg (n:Nat) (P:Program) (E:Env) (cal:FuncId→Option Cal) (ops:List Oper) (draw:Bool) {R:Type} (S:St) (K:St→Option R):Option R:=
 match draw with
 | false=>runSeq n P E cal ops 0 ops S K
 | true=>runOps n P E cal ops 0 ops [] S fun lg S'=>match ordered ops lg.reverse with
   | true=>K S'
   | false=>none
def St.val (S:St) (p:Nat):AV × (Option Ob × Option Fam):=
 if p % 2=0 then (S.slot (p / 2),none,none) else if p % 4=1 then (.undef,S.obj (.top (p / 4)),none) else (.undef,none,S.fam (p / 4))
theorem val_slot (S:St) (i:Nat):S.val (2 * i)=(S.slot i,none,none):=by simp [St.val]
theorem val_top (S:St) (d:Nat):S.val (4 * d+1)=(.undef,S.obj (.top d),none):=by
 have h1:(4 * d+1) % 2=1:=by omega
 have h2:(4 * d+1) / 4=d:=by omega
 have h3:(4 * d+1) % 4=1:=by omega
 simp [St.val,h1,h2,h3]
theorem val_fam (S:St) (f:Nat):S.val (4 * f+3)=(.undef,none,S.fam f):=by
 have h1:(4 * f+3) % 2=1:=by omega
 have h2:(4 * f+3) / 4=f:=by omega
 have h3:(4 * f+3) % 4=3:=by omega
 simp [St.val,h1,h2,h3]
theorem place (p:Nat):(∃ i,p=2 * i)∨(∃ d,p=4 * d+1)∨∃ f,p=4 * f+3:=by
 have h:p % 4=0∨p % 4=1∨p % 4=2∨p % 4=3:=by omega
 rcases h with h | h | h | h
 ·exact .inl ⟨p / 2,by omega⟩
 ·exact .inr (.inl ⟨p / 4,by omega⟩)
 ·exact .inl ⟨p / 2,by omega⟩
 ·exact .inr (.inr ⟨p / 4,by omega⟩)
theorem fam_of_val {S T:St} {f:Nat} (h:T.val (4 * f+3)=S.val (4 * f+3)):T.fam f=S.fam f:=by
 rw [val_fam,val_fam] at h
 exact (Prod.mk.inj (Prod.mk.inj h).2).2
theorem obj_of_fam {S T:St} {f i:Nat} (h:T.fam f=S.fam f):T.obj (.mem f i)=S.obj (.mem f i):=by
 have h:lookF T.fm f=lookF S.fm f:=h
 simp only [St.obj,h]
theorem obj_of_val {S T:St} {d:Nm} (h:T.val d.code=S.val d.code):T.obj d=S.obj d:=by
 cases d with
 | top d=>
  rw [Nm.code,val_top,val_top] at h
  exact (Prod.mk.inj (Prod.mk.inj h).2).1
 | mem f i=>exact obj_of_fam (fam_of_val h)
def Loc (n:Rp) (p:Pg) (S S' : St) (R W:List Nat):Prop:=
 S'.tm.length=S.tm.length∧(∀ q,q ∉ W→S'.val q=S.val q)∧
 ∀ T:St,T.tm.length=S.tm.length→(∀ q∈R,T.val q=S.val q)→∃ T',p.exe n T=some T'∧T'.tm.length=T.tm.length∧(∀ q∈W,T'.val q=S'.val q)∧∀ q,q ∉ W→T'.val q=T.val q
theorem val_setSlot {S:St} {i:Nat} {v:AV} {q:Nat} (h:q≠2 * i):(S.setSlot i v).val q=S.val q:=by
 rcases place q with ⟨j,rfl⟩ | ⟨d,rfl⟩ | ⟨f,rfl⟩
 ·rw [val_slot,val_slot,slot_setSlot_other _ _ _ _ (by omega)]
 ·rw [val_top,val_top]; rfl
 ·rw [val_fam,val_fam]; rfl
theorem val_setSlot_same {S T:St} {i:Nat} {v:AV} (h:T.tm.length=S.tm.length):(T.setSlot i v).val (2 * i)=(S.setSlot i v).val (2 * i):=by
 rw [val_slot,val_slot]
 by_cases hi:i<S.tm.length
 ·rw [slot_setSlot_same _ _ _ hi,slot_setSlot_same _ _ _ (by rw [h]; exact hi)]
 ·have h1:S.tm.length≤i:=by omega
  have h2:T.tm.length≤i:=by omega
  simp [St.slot,St.setSlot,List.getD_eq_getElem?_getD,h1,h2]
theorem val_setObj {S:St} {d:Nat} {o:Ob} {q:Nat} (h:q≠4 * d+1):(S.setObj d o).val q=S.val q:=by
 rcases place q with ⟨j,rfl⟩ | ⟨e,rfl⟩ | ⟨f,rfl⟩
 ·rw [val_slot,val_slot]; rfl
 ·have hne:Nm.top e≠.top d:=fun he=>h (by cases he; rfl)
  rw [val_top,val_top,obj_setObj_other _ _ _ _ hne]
 ·rw [val_fam,val_fam]; rfl
theorem val_setObj_same {S T:St} {d:Nat} {o:Ob}:(T.setObj d o).val (4 * d+1)=(S.setObj d o).val (4 * d+1):=by
 rw [val_top,val_top,obj_setObj_same,obj_setObj_same]
theorem val_setFam {S:St} {f:Nat} {l:List AV} {q:Nat} (h:q≠4 * f+3):(S.setFam f l).val q=S.val q:=by
 rcases place q with ⟨j,rfl⟩ | ⟨e,rfl⟩ | ⟨g,rfl⟩
 ·rw [val_slot,val_slot]; rfl
 ·rw [val_top,val_top]; rfl
 ·rw [val_fam,val_fam,fam_setFam_other (fun e=>h (by rw [e]))]
theorem lookF_setF_none {l:List (Nat × Fam)} {f:Nat} {x:List AV} (h:lookF l f=none):lookF (setF l f x) f=none:=by
 induction l with
 | nil=>rfl
 | cons y r ih=>
  simp only [lookF] at h
  simp only [setF]
  cases hb:Nat.beq f y.1 with
  | true=>rw [hb] at h; cases h
  | false=>rw [hb] at h; simp only [lookF,hb]; exact ih h
theorem val_setFam_same {S T:St} {f:Nat} {l:List AV} (h:T.val (4 * f+3)=S.val (4 * f+3)):(T.setFam f l).val (4 * f+3)=(S.setFam f l).val (4 * f+3):=by
 have h1:=fam_of_val h
 rw [val_fam,val_fam]
 cases hF:S.fam f with
 | none=>
  have e1:(T.setFam f l).fam f=none:=lookF_setF_none (h1.trans hF)
  have e2:(S.setFam f l).fam f=none:=lookF_setF_none hF
  rw [e1,e2]
 | some F=>rw [fam_setFam_same (h1.trans hF),fam_setFam_same hF]
theorem len_setSlot (S:St) (i:Nat) (v:AV):(S.setSlot i v).tm.length=S.tm.length:=by simp [St.setSlot]
theorem runL_spec {n:Nat} {R:Type}:∀ (p:Pg) (rs ws:List Nat) (S:St) (K:List Nat→List Nat→St→Option R) (x:R),p.runL n rs ws S K=some x→
  ∃ rs' ws' S',K (rs'++rs) (ws'++ws) S' = some x∧∀ c,Loc ⟨n,c⟩ p S S' rs' ws'
 | .done,rs,ws,S,K,x,h=>⟨[],[],S,h,fun c=>⟨rfl,fun _ _=>rfl,fun T hl _=>⟨T,rfl,rfl,by simp,fun _ _=>rfl⟩⟩⟩
 | .fail,rs,ws,S,K,x,h=>by cases h
 | .ask m k,rs,ws,S,K,x,h=>by cases h
 | .slot i k,rs,ws,S,K,x,h=>by
  obtain ⟨rs',ws',S',hk,hl⟩:=runL_spec (k (S.slot i)) _ _ S K x h
  refine ⟨rs'++[2 * i],ws',S',by simpa using hk,fun c=>?_⟩
  obtain ⟨hl,hf,hc⟩:=hl c
  refine ⟨hl,hf,fun T hT hR=>?_⟩
  have e:T.slot i=S.slot i:=by
   have:=hR (2 * i) (by simp)
   rw [val_slot,val_slot] at this
   exact (Prod.mk.inj this).1
  obtain ⟨T',h1,h2⟩:=hc T hT (fun q hq=>hR q (by simp [hq]))
  exact ⟨T',by show (k (T.slot i)).exe ⟨n,c⟩ T=_; rw [e]; exact h1,h2⟩
 | .obj d k,rs,ws,S,K,x,h=>by
  obtain ⟨rs',ws',S',hk,hl⟩:=runL_spec (k (S.obj d)) _ _ S K x h
  refine ⟨rs'++[d.code],ws',S',by simpa using hk,fun c=>?_⟩
  obtain ⟨hl,hf,hc⟩:=hl c
  refine ⟨hl,hf,fun T hT hR=>?_⟩
  have e:T.obj d=S.obj d:=obj_of_val (hR d.code (by simp))
  obtain ⟨T',h1,h2⟩:=hc T hT (fun q hq=>hR q (by simp [hq]))
  exact ⟨T',by show (k (T.obj d)).exe ⟨n,c⟩ T=_; rw [e]; exact h1,h2⟩
 | .fam f k,rs,ws,S,K,x,h=>by
  obtain ⟨rs',ws',S',hk,hl⟩:=runL_spec (k (S.fam f)) _ _ S K x h
  refine ⟨rs'++[4 * f+3],ws',S',by simpa using hk,fun c=>?_⟩
  obtain ⟨hl,hf,hc⟩:=hl c
  refine ⟨hl,hf,fun T hT hR=>?_⟩
  have e:T.fam f=S.fam f:=fam_of_val (hR (4 * f+3) (by simp))
  obtain ⟨T',h1,h2⟩:=hc T hT (fun q hq=>hR q (by simp [hq]))
  exact ⟨T',by show (k (T.fam f)).exe ⟨n,c⟩ T=_; rw [e]; exact h1,h2⟩
 | .setSlot i v k,rs,ws,S,K,x,h=>by
  obtain ⟨rs',ws',S',hk,hl⟩:=runL_spec k _ _ (S.setSlot i v) K x h
  refine ⟨rs',ws'++[2 * i],S',by simpa using hk,fun c=>?_⟩
  obtain ⟨hl,hf,hc⟩:=hl c
  rw [len_setSlot] at hl
  refine ⟨hl,fun q hq=>?_,fun T hT hR=>?_⟩
  ·simp only [List.mem_append,List.mem_singleton,not_or] at hq
   rw [hf q hq.1,val_setSlot hq.2]
  ·obtain ⟨T',h1,h2,h3,h4⟩:=hc (T.setSlot i v) (by rw [len_setSlot,len_setSlot]; exact hT) (fun q hq=>by
    by_cases hqi:q=2 * i
    ·subst hqi; exact val_setSlot_same hT
    ·rw [val_setSlot hqi,val_setSlot hqi,hR q hq])
   refine ⟨T',h1,by rw [h2,len_setSlot],fun q hq=>?_,fun q hq=>?_⟩
   ·by_cases hw:q∈ws'
    ·exact h3 q hw
    ·simp only [List.mem_append,hw,List.mem_singleton,false_or] at hq
     subst hq
     rw [h4 _ hw,hf _ hw]
     exact val_setSlot_same hT
   ·simp only [List.mem_append,List.mem_singleton,not_or] at hq
    rw [h4 q hq.1,val_setSlot hq.2]
 | .setObj d o k,rs,ws,S,K,x,h=>by
  obtain ⟨rs',ws',S',hk,hl⟩:=runL_spec k _ _ (S.setObj d o) K x h
  refine ⟨rs'++[4 * d+1],ws'++[4 * d+1],S',by simpa using hk,fun c=>?_⟩
  obtain ⟨hl,hf,hc⟩:=hl c
  refine ⟨hl,fun q hq=>?_,fun T hT hR=>?_⟩
  ·simp only [List.mem_append,List.mem_singleton,not_or] at hq
   rw [hf q hq.1,val_setObj hq.2]
  ·obtain ⟨T',h1,h2,h3,h4⟩:=hc (T.setObj d o) hT (fun q hq=>by
    by_cases hqi:q=4 * d+1
    ·subst hqi; exact val_setObj_same
    ·rw [val_setObj hqi,val_setObj hqi,hR q (by simp [hq])])
   refine ⟨T',h1,h2,fun q hq=>?_,fun q hq=>?_⟩
   ·by_cases hw:q∈ws'
    ·exact h3 q hw
    ·simp only [List.mem_append,hw,List.mem_singleton,false_or] at hq
     subst hq
     rw [h4 _ hw,hf _ hw]
     exact val_setObj_same
   ·simp only [List.mem_append,List.mem_singleton,not_or] at hq
    rw [h4 q hq.1,val_setObj hq.2]
 | .setFam f l k,rs,ws,S,K,x,h=>by
  obtain ⟨rs',ws',S',hk,hl⟩:=runL_spec k _ _ (S.setFam f l) K x h
  refine ⟨rs'++[4 * f+3],ws'++[4 * f+3],S',by simpa using hk,fun c=>?_⟩
  obtain ⟨hl,hf,hc⟩:=hl c
  refine ⟨hl,fun q hq=>?_,fun T hT hR=>?_⟩
  ·simp only [List.mem_append,List.mem_singleton,not_or] at hq
   rw [hf q hq.1,val_setFam hq.2]
  ·have hTd:=hR (4 * f+3) (by simp)
   obtain ⟨T',h1,h2,h3,h4⟩:=hc (T.setFam f l) hT (fun q hq=>by
    by_cases hqi:q=4 * f+3
    ·subst hqi; exact val_setFam_same hTd
    ·rw [val_setFam hqi,val_setFam hqi,hR q (by simp [hq])])
   refine ⟨T',h1,h2,fun q hq=>?_,fun q hq=>?_⟩
   ·by_cases hw:q∈ws'
    ·exact h3 q hw
    ·simp only [List.mem_append,hw,List.mem_singleton,false_or] at hq
     subst hq
     rw [h4 _ hw,hf _ hw]
     exact val_setFam_same hTd
   ·simp only [List.mem_append,List.mem_singleton,not_or] at hq
    rw [h4 q hq.1,val_setFam hq.2]
 | .chk b k,rs,ws,S,K,x,h=>by
  cases b with
  | false=>cases h
  | true=>
   obtain ⟨rs',ws',S',hk,hl⟩:=runL_spec k _ _ S K x h
   exact ⟨rs',ws',S',hk,hl⟩
 | .br b p q,rs,ws,S,K,x,h=>by
  cases b with
  | false=>
   obtain ⟨rs',ws',S',hk,hl⟩:=runL_spec q _ _ S K x h
   exact ⟨rs',ws',S',hk,hl⟩
  | true=>
   obtain ⟨rs',ws',S',hk,hl⟩:=runL_spec p _ _ S K x h
   exact ⟨rs',ws',S',hk,hl⟩
 | .call c y k,rs,ws,S,K,x,h=>by
  simp only [Pg.runL] at h
  cases hF:c.F n y with
  | none=>rw [hF] at h; cases h
  | some r=>
   rw [hF] at h
   obtain ⟨rs',ws',S',hk,hl⟩:=runL_spec (k r) _ _ S K x h
   refine ⟨rs',ws',S',hk,fun cc=>?_⟩
   obtain ⟨hl,hf,hc⟩:=hl cc
   refine ⟨hl,hf,fun T hT hR=>?_⟩
   obtain ⟨T',h1,h2⟩:=hc T hT hR
   exact ⟨T',by simp only [Pg.exe,hF,Option.bind_some]; exact h1,h2⟩
theorem setSlot_self (S:St) (d:Nat):S.setSlot d (S.slot d)=S:=by
 obtain ⟨tm,ob,fm⟩:=S
 simp only [St.setSlot,St.slot,St.mk.injEq,and_true]
 apply List.ext_getElem?
 intro i
 by_cases h:d=i
 ·subst h
  by_cases hi:d<tm.length
  ·simp [hi]
  ·simp [Nat.le_of_not_lt hi]
 ·rw [List.getElem?_set_ne h]
theorem split_spec {R:Type} {ops:List Oper} {i:Nat} {o:Oper} {S:St} {K:St→Option R} {x:R} (h:split ops i o S K=some x):K S=some x:=by
 unfold split at h
 split at h
 ·rename_i d _ hd
  split at h
  ·rename_i b hb
   cases b with
   | true=>rw [←hb,setSlot_self] at h; exact h
   | false=>simp only [brO] at h; rw [←hb,setSlot_self] at h; exact h
  ·exact h
 ·exact h
theorem runOps_spec {n:Nat} {P:Program} {E:Env} {cal:FuncId→Option Cal} {ops:List Oper} {R:Type}:∀ (os:List Oper) (i:Nat) (lg:List (List Nat × List Nat)) (S:St) (K:List (List Nat × List Nat)→St→Option R) (x:R),
  runOps n P E cal ops i os lg S K=some x→∃ (Ss:Nat→St) (lgs:List (List Nat × List Nat)),K (lgs.reverse++lg) (Ss os.length)=some x∧lgs.length=os.length∧Ss 0=S∧
   ∀ k o,os[k]? = some o→∃ R W,lgs[k]? = some (R,W)∧∀ c,Loc ⟨n,c⟩ (gop P E cal ops o) (Ss k) (Ss (k+1)) R W
 | [],i,lg,S,K,x,h=>⟨fun _=>S,[],h,rfl,rfl,fun k o hk=>by simp at hk⟩
 | o::os,i,lg,S,K,x,h=>by
  obtain ⟨rs,ws,S',h1,hloc⟩:=runL_spec _ _ _ _ _ _ h
  have h2:=split_spec h1
  obtain ⟨Ss,lgs,h3,h4,h5,h6⟩:=runOps_spec os (i+1) _ S' K x h2
  refine ⟨fun k=>match k with | 0=>S | k+1=>Ss k,(rs,ws)::lgs,by simpa using h3,by simp [h4],rfl,fun k o' hk=>?_⟩
  cases k with
  | zero=>
   simp only [List.getElem?_cons_zero,Option.some.injEq] at hk
   subst hk
   exact ⟨rs,ws,rfl,by simpa [h5] using hloc⟩
  | succ k=>
   simp only [List.getElem?_cons_succ] at hk
   exact h6 k o' hk
theorem Loc.self {n:Rp} {p:Pg} {S S' : St} {R W:List Nat} (h:Loc n p S S' R W):∃ T',p.exe n S=some T'∧T'.tm.length=S'.tm.length∧∀ q,T'.val q=S'.val q:=by
 obtain ⟨h1,h2,h3⟩:=h
 obtain ⟨T',k1,k2,k3,k4⟩:=h3 S rfl (fun _ _=>rfl)
 refine ⟨T',k1,k2.trans h1.symm,fun q=>?_⟩
 by_cases hq:q∈W
 ·exact k3 q hq
 ·rw [k4 q hq,h2 q hq]
section
variable {C:Ctx} {S S' T:St} {θ θ' : Nm→Option Value} {a:Act} {w w' : World} {n:Rp} {P:Program} {o:Oper}
theorem Rel.congr (h:Rel C S θ a w) (hl:T.tm.length=S.tm.length) (hv:∀ q,T.val q=S.val q):Rel C T θ a w:=by
 have hs:∀ i,T.slot i=S.slot i:=fun i=>by
  have:=hv (2 * i)
  rw [val_slot,val_slot] at this
  exact (Prod.mk.inj this).1
 have ho:∀ d,T.obj d=S.obj d:=fun d=>obj_of_val (hv d.code)
 have hF:∀ f,T.fam f=S.fam f:=fun f=>fam_of_val (hv (4 * f+3))
 have hh:∀ d,T.has d↔S.has d:=fun d=>by
  cases d with
  | top d=>show T.obj (.top d)≠none↔S.obj (.top d)≠none; rw [ho]
  | mem f i=>simp only [St.has,hF]
 have hB:∀ b,OwnB T θ b↔OwnB S θ b:=fun b=>by simp only [OwnB,ho]
 have hk:okOf C w T θ=okOf C w S θ:=by funext b; simp only [okOf,hB]
 refine ⟨by rw [hl]; exact h.len,fun i v hi=>?_,fun d o hd1 hd=>?_,fun d hd=>?_,fun d d' o o' v v' b h1 h2=>?_,h.os,h.tape,h.output,h.size,h.frame,fun g t hg=>?_,h.base,h.pin⟩
 ·rw [hs,hk]; exact h.slots i v hi
 ·rw [hk]; rw [ho] at hd; exact h.objs d o ((hh d).1 hd1) hd
 ·exact h.fresh d (fun hx=>hd ((hh d).2 hx))
 ·rw [ho] at h1 h2; exact h.sep d d' o o' v v' b h1 h2
 ·rw [hk]; exact h.globs g t hg
theorem skip_ok (hh:(put o (.tup [])).exe n S=some S') (h:Rel C S θ a w):Rel C S' θ (a.put o.dst undef) w:=
 put_ok' hh h ⟨#[],rfl,rfl⟩
theorem gop_ok {cal:FuncId→Option Cal} (hcal:∀ f c,cal f=some c→SoundCal P C.E f c) {ops:Array Oper} (h:Rel C S θ a w) (N:Nat):∃ c,∀ S',(gop P C.E cal ops.toList o).exe ⟨N,c⟩ S=some S'→∀ (K:Act→World→Prop) (Q:Exit→Act→World→Prop),
  (∀ a' w' θ',Rel C S' θ' a' w'→a'.defers=a.defers→K a' w')→
  (Region.wanted o (yielded ops a.tmps)=true∧o.wp P a w K Q)∨(Region.wanted o (yielded ops a.tmps)=false∧K (a.put o.dst undef) w):=by
 obtain ⟨c,hc⟩:=aop_ok (o:=o) hcal h N
 refine ⟨c,fun S' hh K Q hK=>?_⟩
 unfold gop at hh
 unfold Region.wanted
 split at hh
 ·rename_i hg
  rw [hg]
  exact .inl ⟨rfl,hc S' hh K Q hK⟩
 ·rename_i g want hg
  rw [hg]
  split at hh
  ·rename_i t ht
   have hh:=exe_slot hh
   have hy:yielded ops a.tmps g=match a.tmps[t]? with | some (.bool b)=>some b | _=>none:=by
    unfold yielded gslot at *
    rw [Array.getElem?_toList] at ht
    rw [ht]
    rfl
   dsimp only at hh ⊢
   split at hh
   ·rename_i b hb
    have hlt:t<a.tmps.size:=by
     rw [h.len]
     rcases Nat.lt_or_ge t S.tm.length with h1 | h1
     ·exact h1
     ·simp [St.slot,List.getD_eq_getElem?_getD,h1] at hb
    have hv:=h.slots t _ (Array.getElem?_eq_getElem hlt)
    rw [hb] at hv
    have hv:a.tmps[t]=.bool b:=hv
    rw [Array.getElem?_eq_getElem hlt,hv] at hy
    dsimp only at hy
    rw [hy]
    cases b <;> cases want
    ·exact .inl ⟨rfl,hc S' hh K Q hK⟩
    ·exact .inr ⟨rfl,hK _ _ θ (skip_ok hh h) (put_defers _ _ _)⟩
    ·exact .inr ⟨rfl,hK _ _ θ (skip_ok hh h) (put_defers _ _ _)⟩
    ·exact .inl ⟨rfl,hc S' hh K Q hK⟩
   ·rename_i hb
    have:yielded ops a.tmps g=none:=by
     rw [hy]
     cases ht' : a.tmps[t]? with
     | none=>rfl
     | some v=>
      have hv:=h.slots t v ht'
      rw [hb] at hv
      obtain ⟨us,rfl,_⟩:=hv
      rfl
    rw [this]
    exact .inr ⟨by cases want <;> rfl,hK _ _ θ (skip_ok hh h) (put_defers _ _ _)⟩
   ·exact (exe_fail hh).elim
  ·exact (exe_fail hh).elim
theorem gop_wpOp {cal:FuncId→Option Cal} (hcal:∀ f c,cal f=some c→SoundCal P C.E f c) {ops:Array Oper} {i:Nat} (hi:ops[i]? = some o) (h:Rel C S θ a w) (N:Nat):∃ c,∀ S',(gop P C.E cal ops.toList o).exe ⟨N,c⟩ S=some S'→∀ (K:Act→World→Prop) (Q:Exit→Act→World→Prop),
  (∀ a' w' θ',Rel C S' θ' a' w'→a'.defers=a.defers→K a' w')→wpOp P ops Q i K a w:=by
 obtain ⟨c,hc⟩:=gop_ok (o:=o) (ops:=ops) hcal h N
 refine ⟨c,fun S' hh K Q hK=>?_⟩
 unfold wpOp
 rw [hi]
 dsimp only
 rcases hc S' hh K Q hK with ⟨h1,h2⟩ | ⟨h1,h2⟩
 ·rw [if_pos h1]; exact .inl h2
 ·rw [if_neg (by simp [h1])]; exact h2
theorem getD_append_left {l r:List Nat} {i:Nat} (h:i<l.length):(l++r).getD i 0=l.getD i 0:=by
 simp [List.getD_eq_getElem?_getD,List.getElem?_append_left h]
theorem maskOf_bit {acc:List Nat} {b:Nat→Prop} (hacc:∀ k i,b k→(acc.getD k 0).testBit i=true→b i):∀ (es:List Edge),(∀ e∈es,Region.binds .any e=true→b e.on)→∀ i,(maskOf acc es).testBit i=true→b i
 | [],_,i,h=>by simp [maskOf] at h
 | e::es,he,i,h=>by
  have ih:=maskOf_bit hacc es (fun e' h'=>he e' (by simp [h'])) i
  simp only [maskOf,List.foldr_cons] at h
  split at h
  ·rename_i hb
   have hon:=he e (by simp) hb
   simp only [Nat.testBit_or,Bool.or_eq_true,Nat.testBit_two_pow,decide_eq_true_eq] at h
   rcases h with (h | h) | h
   ·exact h ▸ hon
   ·exact hacc _ _ hon h
   ·exact ih h
  ·exact ih h
theorem masks_spec {b:Nat→Prop}:∀ (os:List Oper) (acc:List Nat),(∀ (k:Nat) (o:Oper),os[k]? = some o→b (acc.length+k)→∀ e∈o.after,Region.binds .any e=true→b e.on)→
  (∀ k i,b k→(acc.getD k 0).testBit i=true→b i)→∀ k i,b k→((masks os acc).getD k 0).testBit i=true→b i
 | [],acc,_,hacc=>hacc
 | o::os,acc,hos,hacc=>by
  refine masks_spec os (acc++[maskOf acc o.after.toList]) (fun k o' hk hb=>?_) (fun k i hk hi=>?_)
  ·refine hos (k+1) o' hk ?_
   simpa [Nat.add_assoc,Nat.add_comm 1 k] using hb
  ·rcases Nat.lt_trichotomy k acc.length with h | h | h
   ·rw [getD_append_left h] at hi
    exact hacc k i hk hi
   ·subst h
    simp only [List.getD_eq_getElem?_getD,List.getElem?_concat_length,Option.getD_some] at hi
    exact maskOf_bit hacc _ (fun e he hb=>hos 0 o rfl hk e (by simpa using he) hb) i hi
   ·simp [List.getD_eq_getElem?_getD,List.getElem?_append_right (Nat.le_of_lt h),show ¬ (k - acc.length=0) by omega] at hi
theorem meets_false {xs ys:List Nat} (h:meets xs ys=false) {q:Nat} (h1:q∈xs) (h2:q∈ys):False:=by
 simp only [meets,List.any_eq_false] at h
 have:=h q h1
 simp only [List.any_eq_true,not_exists,not_and,Nat.beq_eq] at this
 exact this q h2 rfl
theorem orderedAt_spec {ms:List Nat} {x:List Nat × List Nat} {j m:Nat}:∀ (ys:List (List Nat × List Nat)) (i:Nat),orderedAt ms x j m i ys=true→∀ k y,ys[k]? = some y→i+k<j→clash y x=true→m.testBit (i+k)=true
 | [],i,_,k,y,hk,_,_=>by simp at hk
 | z::ys,i,h,k,y,hk,hlt,hc=>by
  simp only [orderedAt,Bool.and_eq_true] at h
  cases k with
  | zero=>
   simp only [List.getElem?_cons_zero,Option.some.injEq] at hk
   subst hk
   have h1:Nat.blt i j=true:=by simpa using hlt
   have h2:=h.1
   rw [h1,hc] at h2
   simpa using h2
  | succ k=>
   have:=orderedAt_spec ys (i+1) h.2 k y hk (by omega) hc
   rwa [show i+1+k=i+(k+1) by omega] at this
theorem orderedFrom_spec {ms:List Nat} {all:List (List Nat × List Nat)}:∀ (xs:List (List Nat × List Nat)) (j:Nat),orderedFrom ms all j xs=true→∀ k x,xs[k]? = some x→∀ i y,all[i]? = some y→i<j+k→clash y x=true→(ms.getD (j+k) 0).testBit i=true
 | [],j,_,k,x,hk=>by simp at hk
 | z::xs,j,h,k,x,hk=>by
  simp only [orderedFrom,Bool.and_eq_true] at h
  cases k with
  | zero=>
   simp only [List.getElem?_cons_zero,Option.some.injEq] at hk
   subst hk
   intro i y hi hlt hc
   have:=orderedAt_spec all 0 h.1 i y hi (by simpa using hlt) hc
   simpa using this
  | succ k=>
   intro i y hi hlt hc
   have:=orderedFrom_spec xs (j+1) h.2 k x hk i y hi (by omega) hc
   rwa [show j+1+k=j+(k+1) by omega] at this
theorem backB_spec:∀ (os:List Oper) (j:Nat),backB j os=true→∀ (k:Nat) (o:Oper),os[k]? = some o→∀ e∈o.after,Region.binds .any e=true→e.on<j+k
 | [],j,_,k,o,hk=>by simp at hk
 | z::os,j,h,k,o,hk=>by
  simp only [backB,Bool.and_eq_true] at h
  cases k with
  | zero=>
   simp only [List.getElem?_cons_zero,Option.some.injEq] at hk
   subst hk
   intro e he hb
   have:=List.all_eq_true.1 h.1 e (by simpa using he)
   rw [hb] at this
   simpa using this
  | succ k=>
   intro e he hb
   have:=backB_spec os (j+1) h.2 k o hk e he hb
   omega
theorem least {p:Nat→Prop}:∀ n,p n→∃ m,p m∧∀ k,k<m→¬ p k:=by
 intro n
 induction n using Nat.strongRecOn with
 | _ n ih=>
  intro h
  by_cases hk:∃ k,k<n∧p k
  ·obtain ⟨k,h1,h2⟩:=hk
   exact ih k h1 h2
  ·exact ⟨n,h,fun k h1 h2=>hk ⟨k,h1,h2⟩⟩
def vAt (Ss:Nat→St) (W:Nat→List Nat) (b:Nat→Bool) (q:Nat):Nat→AV × (Option Ob × Option Fam)
 | 0=>(Ss 0).val q
 | k+1=>if b k=true∧q∈W k then (Ss (k+1)).val q else vAt Ss W b q k
section
variable {Ss:Nat→St} {W:Nat→List Nat} {b b' : Nat→Bool} {q:Nat}
theorem vAt_all {N:Nat} (hf:∀ k,k<N→∀ q,q ∉ W k→(Ss (k+1)).val q=(Ss k).val q):∀ k,k≤N→(∀ j,j<k→q∈W j→b j=true)→vAt Ss W b q k=(Ss k).val q
 | 0,_,_=>rfl
 | k+1,hk,h=>by
  simp only [vAt]
  split
  ·rfl
  ·rename_i hc
   have hq:q ∉ W k:=fun hq=>hc ⟨h k (by omega) hq,hq⟩
   rw [vAt_all hf k (by omega) (fun j hj=>h j (by omega)),hf k (by omega) q hq]
theorem vAt_none {i:Nat}:∀ k,i≤k→(∀ j,i≤j→j<k→q∈W j→b j=false)→vAt Ss W b q k=vAt Ss W b q i
 | 0,hk,_=>by rw [show i=0 by omega]
 | k+1,hk,h=>by
  by_cases e:i=k+1
  ·rw [e]
  ·simp only [vAt]
   split
   ·rename_i hc
    rw [h k (by omega) (by omega) hc.2] at hc
    cases hc.1
   ·exact vAt_none k (by omega) (fun j h1 h2=>h j h1 (by omega))
theorem vAt_congr:∀ k,(∀ j,j<k→q∈W j→b j=b' j)→vAt Ss W b q k=vAt Ss W b' q k
 | 0,_=>rfl
 | k+1,h=>by
  simp only [vAt]
  rw [vAt_congr k (fun j hj=>h j (by omega))]
  by_cases hq:q∈W k
  ·rw [h k (by omega) hq]
  ·simp [hq]
end
theorem any_ok {N:Nat} {cal:FuncId→Option Cal} (hcal:∀ f c,cal f=some c→SoundCal P C.E f c) {ops:Array Oper} {Q:Exit→Act→World→Prop} {Ss:Nat→St} {lgs:List (List Nat × List Nat)}
  (hlen:lgs.length=ops.size) (hord:ordered ops.toList lgs=true)
  (hp:∀ (k:Nat) (o:Oper),ops[k]? = some o→∃ R W,lgs[k]? = some (R,W)∧∀ c,Loc ⟨N,c⟩ (gop P C.E cal ops.toList o) (Ss k) (Ss (k+1)) R W)
  {df:List Deferred} (hQ:∀ a' w' θ',Rel C (Ss ops.size) θ' a' w'→a'.defers=df→Q .normal a' w') :
  ∀ (fuel:Nat) (l:List Nat) (listed:Array Bool) (T:St) (θ:Nm→Option Value) (a:Act) (w:World),l.Nodup→l.length=fuel→listed.size=ops.size→(∀ j,j∈l↔j<ops.size∧listed.getD j true=false)→
   (∀ (j:Nat) (o:Oper),ops[j]? = some o→listed.getD j false=true→∀ e∈o.after,Region.binds .any e=true→listed.getD e.on false=true)→
   T.tm.length=(Ss 0).tm.length→(∀ q,T.val q=vAt Ss (fun k=>(lgs.getD k ([],[])).2) (fun j=>listed.getD j false) q ops.size)→
   Rel C T θ a w→a.defers=df→wpAny P .any ops Q fuel listed a w:=by
 unfold ordered at hord
 rw [Bool.and_eq_true] at hord
 obtain ⟨hback,hord⟩:=hord
 have hR:∀ (k:Nat) (o:Oper),ops[k]? = some o→∀ c,Loc ⟨N,c⟩ (gop P C.E cal ops.toList o) (Ss k) (Ss (k+1)) (lgs.getD k ([],[])).1 (lgs.getD k ([],[])).2:=by
  intro k o hk
  obtain ⟨R,W,h1,h2⟩:=hp k o hk
  simpa [List.getD_eq_getElem?_getD,h1] using h2
 have hLen:∀ k,k≤ops.size→(Ss k).tm.length=(Ss 0).tm.length:=by
  intro k
  induction k with
  | zero=>intro _; rfl
  | succ k ih=>
   intro hk
   rw [(hR k _ (Array.getElem?_eq_getElem (by omega)) 0).1]
   exact ih (by omega)
 have hFr:∀ k,k<ops.size→∀ q,q ∉ (lgs.getD k ([],[])).2→(Ss (k+1)).val q=(Ss k).val q:=fun k hk q hq=>(hR k _ (Array.getElem?_eq_getElem hk) 0).2.1 q hq
 have getDtf:∀ (listed:Array Bool) (j:Nat),j<listed.size→listed.getD j true=listed.getD j false:=fun listed j hj=>by simp [hj]
 have hcl:∀ (listed:Array Bool),(∀ (j:Nat) (o:Oper),ops[j]? = some o→listed.getD j false=true→∀ e∈o.after,Region.binds .any e=true→listed.getD e.on false=true)→
   ∀ i j,i<j→j<ops.size→clash (lgs.getD i ([],[])) (lgs.getD j ([],[]))=true→(listed.getD j false=true∨∃ o,ops[j]? = some o∧∀ e∈o.after,Region.binds .any e=true→listed.getD e.on false=true)→listed.getD i false=true:=by
  intro listed hclosed i j hij hj hc hor
  have hi:i<lgs.length:=by omega
  have hjl:j<lgs.length:=by omega
  have hx:=orderedFrom_spec lgs 0 hord j _ (List.getElem?_eq_getElem hjl) i _ (List.getElem?_eq_getElem hi) (by omega) (by simpa [List.getD_eq_getElem?_getD,hi,hjl] using hc)
  rw [Nat.zero_add] at hx
  have hb:(fun k=>listed.getD k false=true∨k=j) i:=by
   refine masks_spec (b:=fun k=>listed.getD k false=true∨k=j) ops.toList [] (fun k o hk hb e he hbd=>?_) (fun k i _ hi=>by simp at hi) j i (.inr rfl) hx
   rw [Array.getElem?_toList] at hk
   simp only [List.length_nil,Nat.zero_add] at hb
   rcases hb with hb | rfl
   ·exact .inl (hclosed k o hk hb e he hbd)
   ·rcases hor with h1 | ⟨o',h1,h2⟩
    ·exact .inl (hclosed k o hk h1 e he hbd)
    ·rw [hk] at h1
     cases h1
     exact .inl (h2 e he hbd)
  rcases hb with hb | hb
  ·exact hb
  ·omega
 intro fuel
 induction fuel with
 | zero=>
  intro l listed T θ a w hnd hll hsz hl hclosed hTl hTv hrel hd
  have hl0:l=[]:=List.length_eq_zero_iff.1 hll
  subst hl0
  have hall:∀ j,j<ops.size→listed.getD j false=true:=fun j hj=>by
   have:=mt (hl j).2 (by simp)
   simp only [hj,true_and,Bool.not_eq_false] at this
   rw [getDtf listed j (by omega)] at this
   exact this
  refine ⟨?_,hQ a w θ (hrel.congr ?_ ?_) hd⟩
  ·rw [List.eq_nil_iff_forall_not_mem]
   intro j hj
   obtain ⟨h1,o,ho,_⟩:=mem_ready.1 hj
   have hjlt:=(Array.getElem?_eq_some_iff.1 ho).1
   have:=(hl j).2 ⟨hjlt,h1⟩
   simp at this
  ·rw [hLen _ (Nat.le_refl _),hTl]
  ·intro q
   rw [hTv q]
   exact (vAt_all hFr _ (Nat.le_refl _) (fun j hj _=>hall j hj)).symm
 | succ fuel ih=>
  intro l listed T θ a w hnd hll hsz hl hclosed hTl hTv hrel hd
  refine ⟨fun hnil=>?_,fun i hi=>?_⟩
  ·
   exfalso
   have hex:∃ j,j<ops.size∧listed.getD j false=false:=by
    cases l with
    | nil=>simp at hll
    | cons j l=>
     obtain ⟨h1,h2⟩:=(hl j).1 (by simp)
     exact ⟨j,h1,by rw [getDtf listed j (by omega)] at h2; exact h2⟩
   obtain ⟨j₀,hj₀⟩:=hex
   obtain ⟨j,⟨h1,h2⟩,h3⟩:=least (p:=fun j=>j<ops.size∧listed.getD j false=false) j₀ hj₀
   have:j∈Region.ready .any ops listed:=by
    refine mem_ready.2 ⟨by rw [getDtf listed j (by omega)]; exact h2,_,Array.getElem?_eq_getElem h1,fun e he hbd=>?_⟩
    have hlt:=backB_spec ops.toList 0 hback j _ (by rw [Array.getElem?_toList]; exact Array.getElem?_eq_getElem h1) e he hbd
    rw [Nat.zero_add] at hlt
    cases hon:listed.getD e.on false with
    | true=>rfl
    | false=>exact (h3 e.on hlt ⟨by omega,hon⟩).elim
   rw [hnil] at this
   cases this
  ·obtain ⟨h1,o,ho,haf⟩:=mem_ready.1 hi
   have hilt:=(Array.getElem?_eq_some_iff.1 ho).1
   have hil:i∈l:=(hl i).2 ⟨hilt,h1⟩
   have hif:listed.getD i false=false:=by rw [getDtf listed i (by omega)] at h1; exact h1
   obtain ⟨cc,hcc⟩:=gop_wpOp hcal ho hrel N
   have hloc:=hR i o ho cc
   have hahead:∀ j,j<i→clash (lgs.getD j ([],[])) (lgs.getD i ([],[]))=true→listed.getD j false=true:=fun j hj hc=>hcl listed hclosed j i hj hilt hc (.inr ⟨o,ho,haf⟩)
   have hbehind:∀ j,i<j→j<ops.size→clash (lgs.getD i ([],[])) (lgs.getD j ([],[]))=true→listed.getD j false=false:=fun j hj hjs hc=>by
    cases hb:listed.getD j false with
    | false=>rfl
    | true=>rw [hcl listed hclosed i j hj hjs hc (.inl hb)] at hif; cases hif
   have meet:∀ (xs ys:List Nat) (q:Nat),q∈xs→q∈ys→meets xs ys=true:=fun xs ys q h1 h2=>by
    cases hm:meets xs ys with
    | true=>rfl
    | false=>exact (meets_false hm h1 h2).elim
   have hagree:∀ q∈(lgs.getD i ([],[])).1,T.val q=(Ss i).val q:=fun q hq=>by
    rw [hTv q,vAt_none (i:=i) _ (by omega) (fun j hj hjs hw=>?_)]
    ·refine vAt_all hFr i (by omega) (fun j hj hw=>hahead j hj ?_)
     unfold clash
     rw [meet _ _ q hw hq]
     rfl
    ·rcases Nat.lt_or_ge i j with h2 | h2
     ·refine hbehind j h2 hjs ?_
      unfold clash
      rw [meet _ _ q hw hq]
      cases meets (lgs.getD i ([],[])).2 (lgs.getD j ([],[])).1 <;> cases meets (lgs.getD i ([],[])).2 (lgs.getD j ([],[])).2 <;> rfl
     ·rw [show j=i by omega]; exact hif
   obtain ⟨T',k1,k2,k3,k4⟩:=hloc.2.2 T (by rw [hTl,hLen i (by omega)]) hagree
   refine hcc T' k1 _ Q (fun a' w' θ' hrel' hd'=>?_)
   have hset:∀ j,j<ops.size→(listed.setIfInBounds i true).getD j false=if j=i then true else listed.getD j false:=fun j hj=>by
    by_cases e:j=i
    ·subst e; simp [hsz,hj]
    ·rw [getD_set_ne false (fun h=>e h.symm),if_neg e]
   have hset' : ∀ j,(listed.setIfInBounds i true).getD j false=true↔j=i∨listed.getD j false=true:=fun j=>by
    by_cases e:j=i
    ·subst e; simp [hsz,hilt]
    ·rw [getD_set_ne false (fun h=>e h.symm)]; simp [e]
   refine ih (l.erase i) (listed.setIfInBounds i true) T' θ' a' w' (hnd.erase i) ?_ (by simp [hsz]) (fun j=>?_) (fun j o' hj hb e he hbd=>?_) (by rw [k2,hTl]) (fun q=>?_) hrel' (hd'.trans hd)
   ·rw [List.length_erase_of_mem hil,hll]; rfl
   ·rw [hnd.mem_erase_iff,hl j]
    constructor
    ·rintro ⟨h2,h3,h4⟩
     exact ⟨h3,by rw [getD_set_ne true (fun h=>h2 h.symm)]; exact h4⟩
    ·rintro ⟨h3,h4⟩
     have h2:j≠i:=fun e=>by subst e; simp [hsz,hilt] at h4
     rw [getD_set_ne true (fun h=>h2 h.symm)] at h4
     exact ⟨h2,h3,h4⟩
   ·rw [hset'] at hb ⊢
    rcases hb with rfl | hb
    ·rw [ho] at hj
     cases hj
     exact .inr (haf e he hbd)
    ·exact .inr (hclosed j o' hj hb e he hbd)
   ·by_cases hq:q∈(lgs.getD i ([],[])).2
    ·rw [k3 q hq]
     rw [vAt_none (i:=i+1) _ (by omega) (fun j hj hjs hw=>?_)]
     ·simp only [vAt]
      rw [if_pos ⟨(hset' i).2 (.inl rfl),hq⟩]
     ·rw [hset j hjs,if_neg (by omega)]
      refine hbehind j (by omega) hjs ?_
      unfold clash
      rw [meet (lgs.getD i ([],[])).2 (lgs.getD j ([],[])).2 q hq hw]
      cases meets (lgs.getD i ([],[])).2 (lgs.getD j ([],[])).1 <;> rfl
    ·rw [k4 q hq,hTv q]
     refine vAt_congr _ (fun j hj hw=>?_)
     rw [hset j hj]
     split
     ·rename_i e
      subst e
      exact (hq hw).elim
     ·rfl
theorem seq_ok {cal:FuncId→Option Cal} (hcal:∀ f c,cal f=some c→SoundCal P C.E f c) {ops:Array Oper} {Q:Exit→Act→World→Prop} {N:Nat} {R:Type} {K:St→Option R} {x:R} {df:List Deferred}
  (hQ:∀ S' a' w' θ',K S' = some x→Rel C S' θ' a' w'→a'.defers=df→Q .normal a' w') :
  ∀ (os:List Oper) (k:Nat) (S:St) (θ:Nm→Option Value) (a:Act) (w:World),(∀ j o,os[j]? = some o→ops[k+j]? = some o)→runSeq N P C.E cal ops.toList k os S K=some x→Rel C S θ a w→a.defers=df→wpOps P ops Q (List.range' k os.length) a w
 | [],k,S,θ,a,w,hk,hh,hrel,hd=>hQ S a w θ hh hrel hd
 | o::os,k,S,θ,a,w,hk,hh,hrel,hd=>by
  rw [List.length_cons,List.range'_succ,wpOps_cons]
  have hi:=hk 0 o rfl
  rw [Nat.add_zero] at hi
  obtain ⟨c,hc⟩:=gop_wpOp hcal hi hrel N
  obtain ⟨S',h1,h2⟩:=run_exe c _ _ _ hh
  have h3:=split_spec h2
  refine hc S' h1 _ Q (fun a' w' θ' hrel' hd'=>?_)
  exact seq_ok hcal hQ os (k+1) S' θ' a' w' (fun j o' hj=>by
   have:=hk (j+1) o' (by simpa using hj)
   rwa [show k+(j+1)=k+1+j by omega] at this) h3 hrel' (hd'.trans hd)
theorem runReg_ok {cal:FuncId→Option Cal} (hcal:∀ f c,cal f=some c→SoundCal P C.E f c) (hm:P.follows .mixedOrders=true) {N:Nat} {id:Nat} {ops:Array Oper} {draw:Bool} {R:Type} {K:St→Option R} {x:R} (h:Rel C S θ a w)
  (hh:runReg N P C.E cal ops.toList draw S K=some x) (Q:Exit→Act→World→Prop) (hQ:∀ S' a' w' θ',K S' = some x→Rel C S' θ' a' w'→a'.defers=a.defers→Q .normal a' w'):(Code.region id ops draw).wp P Q a w:=by
 cases draw with
 | false=>
  refine wp_region ?_
  rw [List.range_eq_range',←Array.length_toList]
  exact seq_ok hcal hQ ops.toList 0 S θ a w (fun j o hj=>by simpa using hj) hh h rfl
 | true=>
  obtain ⟨Ss,lgs,hk,hlen,h0,hp⟩:=runOps_spec _ _ _ _ _ _ hh
  rw [Array.length_toList] at hk hlen
  simp only [List.append_nil,List.reverse_reverse] at hk
  split at hk
  ·rename_i hord
   refine wp_region_any hm ?_
   refine any_ok hcal hlen hord (fun k o hko=>hp k o (by rw [Array.getElem?_toList]; exact hko)) (fun a' w' θ' hr hd=>hQ _ a' w' θ' hk hr hd) _ (List.range ops.size) _ S θ a _ List.nodup_range (by simp) (by simp) (fun j=>?_) (fun j o _ hj=>?_) (by rw [h0]) (fun q=>?_) (h.world rfl rfl rfl ⟨rfl,.inr trivial⟩) rfl
   ·rw [List.mem_range]
    constructor
    ·intro hj; exact ⟨hj,by simp [hj]⟩
    ·exact fun hj=>hj.1
   ·rw [show (Array.replicate ops.size false).getD j false=false by by_cases hj' : j<ops.size <;> simp [hj']] at hj
    cases hj
   ·rw [vAt_none (i:=0) _ (by omega) (fun j _ hj _=>by simp [hj])]
    simp only [vAt,h0]
  ·cases hk
end
end Go.Am
end
section
set_option linter.unusedVariables false
set_option linter.unusedSimpArgs false
namespace Go.Am
open Go.RowKit
inductive Ok where
 | box (s:Sh)
 | row (e:TypeId) (k:IntKind)
 | rows (e:TypeId) (s:Sh)
 | iter (f:Nat)
def Ok.isRow:Ok→Bool
 | .row _ _=>true
 | .rows _ _=>true
 | _=>false
def Ok.ins (fs:List FamD):Ok→Bool
 | .box s=>inF fs s
 | .row _ _=>true
 | .rows _ s=>inF fs s
 | .iter f=>inF fs (.mp f)
inductive Tk where
 | val (s:Sh)
 | obj (k:Ok)
 | keep (k:Ok)
 | keepR (k:Ok)
 | keepP (l:List Sh) (p:Nat) (k:Ok)
abbrev Tes:=List (Nat × Tk)
structure Tpl where
 fs:List FamD
 es:Tes
 fx:List (Nat × AV)
def Tk.ins (fs:List FamD):Tk→Bool
 | .val s=>inF fs s
 | .obj k=>k.ins fs
 | .keep k=>k.ins fs
 | .keepR k=>k.ins fs
 | .keepP l _ k=>inFs fs l && k.ins fs
def keepsOf:Tes→List Nat
 | []=>[]
 | (i,.keep _)::r=>i::keepsOf r
 | (i,.keepR _)::r=>i::keepsOf r
 | (i,.keepP _ _ _)::r=>i::keepsOf r
 | _::r=>keepsOf r
def fix1 (ks:List Nat):AV→Bool
 | .ref (.top d) _=>hasN ks d
 | .fn _=>true
 | _=>false
def fixV (ks:List Nat):AV→Bool
 | .clo _ caps=>caps.all (fix1 ks)
 | v=>fix1 ks v
def eq1:AV→AV→Bool
 | .ref (.top d) o,.ref (.top d') o'=>Nat.beq d d' && Nat.beq o o'
 | .fn f,.fn g=>Nat.beq f g
 | _,_=>false
def eq1s:List AV→List AV→Bool
 | [],[]=>true
 | a::as,b::bs=>eq1 a b && eq1s as bs
 | _,_=>false
def eqF:AV→AV→Bool
 | .clo f as,.clo g bs=>Nat.beq f g && eq1s as bs
 | a,b=>eq1 a b
def Tpl.ok (T:Tpl):Bool:=(T.fs.all fun D=>famIn T.fs D) && (nodupF T.fs && ((T.es.all fun p=>p.2.ins T.fs) && T.fx.all fun p=>fixV (keepsOf T.es) p.2))
def okV (b:Bool) (x:AV):Option AV:=match b with | true=>some x | false=>none
def consO (x:AV) (l:Option (List AV)):Option (List AV):=match l with | some l=>some (x::l) | none=>none
def noneIf (b:Bool) (l:Option (List AV)):Option (List AV):=match b with | true=>none | false=>l
def dataAt (S:St) (s:Sh) (v:AV):Option AV:=
 match s,v with
 | .fs k,.own d=>match S.obj d with
  | some (.row false _ k' xs)=>okV (k == k') (.fs k xs)
  | _=>none
 | .fv s,.own d=>match S.obj d with
  | some (.rows false _ s' xs)=>okV (shEq s s') (.fv s xs)
  | _=>none
 | s,v=>okV (fitA s (nrm s v)) (nrm s v)
def objAt (S:St) (d:Nat):Ok→Option AV
 | .box s=>match S.obj (.top d) with
  | some (.box t)=>okV (fitA s (nrm s t)) (nrm s t)
  | _=>none
 | .row e k=>match S.obj (.top d) with
  | some o=>match asRow k o with
   | some (e',xs)=>okV (Nat.beq e e') (.fs k xs)
   | none=>none
  | none=>none
 | .rows e s=>match S.obj (.top d) with
  | some o=>match asRows s o with
   | some (e',xs)=>okV (Nat.beq e e') (.fv s xs)
   | none=>none
  | none=>none
 | .iter f=>match S.obj (.top d) with
  | some (.iter g i since seen c0)=>okV (Nat.beq f g) (.tup [.int .i64 i,.int .i64 since,.fs .i64 seen,.int .i64 c0])
  | _=>none
def conOb:Ok→AV→Ob
 | .box s,x=>.box (eta s x)
 | .row e k,x=>.row true e k x.toInts
 | .rows e s,x=>.rows true e s x.toElems
 | .iter f,x=>.iter f (getE x.toElems 0).toInt.toNat (getE x.toElems 1).toInt (getE x.toElems 2).toInts (getE x.toElems 3).toInt
def nm (i:Nat):Nat:=200000+i
def slotV (k:Ok) (d:Nat):AV:=match k.isRow with | true=>.own (.top d) | false=>.ref (.top d) 0
def slotOb (S:St) (i:Nat) (k:Ok):Option (AV × Option Nat):=
 match S.slot i with
 | .nils=>match k with
  | .row _ kd=>some (.fs kd [],none)
  | .rows _ s=>some (.fv s [],none)
  | _=>none
 | .own d=>match d with
  | .top d=>match k.isRow with
   | true=>match objAt S d k with
    | some x=>some (x,some d)
    | none=>none
   | false=>none
  | .mem _ _=>none
 | .ref d off=>match d with
  | .top d=>match Nat.beq off 0 && !k.isRow with
   | true=>match objAt S d k with
    | some x=>some (x,some d)
    | none=>none
   | false=>none
  | .mem _ _=>none
 | _=>none
def rowIn (S:St) (k:Ok) (t:AV):Option (AV × Option Nat):=match t with
 | .nils=>match k with
  | .row _ kd=>some (.fs kd [],none)
  | .rows _ s=>some (.fv s [],none)
  | _=>none
 | .own d=>match d with
  | .top d=>match k.isRow with
   | true=>match objAt S d k with
    | some x=>some (x,some d)
    | none=>none
   | false=>none
  | .mem _ _=>none
 | _=>none
def absT (S:St):Tes→List Nat→List Nat→Option (List AV)
 | [],_,_=>some []
 | (i,t)::r,ns,ds=>match t with
  | .val s=>match dataAt S s (S.slot i) with
   | some x=>consO x (absT S r ns ds)
   | none=>none
  | .obj k=>match slotOb S i k with
   | some (x,none)=>noneIf (hasN ns (nm i)) (consO x (absT S r (nm i::ns) ds))
   | some (x,some d)=>noneIf (hasN ns (nm i) || hasN ds d) (consO x (absT S r (nm i::ns) (d::ds)))
   | none=>none
  | .keep k=>match objAt S i k with
   | some x=>noneIf (hasN ns i || hasN ds i) (consO x (absT S r (i::ns) (i::ds)))
   | none=>none
  | .keepR k=>match S.obj (.top i) with
   | some (.box t)=>match rowIn S k t with
    | some (x,none)=>noneIf (hasN ns i || (hasN ns (nm i) || hasN ds i)) (consO x (absT S r (i::nm i::ns) (i::ds)))
    | some (x,some d)=>noneIf (hasN ns i || (hasN ns (nm i) || (hasN (d::ds) i || hasN ds d))) (consO x (absT S r (i::nm i::ns) (i::d::ds)))
    | none=>none
   | _=>none
  | .keepP l p k=>match S.obj (.top i) with
   | some (.box t)=>match t with
    | .agg cs=>match cs[p]? with
     | some c=>match rowIn S k c with
      | some (x,none)=>match okV (fitA (.agg l) (nrm (.agg l) (.agg (cs.set p x)))) (nrm (.agg l) (.agg (cs.set p x))) with
       | some y=>noneIf (hasN ns i || (hasN ns (nm i) || hasN ds i)) (consO y (absT S r (i::nm i::ns) (i::ds)))
       | none=>none
      | some (x,some d)=>match okV (fitA (.agg l) (nrm (.agg l) (.agg (cs.set p x)))) (nrm (.agg l) (.agg (cs.set p x))) with
       | some y=>noneIf (hasN ns i || (hasN ns (nm i) || (hasN (d::ds) i || hasN ds d))) (consO y (absT S r (i::nm i::ns) (i::d::ds)))
       | none=>none
      | none=>none
     | none=>none
    | _=>none
   | _=>none
def absF (S:St):List FamD→Option (List AV)
 | []=>some []
 | D::r=>match S.fam D.f with
  | some F=>match Nat.beq F.e D.e && (shEq F.s D.s && optEq F.ks D.ks) with
   | true=>consO (.tup F.l) (absF S r)
   | false=>none
  | none=>none
def setP (x:AV) (p:Nat) (y:AV):AV:=match x with | .agg cs=>.agg (cs.set p y) | x=>x
def con1 (i:Nat) (x:AV) (S:St):Tk→St
 | .val s=>S.setSlot i (eta s x)
 | .obj k=>(S.setObj (nm i) (conOb k x)).setSlot i (slotV k (nm i))
 | .keep k=>S.setObj i (conOb k x)
 | .keepR k=>(S.setObj (nm i) (conOb k x)).setObj i (.box (.own (.top (nm i))))
 | .keepP l p k=>(S.setObj (nm i) (conOb k (x.item p))).setObj i (.box (setP (eta (.agg l) x) p (.own (.top (nm i)))))
def conT:Tes→List AV→St→St
 | [],_,S=>S
 | (i,t)::r,d,S=>conT r d.tail (con1 i (d.headD .undef) S t)
def conA:Tes→List AV→Nat→St→St
 | [],_,_,S=>S
 | (i,t)::r,d,j,S=>conA r d (j+1) (con1 i (getE d j) S t)
def famsAt:List FamD→List AV→Nat→List (Nat × Fam)
 | [],_,_=>[]
 | D::r,d,j=>(D.f,⟨D.e,D.s,D.ks,(getE d j).toElems⟩)::famsAt r d (j+1)
def conF:List (Nat × AV)→St→St
 | [],S=>S
 | (i,v)::r,S=>conF r (S.setSlot i v)
def con0 (m:Nat) (fs:List FamD) (d:List AV):St:=⟨List.replicate m .undef,[],iniFm fs d⟩
def con (m:Nat) (T:Tpl) (d:List AV):St:=conF T.fx (conA T.es d T.fs.length ⟨List.replicate m .undef,[],famsAt T.fs d 0⟩)
structure Pn where
 tops:List Nat
 fams:List Nat
def Pn.ok (pn:Pn) (T:Tpl):Bool:=(pn.tops.all fun d=>hasN (keepsOf T.es) d) && pn.fams.all fun f=>T.fs.any fun D=>Nat.beq f D.f
def abst (m:Nat) (pn:Pn) (T:Tpl) (S:St):Option (List AV):=match Nat.beq S.tm.length m && (T.ok && (pn.ok T && T.fx.all fun p=>eqF p.2 (S.slot p.1))) with
 | true=>match absF S T.fs with
  | some f=>match absT S T.es [] [] with
   | some l=>some (f++l)
   | none=>none
  | none=>none
 | false=>none
theorem conA_eq:∀ (tp:Tes) (d:List AV) (j:Nat) (S:St),conA tp d j S=conT tp (d.drop j) S
 | [],d,j,S=>rfl
 | (i,t)::r,d,j,S=>by
  simp only [conA,conT]
  rw [conA_eq r d (j+1),List.tail_drop]
  congr 2
  rw [List.headD_eq_head?_getD,List.head?_drop,getE,List.getD_eq_getElem?_getD]
theorem famsAt_eq:∀ (fs:List FamD) (p l:List AV),fs.length≤l.length→famsAt fs (p++l) p.length=iniFm fs l
 | [],p,l,h=>rfl
 | D::r,p,[],h=>by simp at h
 | D::r,p,x::l,h=>by
  have ih:=famsAt_eq r (p++[x]) l (by simpa using h)
  simp only [List.append_assoc,List.length_append,List.length_cons,List.length_nil,Nat.zero_add,List.cons_append,List.nil_append] at ih
  simp [famsAt,iniFm,ih,getE]
theorem okV_some {b:Bool} {x y:AV} (h:okV b x=some y):b=true∧x=y:=by
 cases b with
 | true=>cases h; exact ⟨rfl,rfl⟩
 | false=>cases h
theorem consO_some {x:AV} {l:Option (List AV)} {y:List AV} (h:consO x l=some y):∃ r,l=some r∧y=x::r:=by
 cases l with
 | none=>cases h
 | some r=>cases h; exact ⟨r,rfl,rfl⟩
theorem noneIf_some {b:Bool} {l:Option (List AV)} {y:List AV} (h:noneIf b l=some y):b=false∧l=some y:=by
 cases b with
 | true=>cases h
 | false=>exact ⟨rfl,h⟩
theorem eq1_eq {a b:AV} (h:eq1 a b=true):a=b:=by
 unfold eq1 at h
 split at h
 ·rw [Bool.and_eq_true] at h
  rw [Nat.eq_of_beq_eq_true h.1,Nat.eq_of_beq_eq_true h.2]
 ·rw [Nat.eq_of_beq_eq_true h]
 ·cases h
theorem eq1s_eq:∀ {a b:List AV},eq1s a b=true→a=b
 | [],[],_=>rfl
 | a::as,b::bs,h=>by
  have h:(eq1 a b && eq1s as bs)=true:=h
  rw [Bool.and_eq_true] at h
  rw [eq1_eq h.1,eq1s_eq h.2]
 | [],_::_,h=>by cases (show false=true from h)
 | _::_,[],h=>by cases (show false=true from h)
theorem eqF_eq {a b:AV} (h:eqF a b=true):a=b:=by
 unfold eqF at h
 split at h
 ·rw [Bool.and_eq_true] at h
  rw [Nat.eq_of_beq_eq_true h.1,eq1s_eq h.2]
 ·exact eq1_eq h
theorem optEq_eq' {a b:Option Sh} (h:optEq a b=true):a=b:=by
 cases a with
 | none=>cases b with
  | none=>rfl
  | some t=>cases h
 | some s=>cases b with
  | none=>cases h
  | some t=>rw [shEq_eq (show shEq s t=true from h)]
section
variable {C:Ctx} {S S' T:St} {θ θ' η:Nm→Option Value} {a:Act} {w w' : World} {n:Nat} {P:Program} {o:Oper} {fs:List FamD}
theorem dataAt_ok (h:Rel C S θ a w) {s:Sh} {v x:AV} {u:Value} (hv:CV w (okOf C w S θ) θ v u) (hd:dataAt S s v=some x):WT s x∧CV w (okOf C w S θ) θ x u:=by
 unfold dataAt at hd
 split at hd
 ·rename_i k d'
  split at hd <;> first | (cases hd; done) | skip
  rename_i e' k' xs ho
  obtain ⟨h2,rfl⟩:=okV_some hd
  have hk:k=k':=by simpa using h2
  subst hk
  obtain ⟨h5,_⟩:=hv
  obtain ⟨v',h3,_,h4⟩:=h.ob ho h5
  rw [h3] at h5
  cases h5
  exact ⟨⟨xs,rfl⟩,h4 rfl⟩
 ·rename_i k d'
  split at hd <;> first | (cases hd; done) | skip
  rename_i e' k' xs ho
  obtain ⟨h2,rfl⟩:=okV_some hd
  have hk:=shEq_eq h2
  subst hk
  obtain ⟨h5,_⟩:=hv
  obtain ⟨v',h3,_,_,h4⟩:=h.ob ho h5
  rw [h3] at h5
  cases h5
  exact ⟨⟨xs,rfl⟩,h4 rfl⟩
 ·obtain ⟨h2,rfl⟩:=okV_some hd
  exact ⟨fit_WT _ _ h2,CV_nrm _ _ _ hv⟩
theorem objAt_ok (h:Rel C S θ a w) {d:Nat} {k:Ok} {x:AV} (hx:objAt S d k=some x) :
  ∃ o v,S.obj (.top d)=some o∧o.isOwn=true∧θ (.top d)=some v∧(conOb k x).isOwn=true∧
   ∀ (ok' : Nat→Prop) (η:Nm→Option Value) (n:Nm),(∀ b,okOf C w S θ b→ok' b)→MemLe fs θ η→k.ins fs=true→η n=some v→OV C w ok' η n (conOb k x):=by
 cases k with
 | box s=>
  simp only [objAt] at hx
  split at hx <;> first | (cases hx; done) | skip
  rename_i t ho
  obtain ⟨h2,rfl⟩:=okV_some hx
  have hov:=h.obT ho
  obtain ⟨g,e,fr,v,h3,_,_,_,_,h6⟩:=id hov
  refine ⟨_,_,ho,rfl,h3,rfl,fun ok' η n hok hθ hi hn=>?_⟩
  refine OV_box_conv (C':=C) (A:=fun s=>inF fs s=true) (fun s x v hA hw hc=>CV_in hθ hok s x v hw hA hc) (s:=s) hi hov rfl (fit_WT _ _ h2) (fun v hv=>?_) (fun g' hg'=>?_)
  ·rw [h3] at hv; cases hv; exact hn
  ·rw [h3] at hg'; cases hg'; exact h6
 | row e k=>
  simp only [objAt] at hx
  split at hx <;> first | (cases hx; done) | skip
  rename_i ob ho
  split at hx <;> first | (cases hx; done) | skip
  rename_i e' xs has
  obtain ⟨h2,rfl⟩:=okV_some hx
  have h2:e=e':=by simpa using h2
  subst h2
  obtain ⟨hisO,v,h3,h4⟩:=asRow_ok h ho (has_top ho) has
  exact ⟨_,v,ho,hisO,h3,rfl,fun ok' η n hok hθ hi hn=>⟨v,hn,fun _=>h4,fun h=>by cases h⟩⟩
 | rows e s=>
  simp only [objAt] at hx
  split at hx <;> first | (cases hx; done) | skip
  rename_i ob ho
  split at hx <;> first | (cases hx; done) | skip
  rename_i e' xs has
  obtain ⟨h2,rfl⟩:=okV_some hx
  have h2:e=e':=by simpa using h2
  subst h2
  obtain ⟨hisO,v,cs,h3,hw,h4,h5⟩:=asRows_ok h ho (has_top ho) has
  exact ⟨_,v,ho,hisO,h3,rfl,fun ok' η n hok hθ hi hn=>⟨v,hn,hw,fun _=>⟨cs,CVs_in_row hθ hok hi hw h4,h5⟩,fun h=>by cases h⟩⟩
 | iter f=>
  simp only [objAt] at hx
  split at hx <;> first | (cases hx; done) | skip
  rename_i g i since seen c0 ho
  obtain ⟨h2,rfl⟩:=okV_some hx
  have h2:f=g:=by simpa using h2
  subst h2
  obtain ⟨g,b,sn,sq,cn,h3,h4,h5,h6⟩:=h.obT ho
  refine ⟨_,_,ho,rfl,h3,rfl,fun ok' η n hok hθ hi hn=>?_⟩
  obtain ⟨D,hD,rfl⟩:=any_fam (show (fs.any fun D=>Nat.beq f D.f)=true from hi)
  exact ⟨g,b,sn,sq,cn,hn,h4,hθ D hD _ _ h5,h6⟩
structure RelK (C:Ctx) (ok:Nat→Prop) (S:St) (θ:Nm→Option Value) (a:Act) (w:World):Prop where
 len:a.tmps.size=S.tm.length
 slots:∀ (i:Nat) v,a.tmps[i]? = some v→CV w ok θ (S.slot i) v
 objs:∀ d o,S.has d→S.obj d=some o→OV C w ok θ d o
 fresh:∀ d,¬ S.has d→θ d=none
 sep:∀ d d' o o' v v' b,S.obj d=some o→S.obj d' = some o'→o.isOwn=true→o'.isOwn=true→d≠d'→θ d=some v→θ d' = some v'→blk v=some b→blk v'≠some b
 globs:∀ g t,C.E.glob g=some t→CV w ok θ (.fp t) (.pointer (some ⟨g,0,none⟩))
 base:∀ d v,θ d=some v→base0 v
theorem RelK.fill {ok:Nat→Prop} (h:RelK C ok S θ a w) {i:Nat} {x:AV} (hx:∀ v,a.tmps[i]? = some v→CV w ok θ x v):RelK C ok (S.setSlot i x) θ a w:=by
 refine ⟨by rw [len_setSlot]; exact h.len,fun j v hj=>?_,fun d o hh ho=>h.objs d o ((has_setSlot _ _ _ _).1 hh) ho,fun d hd=>h.fresh d (fun hh=>hd ((has_setSlot _ _ _ _).2 hh)),h.sep,h.globs,h.base⟩
 by_cases e:i=j
 ·subst e
  rw [slot_setSlot_same _ _ _ (by rw [←h.len]; exact (Array.getElem?_eq_some_iff.1 hj).1)]
  exact hx v hj
 ·rw [slot_setSlot_other _ _ _ _ e]
  exact h.slots j v hj
theorem RelK.add {ok:Nat→Prop} (h:RelK C ok S θ a w) {d:Nat} {v:Value} {o:Ob} (hd:S.obj (.top d)=none) (ho:OV C w ok (upd θ (.top d) v) (.top d) o) (hb:base0 v)
  (hsep:o.isOwn=true→∀ d' o' v' b,S.obj d' = some o'→o'.isOwn=true→θ d' = some v'→blk v=some b→blk v'≠some b):RelK C ok (S.setObj d o) (upd θ (.top d) v) a w:=by
 have hnh:¬ S.has (.top d):=fun hh=>hh hd
 have hk:Keeps w w ok ok θ (upd θ (.top d) v):=⟨fun _ h=>h,fun _ _=>rfl,fun e x he=>by
  by_cases hed:e=.top d
  ·subst hed; rw [h.fresh _ hnh] at he; cases he
  ·rw [upd_ne _ _ hed]; exact he⟩
 refine ⟨h.len,fun i v' hi=>CV_mono hk _ _ (h.slots i v' hi),fun e o' hh he=>?_,fun e he=>?_,fun e e' o1 o2 v1 v2 b h1 h2 h3 h4 hne h5 h6 h7=>?_,fun g t hg=>CV_mono hk _ _ (h.globs g t hg),fun e v' he=>?_⟩
 ·by_cases hed:e=.top d
  ·subst hed; rw [obj_setObj_same] at he; cases he; exact ho
  ·rw [obj_setObj_other _ _ _ _ hed] at he
   exact (h.objs e o' ((has_setObj_other _ _ _ _ hed).1 hh) he).mono hk (fun _ _ _ _ _=>rfl)
 ·by_cases hed:e=.top d
  ·subst hed; exact (he (has_setObj_same _ _ _)).elim
  ·rw [upd_ne _ _ hed]
   exact h.fresh e (fun hh=>he ((has_setObj_other _ _ _ _ hed).2 hh))
 ·by_cases e1:e=.top d
  ·subst e1
   have hne' : e'≠.top d:=fun h=>hne h.symm
   rw [obj_setObj_same] at h1; cases h1
   rw [obj_setObj_other _ _ _ _ hne'] at h2
   rw [upd_self] at h5; cases h5
   rw [upd_ne _ _ hne'] at h6
   exact hsep h3 e' o2 v2 b h2 h4 h6 h7
  ·rw [obj_setObj_other _ _ _ _ e1] at h1
   rw [upd_ne _ _ e1] at h5
   by_cases e2:e' = .top d
   ·subst e2
    rw [obj_setObj_same] at h2; cases h2
    rw [upd_self] at h6; cases h6
    intro h8
    exact hsep h4 e o1 v1 b h1 h3 h5 h8 h7
   ·rw [obj_setObj_other _ _ _ _ e2] at h2
    rw [upd_ne _ _ e2] at h6
    exact h.sep e e' o1 o2 v1 v2 b h1 h2 h3 h4 hne h5 h6 h7
 ·by_cases hed:e=.top d
  ·subst hed; rw [upd_self] at he; cases he; exact hb
  ·rw [upd_ne _ _ hed] at he; exact h.base e v' he
structure Made (S:St) (θ:Nm→Option Value) (fs:List FamD) (ns ds ks:List Nat) (T:St) (η:Nm→Option Value):Prop where
 names:∀ e,T.obj (.top e)≠none→e∈ns
 from_:∀ d o v b,T.obj d=some o→o.isOwn=true→η d=some v→blk v=some b→∃ e o',S.obj e=some o'∧o'.isOwn=true∧θ e=some v∧((∃ e'∈ds,e=.top e')∨∃ f i,e=.mem f i)
 mems:MemLe fs θ η
 kept:∀ d∈ks,∃ v,θ (.top d)=some v∧η (.top d)=some v
 sub:∀ d∈ks,d∈ns
theorem CVs_map {w:World} {ok ok' : Nat→Prop} {θ η:Nm→Option Value}:∀ {cs cs' : List AV} {vs:List Value},CVs w ok θ cs vs→cs'.length=cs.length→
  (∀ (j:Nat) (c c' : AV) (v:Value),cs[j]? = some c→cs'[j]? = some c'→v.cells.size=c.width→CV w ok θ c v→CV w ok' η c' v∧v.cells.size=c'.width)→CVs w ok' η cs' vs
 | [],[],vs,h,_,_=>h
 | [],_::_,vs,h,hl,_=>by simp at hl
 | _::_,[],vs,h,hl,_=>by simp at hl
 | c::cs,c'::cs',vs,h,hl,hf=>by
  obtain ⟨v,rest,rfl,hs,h1,h2⟩:=h
  obtain ⟨k1,k2⟩:=hf 0 c c' v rfl rfl hs h1
  exact ⟨v,rest,rfl,k2,k1,CVs_map h2 (by simpa using hl) (fun j a b v h3 h4=>hf (j+1) a b v (by simpa using h3) (by simpa using h4))⟩
theorem nrms_get:∀ (l:List Sh) (cs:List AV) (j:Nat) (s:Sh) (c:AV),l[j]? = some s→cs[j]? = some c→(nrms l cs)[j]? = some (nrm s c)
 | [],cs,j,s,c,h,_=>by simp at h
 | s'::l,[],j,s,c,_,h=>by simp at h
 | s'::l,c'::cs,0,s,c,h1,h2=>by
  simp only [List.getElem?_cons_zero,Option.some.injEq] at h1 h2
  subst h1 h2
  rfl
 | s'::l,c'::cs,j+1,s,c,h1,h2=>by
  simpa [nrms] using nrms_get l cs j s c (by simpa using h1) (by simpa using h2)
theorem WTs_get:∀ (l:List Sh) (cs:List AV),WTs l cs→l.length=cs.length∧∀ (j:Nat) (s:Sh) (c:AV),l[j]? = some s→cs[j]? = some c→WT s c
 | [],cs,h=>by simp only [WTs] at h; subst h; exact ⟨rfl,fun j s c h=>by simp at h⟩
 | s'::l,cs,h=>by
  obtain ⟨c',r,rfl,h1,h2⟩:=h
  obtain ⟨k1,k2⟩:=WTs_get l r h2
  refine ⟨by simp [k1],fun j s c h3 h4=>?_⟩
  cases j with
  | zero=>
   simp only [List.getElem?_cons_zero,Option.some.injEq] at h3 h4
   subst h3 h4
   exact h1
  | succ j=>exact k2 j s c (by simpa using h3) (by simpa using h4)
theorem inFs_get {fs:List FamD}:∀ (l:List Sh),inFs fs l=true→∀ (j:Nat) (s:Sh),l[j]? = some s→inF fs s=true
 | [],_,j,s,h=>by simp at h
 | s'::l,hi,j,s,h=>by
  have hi:(inF fs s' && inFs fs l)=true:=hi
  rw [Bool.and_eq_true] at hi
  cases j with
  | zero=>
   simp only [List.getElem?_cons_zero,Option.some.injEq] at h
   subst h
   exact hi.1
  | succ j=>exact inFs_get l hi.2 j s (by simpa using h)
theorem nrms_length:∀ (l:List Sh) (cs:List AV),(nrms l cs).length=cs.length
 | [],cs=>by simp [nrms]
 | s::l,[]=>by simp [nrms]
 | s::l,c::cs=>by simp [nrms,nrms_length l cs]
theorem nrm_fs (s:Sh) (k:IntKind) (xs:List Int):nrm s (.fs k xs)=.fs k xs:=by cases s <;> rfl
theorem nrm_fv (s s' : Sh) (xs:List AV):nrm s (.fv s' xs)=.fv s' xs:=by cases s <;> rfl
theorem rowIn_nrm {S:St} {k:Ok} {c x:AV} {d:Option Nat} (h:rowIn S k c=some (x,d)) (s:Sh):nrm s x=x:=by
 have hob:∀ d x,k.isRow=true→objAt S d k=some x→nrm s x=x:=by
  intro d x hk hx
  cases k with
  | row e kd=>
   simp only [objAt] at hx
   split at hx <;> first | (cases hx; done) | skip
   split at hx <;> first | (cases hx; done) | skip
   rw [←(okV_some hx).2,nrm_fs]
  | rows e s'=>
   simp only [objAt] at hx
   split at hx <;> first | (cases hx; done) | skip
   split at hx <;> first | (cases hx; done) | skip
   rw [←(okV_some hx).2,nrm_fv]
  | box s'=>cases hk
  | iter f=>cases hk
 unfold rowIn at h
 split at h
 ·split at h <;> first | (cases h; done) | skip
  ·cases h; exact nrm_fs _ _ _
  ·cases h; exact nrm_fv _ _ _
 ·split at h <;> first | (cases h; done) | skip
  split at h <;> first | (cases h; done) | skip
  rename_i hk
  split at h <;> first | (cases h; done) | skip
  rename_i hx
  cases h
  exact hob _ _ hk hx
 ·cases h
theorem made_add (h:Rel C S θ a w) {ns ds ks:List Nat} {T:St} {η:Nm→Option Value} (hk:RelK C (okOf C w S θ) T η a w) (hm:Made S θ fs ns ds ks T η):∀ (n:Nat) (ob:Ob) (v:Value) (ks1 ds1:List Nat),n ∉ ns→(MemLe fs θ (upd η (.top n) v)→OV C w (okOf C w S θ) (upd η (.top n) v) (.top n) ob)→base0 v→
    (blk v=none∧ds1=ds∨∃ d o',ds1=d::ds∧d ∉ ds∧S.obj (.top d)=some o'∧o'.isOwn=true∧θ (.top d)=some v)→(ks1=ks∨ks1=n::ks∧θ (.top n)=some v)→
    RelK C (okOf C w S θ) (T.setObj n ob) (upd η (.top n) v) a w∧Made S θ fs (n::ns) ds1 ks1 (T.setObj n ob) (upd η (.top n) v):=by
 intro n ob v ks1 ds1 hn hov hb hor hks
 have hfreeN:T.obj (.top n)=none:=by
  cases hT:T.obj (.top n) with
  | none=>rfl
  | some o=>exact (hn (hm.names n (by rw [hT]; simp))).elim
 have hml:MemLe fs θ (upd η (.top n) v):=fun D hD j x hx=>by
  rw [upd_ne _ _ (by simp)]
  exact hm.mems D hD j x hx
 refine ⟨hk.add hfreeN (hov hml) hb (fun ho d' o' v' b h1 h2 h3 h4 h5=>?_),⟨fun e he=>?_,fun d o v' b h1 h2 h3 h4=>?_,hml,fun d hd=>?_,fun d hd=>?_⟩⟩
 ·obtain ⟨e,o'',h6,h7,h8,h9⟩:=hm.from_ d' o' v' b h1 h2 h3 h5
  rcases hor with ⟨h10,_⟩ | ⟨d,o1,_,hnd,h10,h11,h12⟩
  ·rw [h10] at h4; cases h4
  ·have hne:Nm.top d≠e:=by
    rcases h9 with ⟨e',he',rfl⟩ | ⟨f,i,rfl⟩
    ·intro q; cases q; exact hnd he'
    ·simp
   exact h.sep _ e o1 o'' v v' b h10 h6 h11 h7 hne h12 h8 h4 h5
 ·by_cases hdi:e=n
  ·simp [hdi]
  ·rw [obj_setObj_other _ _ _ _ (by simpa using hdi)] at he
   simp [hm.names e he]
 ·by_cases hdi:d=.top n
  ·subst hdi
   rw [upd_self] at h3
   cases h3
   rcases hor with ⟨h9,_⟩ | ⟨d,o1,rfl,hnd,h9,h10,h11⟩
   ·rw [h9] at h4; cases h4
   ·exact ⟨.top d,o1,h9,h10,h11,.inl ⟨d,by simp,rfl⟩⟩
  ·rw [obj_setObj_other _ _ _ _ hdi] at h1
   rw [upd_ne _ _ hdi] at h3
   obtain ⟨e,o',q1,q2,q3,q4⟩:=hm.from_ d o v' b h1 h2 h3 h4
   refine ⟨e,o',q1,q2,q3,?_⟩
   rcases q4 with ⟨e',he',rfl⟩ | q4
   ·rcases hor with ⟨_,rfl⟩ | ⟨d,o1,rfl,_⟩
    ·exact .inl ⟨e',he',rfl⟩
    ·exact .inl ⟨e',by simp [he'],rfl⟩
   ·exact .inr q4
 ·have old:d∈ks→∃ u,θ (.top d)=some u∧upd η (.top n) v (.top d)=some u:=fun hd=>by
   obtain ⟨u,h1,h2⟩:=hm.kept d hd
   refine ⟨u,h1,?_⟩
   have:d≠n:=fun e=>hn (e ▸ hm.sub d hd)
   rw [upd_ne _ _ (by simpa using this)]
   exact h2
  rcases hks with rfl | ⟨rfl,hv⟩
  ·exact old hd
  ·rcases List.mem_cons.1 hd with rfl | hd
   ·exact ⟨v,hv,upd_self _ _ _⟩
   ·exact old hd
 ·rcases hks with rfl | ⟨rfl,hv⟩
  ·simp [hm.sub d hd]
  ·rcases List.mem_cons.1 hd with rfl | hd
   ·simp
   ·simp [hm.sub d hd]
theorem con_ok (h:Rel C S θ a w):∀ (tp:Tes) (ns ds ks:List Nat) (l:List AV) (T:St) (η:Nm→Option Value),absT S tp ns ds=some l→(tp.all fun p=>p.2.ins fs)=true→RelK C (okOf C w S θ) T η a w→Made S θ fs ns ds ks T η→
  ∃ η' ns' ds',RelK C (okOf C w S θ) (conT tp l T) η' a w∧Made S θ fs ns' ds' (keepsOf tp++ks) (conT tp l T) η'
 | [],ns,ds,ks,l,T,η,hl,hi,hk,hm=>⟨η,ns,ds,hk,hm⟩
 | (i,t)::r,ns,ds,ks,l,T,η,hl,hi,hk,hm=>by
  rw [List.all_cons,Bool.and_eq_true] at hi
  obtain ⟨hi1,hi2⟩:=hi
  have hsl:=h.slots i
  have addG:=made_add h hk hm
  cases t with
  | val s=>
   simp only [absT] at hl
   split at hl <;> first | (cases hl; done) | skip
   rename_i x hx
   obtain ⟨l',hl',rfl⟩:=consO_some hl
   refine con_ok h r ns ds ks l' _ η hl' hi2 (hk.fill fun v hv=>?_) ⟨hm.names,hm.from_,hm.mems,hm.kept,hm.sub⟩
   obtain ⟨hw,hc⟩:=dataAt_ok h (hsl v hv) hx
   dsimp only [List.headD_cons]
   rw [eta_of_WT s x hw]
   exact CV_in hm.mems (fun _ h=>h) s x v hw hi1 hc
  | obj k=>
   simp only [absT] at hl
   have nilB:base0 (.slice none 0 0):=fun ad n c e=>by cases e
   have some_:∀ (d:Nat) (x:AV) (l:List AV),objAt S d k=some x→noneIf (hasN ns (nm i) || hasN ds d) (consO x (absT S r (nm i::ns) (d::ds)))=some l→(∀ v u,a.tmps[i]? = some u→θ (.top d)=some v→∀ η' : Nm→Option Value,η' (.top (nm i))=some v→CV w (okOf C w S θ) η' (slotV k (nm i)) u)→
     ∃ η' ns' ds',RelK C (okOf C w S θ) (conT ((i,.obj k)::r) l T) η' a w∧Made S θ fs ns' ds' (keepsOf ((i,.obj k)::r)++ks) (conT ((i,.obj k)::r) l T) η':=by
    intro d x l hob hll hsv
    obtain ⟨hh,hl'⟩:=noneIf_some hll
    rw [Bool.or_eq_false_iff] at hh
    obtain ⟨l',hl2,rfl⟩:=consO_some hl'
    obtain ⟨o,v,h1,h2,h3,h4,h5⟩:=objAt_ok (fs:=fs) h hob
    obtain ⟨k1,k2⟩:=addG (nm i) (conOb k x) v ks (d::ds) (hasN_mem hh.1) (fun hml=>h5 _ _ _ (fun _ h=>h) hml hi1 (upd_self _ _ _)) (h.base _ _ h3) (.inr ⟨d,o,rfl,hasN_mem hh.2,h1,h2,h3⟩) (.inl rfl)
    exact con_ok h r _ _ ks l' _ _ hl2 hi2 (k1.fill fun u hu=>hsv v u hu h3 _ (upd_self _ _ _)) ⟨k2.names,k2.from_,k2.mems,k2.kept,k2.sub⟩
   have none_:∀ (x:AV) (l:List AV),S.slot i=.nils→slotV k (nm i)=.own (.top (nm i))→noneIf (hasN ns (nm i)) (consO x (absT S r (nm i::ns) ds))=some l→(∀ η' : Nm→Option Value,η' (.top (nm i))=some (.slice none 0 0)→OV C w (okOf C w S θ) η' (.top (nm i)) (conOb k x))→
     ∃ η' ns' ds',RelK C (okOf C w S θ) (conT ((i,.obj k)::r) l T) η' a w∧Made S θ fs ns' ds' (keepsOf ((i,.obj k)::r)++ks) (conT ((i,.obj k)::r) l T) η':=by
    intro x l hs hsv hll hov
    obtain ⟨hh,hl'⟩:=noneIf_some hll
    obtain ⟨l',hl2,rfl⟩:=consO_some hl'
    obtain ⟨k1,k2⟩:=addG (nm i) (conOb k x) (.slice none 0 0) ks ds (hasN_mem hh) (fun _=>hov _ (upd_self _ _ _)) nilB (.inl ⟨rfl,rfl⟩) (.inl rfl)
    refine con_ok h r _ _ ks l' _ _ hl2 hi2 (k1.fill fun u hu=>?_) ⟨k2.names,k2.from_,k2.mems,k2.kept,k2.sub⟩
    have:=hsl u hu
    rw [hs] at this
    have:u=.slice none 0 0:=this
    subst this
    rw [hsv]
    exact ⟨upd_self _ _ _,none,0,0,rfl⟩
   split at hl
   ·rename_i x hx
    unfold slotOb at hx
    split at hx
    ·rename_i hs
     split at hx <;> first | (cases hx; done) | skip
     ·cases hx
      exact none_ _ l hs rfl hl (fun η' hη=>⟨_,hη,fun _=>⟨rfl,.inl ⟨rfl,rfl⟩⟩,fun h=>by cases h⟩)
     ·cases hx
      exact none_ _ l hs rfl hl (fun η' hη=>⟨_,hη,by simp [AV.toElems],fun _=>⟨[],rfl,by simp [AV.toElems],.inl ⟨rfl,rfl⟩⟩,fun h=>by cases h⟩)
    ·split at hx <;> first | (cases hx; done) | skip
     split at hx <;> first | (cases hx; done) | skip
     split at hx <;> cases hx
    ·split at hx <;> first | (cases hx; done) | skip
     split at hx <;> first | (cases hx; done) | skip
     split at hx <;> cases hx
    ·cases hx
   ·rename_i x d hx
    unfold slotOb at hx
    split at hx
    ·split at hx <;> cases hx
    ·rename_i d' hs
     split at hx <;> first | (cases hx; done) | skip
     rename_i e
     split at hx <;> first | (cases hx; done) | skip
     rename_i hr
     split at hx <;> first | (cases hx; done) | skip
     rename_i x' hob
     cases hx
     refine some_ d x l hob hl (fun v u hu hv η' hη=>?_)
     have:=hsl u hu
     rw [hs] at this
     obtain ⟨q1,q2⟩:=this
     rw [hv] at q1
     cases q1
     unfold slotV
     rw [hr]
     exact ⟨hη,q2⟩
    ·rename_i d' off hs
     split at hx <;> first | (cases hx; done) | skip
     rename_i e
     split at hx <;> first | (cases hx; done) | skip
     rename_i hr
     split at hx <;> first | (cases hx; done) | skip
     rename_i x' hob
     cases hx
     rw [Bool.and_eq_true,Bool.not_eq_true'] at hr
     have h0:=Nat.eq_of_beq_eq_true hr.1
     subst h0
     refine some_ d x l hob hl (fun v u hu hv η' hη=>?_)
     have:=hsl u hu
     rw [hs] at this
     obtain ⟨g,q1,q2⟩:=this
     rw [hv] at q1
     cases q1
     unfold slotV
     rw [hr.2]
     exact ⟨g,hη,q2⟩
    ·cases hx
   ·cases hl
  | keep k=>
   simp only [absT] at hl
   split at hl <;> first | (cases hl; done) | skip
   rename_i x hob
   obtain ⟨hh,hl'⟩:=noneIf_some hl
   rw [Bool.or_eq_false_iff] at hh
   obtain ⟨l',hl2,rfl⟩:=consO_some hl'
   obtain ⟨o,v,h1,h2,h3,h4,h5⟩:=objAt_ok (fs:=fs) h hob
   obtain ⟨k1,k2⟩:=addG i (conOb k x) v (i::ks) (i::ds) (hasN_mem hh.1) (fun hml=>h5 _ _ _ (fun _ h=>h) hml hi1 (upd_self _ _ _)) (h.base _ _ h3) (.inr ⟨i,o,rfl,hasN_mem hh.2,h1,h2,h3⟩) (.inr ⟨rfl,h3⟩)
   obtain ⟨η',ns',ds',q1,q2⟩:=con_ok h r _ _ (i::ks) l' _ _ hl2 hi2 k1 k2
   refine ⟨η',ns',ds',q1,⟨q2.names,q2.from_,q2.mems,fun d hd=>q2.kept d ?_,fun d hd=>q2.sub d ?_⟩⟩ <;>
   ·simp only [keepsOf,List.cons_append,List.mem_cons,List.mem_append] at hd ⊢
    rcases hd with hd | hd | hd
    ·exact .inr (.inl hd)
    ·exact .inl hd
    ·exact .inr (.inr hd)
  | keepR k=>
   simp only [absT] at hl
   split at hl <;> first | (cases hl; done) | skip
   rename_i t hot
   obtain ⟨g,eb,fr,vb,b1,b2,b3,b4,b5,b6⟩:=h.obT hot
   have hne:nm i≠i:=by unfold nm; omega
   have hne' : Nm.top (nm i)≠Nm.top i:=by simpa using hne
   have nilB:base0 (.slice none 0 0):=fun ad n c e=>by cases e
   have box_:∀ (v:Value) (ds1:List Nat) (l' : List AV) (T1:St) (η1:Nm→Option Value),RelK C (okOf C w S θ) T1 η1 a w→Made S θ fs (nm i::ns) ds1 ks T1 η1→i ∉ nm i::ns→i ∉ ds1→absT S r (i::nm i::ns) (i::ds1)=some l'→
     (∀ η' : Nm→Option Value,η' (.top (nm i))=some v→CV w (okOf C w S θ) η' (.own (.top (nm i))) vb)→η1 (.top (nm i))=some v→vb.cells.size=1→
     ∃ η' ns' ds',RelK C (okOf C w S θ) (conT r l' (T1.setObj i (.box (.own (.top (nm i)))))) η' a w∧Made S θ fs ns' ds' (keepsOf ((i,.keepR k)::r)++ks) (conT r l' (T1.setObj i (.box (.own (.top (nm i)))))) η':=by
    intro v ds1 l' T1 η1 k1 m1 hi3 hi4 hl2 hcv hη hsz
    obtain ⟨k2,m2⟩:=made_add h k1 m1 i (.box (.own (.top (nm i)))) (.pointer (some ⟨g,0,none⟩)) (i::ks) (i::ds1) hi3 (fun _=>⟨g,eb,fr,vb,upd_self _ _ _,b2,b3,hcv _ (by rw [upd_ne _ _ hne']; exact hη),hsz,b6⟩)
     (fun ad n c e=>by cases e) (.inr ⟨i,_,rfl,hi4,hot,rfl,b1⟩) (.inr ⟨rfl,b1⟩)
    obtain ⟨η',ns',ds',q1,q2⟩:=con_ok h r _ _ (i::ks) l' _ _ hl2 hi2 k2 m2
    refine ⟨η',ns',ds',q1,⟨q2.names,q2.from_,q2.mems,fun d hd=>q2.kept d ?_,fun d hd=>q2.sub d ?_⟩⟩ <;>
    ·simp only [keepsOf,List.cons_append,List.mem_cons,List.mem_append] at hd ⊢
     rcases hd with hd | hd | hd
     ·exact .inr (.inl hd)
     ·exact .inl hd
     ·exact .inr (.inr hd)
   have nil_:∀ (x:AV) (l:List AV),t=.nils→noneIf (hasN ns i || (hasN ns (nm i) || hasN ds i)) (consO x (absT S r (i::nm i::ns) (i::ds)))=some l→(∀ η' : Nm→Option Value,η' (.top (nm i))=some (.slice none 0 0)→OV C w (okOf C w S θ) η' (.top (nm i)) (conOb k x))→
     ∃ η' ns' ds',RelK C (okOf C w S θ) (conT ((i,.keepR k)::r) l T) η' a w∧Made S θ fs ns' ds' (keepsOf ((i,.keepR k)::r)++ks) (conT ((i,.keepR k)::r) l T) η':=by
    intro x l ht hll hov
    subst ht
    obtain ⟨hh,hl'⟩:=noneIf_some hll
    rw [Bool.or_eq_false_iff,Bool.or_eq_false_iff] at hh
    obtain ⟨l',hl2,rfl⟩:=consO_some hl'
    have hvb:vb=.slice none 0 0:=b4
    obtain ⟨k1,m1⟩:=addG (nm i) (conOb k x) (.slice none 0 0) ks ds (hasN_mem hh.2.1) (fun _=>hov _ (upd_self _ _ _)) nilB (.inl ⟨rfl,rfl⟩) (.inl rfl)
    refine box_ _ ds l' _ _ k1 m1 (fun hm=>?_) (hasN_mem hh.2.2) hl2 (fun η' hη=>⟨by rw [hvb]; exact hη,none,0,0,hvb⟩) (upd_self _ _ _) (by rw [hvb]; rfl)
    rcases List.mem_cons.1 hm with hm | hm
    ·exact hne hm.symm
    ·exact hasN_mem hh.1 hm
   split at hl <;> first | (cases hl; done) | skip
   ·rename_i x hx
    unfold rowIn at hx
    split at hx
    ·split at hx <;> first | (cases hx; done) | skip
     ·cases hx
      exact nil_ _ l rfl hl (fun η' hη=>⟨_,hη,fun _=>⟨rfl,.inl ⟨rfl,rfl⟩⟩,fun h=>by cases h⟩)
     ·cases hx
      exact nil_ _ l rfl hl (fun η' hη=>⟨_,hη,by simp [AV.toElems],fun _=>⟨[],rfl,by simp [AV.toElems],.inl ⟨rfl,rfl⟩⟩,fun h=>by cases h⟩)
    ·split at hx <;> first | (cases hx; done) | skip
     split at hx <;> first | (cases hx; done) | skip
     split at hx <;> cases hx
    ·cases hx
   ·rename_i x d hx
    unfold rowIn at hx
    split at hx
    ·split at hx <;> cases hx
    ·split at hx <;> first | (cases hx; done) | skip
     rename_i e
     split at hx <;> first | (cases hx; done) | skip
     split at hx <;> first | (cases hx; done) | skip
     rename_i x' hob
     cases hx
     obtain ⟨hh,hl'⟩:=noneIf_some hl
     rw [Bool.or_eq_false_iff,Bool.or_eq_false_iff,Bool.or_eq_false_iff] at hh
     obtain ⟨h1,h2,h3,h4⟩:=hh
     obtain ⟨l',hl2,rfl⟩:=consO_some hl'
     obtain ⟨c1,c2⟩:=b4
     obtain ⟨o,v,p1,p2,p3,p4,p5⟩:=objAt_ok (fs:=fs) h hob
     rw [p3] at c1
     cases c1
     obtain ⟨k1,m1⟩:=addG (nm i) (conOb k x) vb ks (d::ds) (hasN_mem h2) (fun hml=>p5 _ _ _ (fun _ h=>h) hml hi1 (upd_self _ _ _)) (h.base _ _ p3) (.inr ⟨d,o,rfl,hasN_mem h4,p1,p2,p3⟩) (.inl rfl)
     refine box_ vb (d::ds) l' _ _ k1 m1 (fun hm=>?_) (hasN_mem h3) hl2 (fun η' hη=>⟨hη,c2⟩) (upd_self _ _ _) ?_
     ·rcases List.mem_cons.1 hm with hm | hm
      ·exact hne hm.symm
      ·exact hasN_mem h1 hm
     ·obtain ⟨A,m,c,rfl⟩:=c2
      rfl
    ·cases hx
  | keepP sl p k=>
   simp only [absT] at hl
   split at hl <;> first | (cases hl; done) | skip
   rename_i t hot
   split at hl <;> first | (cases hl; done) | skip
   rename_i cs
   split at hl <;> first | (cases hl; done) | skip
   rename_i c hcp
   have hi1:(inFs fs sl && k.ins fs)=true:=hi1
   rw [Bool.and_eq_true] at hi1
   obtain ⟨hiL,hiK⟩:=hi1
   obtain ⟨g,eb,fr,vb,b1,b2,b3,b4,b5,b6⟩:=h.obT hot
   have hne:nm i≠i:=by unfold nm; omega
   have hne' : Nm.top (nm i)≠Nm.top i:=by simpa using hne
   have hpl:p<cs.length:=(List.getElem?_eq_some_iff.1 hcp).1
   have nilB:base0 (.slice none 0 0):=fun ad n c e=>by cases e
   have cont:∀ (x y:AV) (od:Option Nat),rowIn S k c=some (x,od)→okV (fitA (.agg sl) (nrm (.agg sl) (.agg (cs.set p x)))) (nrm (.agg sl) (.agg (cs.set p x)))=some y→y.item p=x∧
     ∀ (η' : Nm→Option Value),MemLe fs θ η'→(∀ v,CV w (okOf C w S θ) θ c v→CV w (okOf C w S θ) η' (.own (.top (nm i))) v∧v.cells.size=1)→CV w (okOf C w S θ) η' (setP (eta (.agg sl) y) p (.own (.top (nm i)))) vb∧vb.cells.size=(setP (eta (.agg sl) y) p (.own (.top (nm i)))).width:=by
    intro x y od hx hy
    obtain ⟨hf,rfl⟩:=okV_some hy
    have hw:=fit_WT _ _ hf
    rw [eta_of_WT _ _ hw]
    have hn:nrm (.agg sl) (.agg (cs.set p x))=.agg (nrms sl (cs.set p x)):=rfl
    rw [hn] at hw ⊢
    obtain ⟨ys,hys,hws⟩:=hw
    cases hys
    obtain ⟨wl,wg⟩:=WTs_get sl _ hws
    rw [nrms_length,List.length_set] at wl
    have hxp:(nrms sl (cs.set p x))[p]? = some x:=by
     obtain ⟨sp,hsp⟩ : ∃ sp,sl[p]? = some sp:=⟨_,List.getElem?_eq_getElem (by omega)⟩
     rw [nrms_get sl _ p sp x hsp (by rw [List.getElem?_set_self hpl]),rowIn_nrm hx]
    refine ⟨by simp [AV.item,hxp],fun η' hml hc=>?_⟩
    obtain ⟨vs,rfl,hcs⟩:=b4
    have hnew:CVs w (okOf C w S θ) η' ((nrms sl (cs.set p x)).set p (.own (.top (nm i)))) vs.toList:=by
     refine CVs_map hcs (by rw [List.length_set,nrms_length,List.length_set]) (fun j c1 c2 v h1 h2 h3 h4=>?_)
     by_cases hj:p=j
     ·subst hj
      rw [hcp] at h1
      cases h1
      rw [List.getElem?_set_self (by rw [nrms_length,List.length_set]; exact hpl)] at h2
      cases h2
      obtain ⟨k1,k2⟩:=hc v h4
      exact ⟨k1,k2⟩
     ·rw [List.getElem?_set_ne hj] at h2
      have hjl:j<sl.length:=by rw [wl]; exact (List.getElem?_eq_some_iff.1 h1).1
      have hsj:=List.getElem?_eq_getElem hjl
      have hcj:=nrms_get sl (cs.set p x) j _ c1 hsj (by rw [List.getElem?_set_ne hj]; exact h1)
      rw [hcj] at h2
      cases h2
      exact ⟨CV_in hml (fun _ h=>h) _ _ _ (wg j _ _ hsj hcj) (inFs_get sl hiL j _ hsj) (CV_nrm _ _ _ h4),by rw [nrm_width]; exact h3⟩
    refine ⟨⟨vs,rfl,hnew⟩,?_⟩
    have:=CVs_length hnew
    simpa [Value.cells,setP,AV.width] using this
   have box_:∀ (x y:AV) (od:Option Nat) (v:Value) (ds1:List Nat) (l' : List AV) (T1:St) (η1:Nm→Option Value),rowIn S k c=some (x,od)→okV (fitA (.agg sl) (nrm (.agg sl) (.agg (cs.set p x)))) (nrm (.agg sl) (.agg (cs.set p x)))=some y→
     RelK C (okOf C w S θ) T1 η1 a w→Made S θ fs (nm i::ns) ds1 ks T1 η1→i ∉ nm i::ns→i ∉ ds1→absT S r (i::nm i::ns) (i::ds1)=some l'→
     (∀ u,CV w (okOf C w S θ) θ c u→u=v∧∃ A m q,u=.slice A m q)→η1 (.top (nm i))=some v→
     ∃ η' ns' ds',RelK C (okOf C w S θ) (conT r l' (T1.setObj i (.box (setP (eta (.agg sl) y) p (.own (.top (nm i))))))) η' a w∧Made S θ fs ns' ds' (keepsOf ((i,.keepP sl p k)::r)++ks) (conT r l' (T1.setObj i (.box (setP (eta (.agg sl) y) p (.own (.top (nm i))))))) η':=by
    intro x y od v ds1 l' T1 η1 hx hy k1 m1 hi3 hi4 hl2 hcv hη
    obtain ⟨_,hcont⟩:=cont x y od hx hy
    obtain ⟨k2,m2⟩:=made_add h k1 m1 i (.box (setP (eta (.agg sl) y) p (.own (.top (nm i))))) (.pointer (some ⟨g,0,none⟩)) (i::ks) (i::ds1) hi3 (fun hml=>by
      obtain ⟨q1,q2⟩:=hcont (upd η1 (.top i) (.pointer (some ⟨g,0,none⟩))) hml (fun u hu=>by
       obtain ⟨rfl,A,m,q,hu2⟩:=hcv u hu
       exact ⟨⟨by rw [upd_ne _ _ hne']; exact hη,A,m,q,hu2⟩,by rw [hu2]; rfl⟩)
      exact ⟨g,eb,fr,vb,upd_self _ _ _,b2,b3,q1,q2,b6⟩)
     (fun ad n c e=>by cases e) (.inr ⟨i,_,rfl,hi4,hot,rfl,b1⟩) (.inr ⟨rfl,b1⟩)
    obtain ⟨η',ns',ds',q1,q2⟩:=con_ok h r _ _ (i::ks) l' _ _ hl2 hi2 k2 m2
    refine ⟨η',ns',ds',q1,⟨q2.names,q2.from_,q2.mems,fun d hd=>q2.kept d ?_,fun d hd=>q2.sub d ?_⟩⟩ <;>
    ·simp only [keepsOf,List.cons_append,List.mem_cons,List.mem_append] at hd ⊢
     rcases hd with hd | hd | hd
     ·exact .inr (.inl hd)
     ·exact .inl hd
     ·exact .inr (.inr hd)
   have nil_:∀ (x y:AV) (l:List AV),c=.nils→rowIn S k c=some (x,none)→okV (fitA (.agg sl) (nrm (.agg sl) (.agg (cs.set p x)))) (nrm (.agg sl) (.agg (cs.set p x)))=some y→noneIf (hasN ns i || (hasN ns (nm i) || hasN ds i)) (consO y (absT S r (i::nm i::ns) (i::ds)))=some l→(∀ η' : Nm→Option Value,η' (.top (nm i))=some (.slice none 0 0)→OV C w (okOf C w S θ) η' (.top (nm i)) (conOb k x))→
     ∃ η' ns' ds',RelK C (okOf C w S θ) (conT ((i,.keepP sl p k)::r) l T) η' a w∧Made S θ fs ns' ds' (keepsOf ((i,.keepP sl p k)::r)++ks) (conT ((i,.keepP sl p k)::r) l T) η':=by
    intro x y l hc hx hy hll hov
    obtain ⟨hh,hl'⟩:=noneIf_some hll
    rw [Bool.or_eq_false_iff,Bool.or_eq_false_iff] at hh
    obtain ⟨l',hl2,rfl⟩:=consO_some hl'
    obtain ⟨hyx,_⟩:=cont x y none hx hy
    rw [←hyx] at hov
    obtain ⟨k1,m1⟩:=addG (nm i) (conOb k (y.item p)) (.slice none 0 0) ks ds (hasN_mem hh.2.1) (fun _=>hov _ (upd_self _ _ _)) nilB (.inl ⟨rfl,rfl⟩) (.inl rfl)
    refine box_ x y none _ ds l' _ _ hx hy k1 m1 (fun hm=>?_) (hasN_mem hh.2.2) hl2 (fun u hu=>?_) (upd_self _ _ _)
    ·rcases List.mem_cons.1 hm with hm | hm
     ·exact hne hm.symm
     ·exact hasN_mem hh.1 hm
    ·subst hc
     have hu:u=.slice none 0 0:=hu
     exact ⟨hu,none,0,0,hu⟩
   split at hl <;> first | (cases hl; done) | skip
   ·rename_i x hx
    split at hl <;> first | (cases hl; done) | skip
    rename_i y hy
    have hx':=hx
    unfold rowIn at hx
    split at hx
    ·split at hx <;> first | (cases hx; done) | skip
     ·cases hx
      exact nil_ _ y l rfl hx' hy hl (fun η' hη=>⟨_,hη,fun _=>⟨rfl,.inl ⟨rfl,rfl⟩⟩,fun h=>by cases h⟩)
     ·cases hx
      exact nil_ _ y l rfl hx' hy hl (fun η' hη=>⟨_,hη,by simp [AV.toElems],fun _=>⟨[],rfl,by simp [AV.toElems],.inl ⟨rfl,rfl⟩⟩,fun h=>by cases h⟩)
    ·split at hx <;> first | (cases hx; done) | skip
     split at hx <;> first | (cases hx; done) | skip
     split at hx <;> cases hx
    ·cases hx
   ·rename_i x d hx
    split at hl <;> first | (cases hl; done) | skip
    rename_i y hy
    have hx':=hx
    unfold rowIn at hx
    split at hx
    ·split at hx <;> cases hx
    ·split at hx <;> first | (cases hx; done) | skip
     rename_i e
     split at hx <;> first | (cases hx; done) | skip
     split at hx <;> first | (cases hx; done) | skip
     rename_i x' hob
     cases hx
     obtain ⟨hh,hl'⟩:=noneIf_some hl
     rw [Bool.or_eq_false_iff,Bool.or_eq_false_iff,Bool.or_eq_false_iff] at hh
     obtain ⟨h1,h2,h3,h4⟩:=hh
     obtain ⟨l',hl2,rfl⟩:=consO_some hl'
     obtain ⟨hyx,_⟩:=cont x y (some d) hx' hy
     obtain ⟨o,v,p1,p2,p3,p4,p5⟩:=objAt_ok (fs:=fs) h hob
     rw [←hyx] at p5
     obtain ⟨k1,m1⟩:=addG (nm i) (conOb k (y.item p)) v ks (d::ds) (hasN_mem h2) (fun hml=>p5 _ _ _ (fun _ h=>h) hml hiK (upd_self _ _ _)) (h.base _ _ p3) (.inr ⟨d,o,rfl,hasN_mem h4,p1,p2,p3⟩) (.inl rfl)
     refine box_ x y (some d) v (d::ds) l' _ _ hx' hy k1 m1 (fun hm=>?_) (hasN_mem h3) hl2 (fun u hu=>?_) (upd_self _ _ _)
     ·rcases List.mem_cons.1 hm with hm | hm
      ·exact hne hm.symm
      ·exact hasN_mem h1 hm
     ·obtain ⟨c1,c2⟩:=hu
      rw [p3] at c1
      exact ⟨(Option.some.inj c1).symm,c2⟩
    ·cases hx
theorem hasN_in {d:Nat}:∀ {l:List Nat},hasN l d=true→d∈l
 | [],h=>by cases h
 | x::r,h=>by
  simp only [hasN] at h
  split at h
  ·rename_i hx; simp [Nat.eq_of_beq_eq_true hx]
  ·simp [hasN_in h]
theorem fix1_CV {ok:Nat→Prop} {ks:List Nat} (hk:∀ d∈ks,∃ v,θ (.top d)=some v∧η (.top d)=some v) {v:AV} {u:Value} (hf:fix1 ks v=true) (h:CV w ok θ v u):CV w ok η v u:=by
 unfold fix1 at hf
 split at hf
 ·rename_i d off
  obtain ⟨g,h1,h2⟩:=h
  obtain ⟨v,q1,q2⟩:=hk d (hasN_in hf)
  rw [q1] at h1
  exact ⟨g,q2.trans h1,h2⟩
 ·exact h
 ·cases hf
theorem fixV_CV {ok:Nat→Prop} {ks:List Nat} (hk:∀ d∈ks,∃ v,θ (.top d)=some v∧η (.top d)=some v) {v:AV} {u:Value} (hf:fixV ks v=true) (h:CV w ok θ v u):CV w ok η v u:=by
 unfold fixV at hf
 split at hf
 ·rename_i f caps
  obtain ⟨us,rfl,h1⟩:=h
  refine ⟨us,rfl,?_⟩
  have:∀ (caps:List AV) (us:List Value),(caps.all (fix1 ks))=true→CVt w ok θ caps us→CVt w ok η caps us:=by
   intro caps
   induction caps with
   | nil=>intro us _ h; exact h
   | cons c cs ih=>
    intro us ha h
    obtain ⟨v,rest,rfl,q1,q2⟩:=h
    rw [List.all_cons,Bool.and_eq_true] at ha
    exact ⟨v,rest,rfl,fix1_CV hk ha.1 q1,ih rest ha.2 q2⟩
  exact this _ _ hf h1
 ·exact fix1_CV hk hf h
theorem absF_spec:∀ (fs:List FamD) (l:List AV),absF S fs=some l→l.length=fs.length∧∀ (k:Nat) (D:FamD),fs[k]? = some D→∃ F,S.fam D.f=some F∧F=⟨D.e,D.s,D.ks,F.l⟩∧l[k]? = some (.tup F.l)
 | [],l,h=>by cases h; exact ⟨rfl,fun k D hk=>by simp at hk⟩
 | D::r,l,h=>by
  simp only [absF] at h
  split at h <;> first | (cases h; done) | skip
  rename_i F hF
  split at h <;> first | (cases h; done) | skip
  rename_i hb
  rw [Bool.and_eq_true,Bool.and_eq_true] at hb
  obtain ⟨l',h1,rfl⟩:=consO_some h
  obtain ⟨h2,h3⟩:=absF_spec r l' h1
  refine ⟨by simp [h2],fun k D' hk=>?_⟩
  cases k with
  | zero=>
   cases hk
   refine ⟨F,hF,?_,rfl⟩
   rw [←Nat.eq_of_beq_eq_true hb.1,←shEq_eq hb.2.1,←optEq_eq' hb.2.2]
  | succ k=>simpa using h3 k D' (by simpa using hk)
theorem fams_ok (h:Rel C S θ a w) {m:Nat} {l l' : List AV} (hm:S.tm.length=m) (hin:(fs.all fun D=>famIn fs D)=true) (hnd:nodupF fs=true) (hl:absF S fs=some l) :
  RelK C (okOf C w S θ) (con0 m fs (l++l')) (thCall [] [] fs θ) a w∧Made S θ fs [] [] [] (con0 m fs (l++l')) (thCall [] [] fs θ):=by
 obtain ⟨hlen,hsp⟩:=absF_spec fs l hl
 have hfam:∀ D∈fs,∃ F,S.fam D.f=some F∧F.s=D.s∧F.ks=D.ks∧(con0 m fs (l++l')).fam D.f=some F:=by
  intro D hD
  obtain ⟨k,hk⟩:=List.getElem?_of_mem hD
  obtain ⟨F,h1,h2,h3⟩:=hsp k D hk
  refine ⟨F,h1,by rw [h2],by rw [h2],?_⟩
  have hkl:k<l.length:=(List.getElem?_eq_some_iff.1 h3).1
  have:=look_iniFm (xs:=l++l') hnd hk (x:=.tup F.l) (by rw [List.getElem?_append_left hkl]; exact h3)
  show lookF (iniFm fs (l++l')) D.f=some F
  rw [this,h2]
  rfl
 have hfam' : ∀ f F,(con0 m fs (l++l')).fam f=some F→(∃ D∈fs,D.f=f∧F.s=D.s∧F.ks=D.ks)∧S.fam f=some F:=by
  intro f F hF
  obtain ⟨k,D,x,h1,h2,rfl,_⟩:=iniFm_look (show lookF (iniFm fs (l++l')) f=some F from hF)
  have hD:=List.mem_of_getElem? h1
  obtain ⟨F',q1,q2,q3,q4⟩:=hfam D hD
  rw [hF] at q4
  cases q4
  exact ⟨⟨D,hD,rfl,q2,q3⟩,q1⟩
 have htop:∀ e,thCall [] [] fs θ (.top e)=none:=fun e=>by
  cases hv:thCall [] [] fs θ (.top e) with
  | none=>rfl
  | some v=>obtain ⟨q,k,s,d,h1,_⟩:=thCall_top hv; cases h1
 have hto:∀ e,(con0 m fs (l++l')).obj (.top e)=none:=fun e=>rfl
 have hml:MemLe fs θ (thCall [] [] fs θ):=fun D hD i x hx=>by rw [thCall_mem hD]; exact hx
 refine ⟨⟨by rw [h.len,hm]; simp [con0],fun i v _=>?_,fun d o hh ho=>?_,fun d hd=>?_,fun d d' o o' v v' b h1 h2 h3 h4 hne h5 h6 h7=>?_,fun g t hg=>?_,fun d v hv=>?_⟩,⟨fun e he=>(he (hto e)).elim,fun d o v b h1 h2 h3 h4=>?_,hml,fun d hd=>(by cases hd),fun d hd=>(by cases hd)⟩⟩
 ·have:(con0 m fs (l++l')).slot i=.undef:=by
   simp only [St.slot,con0,List.getD_eq_getElem?_getD,List.getElem?_replicate]
   split <;> rfl
  rw [this]
  trivial
 ·cases d with
  | top e=>rw [hto] at ho; cases ho
  | mem f i=>
   obtain ⟨F,hF,rfl⟩:=fam_of_obj ho
   obtain ⟨⟨D,hD,rfl,q1,q2⟩,q3⟩:=hfam' f F hF
   obtain ⟨F',r1,r2⟩:=hh
   rw [hF] at r1
   cases r1
   have hov:=h.objs (.mem D.f i) (F.at i) ⟨F,q3,r2⟩ (obj_mem q3)
   have hfi:=List.all_eq_true.1 hin D hD
   unfold famIn at hfi
   rw [Bool.and_eq_true] at hfi
   refine OV_at_conv (C':=C) (A:=fun s=>inF fs s=true) (fun s x v hA hw hc=>CV_in hml (fun _ h=>h) s x v hw hA hc) (by rw [q1]; exact hfi.1) (fun ks hks=>?_) hov (fun v hv=>?_) (fun g v hv hb=>?_)
   ·have h2:=hfi.2
    rw [←q2,hks] at h2
    exact h2
   ·rw [thCall_mem hD]; exact hv
   ·exact (hov.lt (at_own F i) hv hb).2
 ·cases d with
  | top e=>exact htop e
  | mem f i=>
   cases hv:thCall [] [] fs θ (.mem f i) with
   | none=>rfl
   | some v=>
    obtain ⟨⟨D,hD,rfl⟩,hv'⟩:=thCall_mem' hv
    obtain ⟨F,q1,_,_,q2⟩:=hfam D hD
    obtain ⟨F',r1,r2⟩:=h.has_of hv'
    rw [q1] at r1
    cases r1
    exact (hd ⟨F,q2,r2⟩).elim
 ·cases d with
  | top e=>rw [hto] at h1; cases h1
  | mem f i=>cases d' with
   | top e=>rw [hto] at h2; cases h2
   | mem f' i'=>
    obtain ⟨F,hF,rfl⟩:=fam_of_obj h1
    obtain ⟨F',hF',rfl⟩:=fam_of_obj h2
    obtain ⟨_,q3⟩:=hfam' f F hF
    obtain ⟨_,q3'⟩:=hfam' f' F' hF'
    exact h.sep _ _ _ _ v v' b (obj_mem q3) (obj_mem q3') h3 h4 hne (thCall_mem' h5).2 (thCall_mem' h6).2 h7
 ·obtain ⟨s,hs,hsi⟩:=C.gd g t hg
  obtain ⟨ad,u,h1,h2,h3,h4⟩:=h.globs g t hg
  exact ⟨ad,u,h1,h2,CV_in (fs:=[]) (fun D hD=>by cases hD) (fun _ h=>h) s t u hs hsi h3,h4⟩
 ·cases d with
  | top e=>rw [htop] at hv; cases hv
  | mem f i=>exact h.base _ _ (thCall_mem' hv).2
 ·cases d with
  | top e=>rw [hto] at h1; cases h1
  | mem f i=>
   obtain ⟨F,hF,rfl⟩:=fam_of_obj h1
   obtain ⟨_,q3⟩:=hfam' f F hF
   exact ⟨.mem f i,_,obj_mem q3,h2,(thCall_mem' h3).2,.inr ⟨f,i,rfl⟩⟩
def Pins (C:Ctx) (pn:Pn):Prop:=∀ d v,C.pin d=some v→match d with | .top e=>e∈pn.tops | .mem f _=>f∈pn.fams
theorem canon_ok (h:Rel C S θ a w) {m:Nat} {pn:Pn} (hpn:Pins C pn) {tp:Tpl} {l:List AV} (hl:abst m pn tp S=some l):∃ η,Rel C (con m tp l) η a w:=by
 unfold abst at hl
 split at hl <;> first | (cases hl; done) | skip
 rename_i hb
 rw [Bool.and_eq_true,Bool.and_eq_true,Bool.and_eq_true] at hb
 obtain ⟨hm,hok,hpo,hfx⟩:=hb
 have hm:=Nat.eq_of_beq_eq_true hm
 unfold Tpl.ok at hok
 simp only [Bool.and_eq_true] at hok
 obtain ⟨hin,hnd,hes,hfk⟩:=hok
 split at hl <;> first | (cases hl; done) | skip
 rename_i fl hf
 split at hl <;> first | (cases hl; done) | skip
 rename_i el he
 cases hl
 obtain ⟨k0,m0⟩:=fams_ok (l':=el) h hm hin hnd hf
 obtain ⟨η,ns,ds,k1,m1⟩:=con_ok h tp.es [] [] [] el _ _ he hes k0 m0
 rw [List.append_nil] at m1
 have hkf:∀ (fx:List (Nat × AV)) (T:St),(∀ p∈fx,fixV (keepsOf tp.es) p.2=true∧p.2=S.slot p.1)→RelK C (okOf C w S θ) T η a w→RelK C (okOf C w S θ) (conF fx T) η a w∧(∀ d,(conF fx T).obj d=T.obj d):=by
  intro fx
  induction fx with
  | nil=>intro T _ hk; exact ⟨hk,fun _=>rfl⟩
  | cons p r ih=>
   intro T hp hk
   obtain ⟨i,v⟩:=p
   obtain ⟨p1,p2⟩:=hp (i,v) (by simp)
   exact ih _ (fun q hq=>hp q (by simp [hq])) (hk.fill fun u hu=>fixV_CV m1.kept p1 (by have:=h.slots i u hu; rw [←p2] at this; exact this))
 obtain ⟨h1,hobj⟩:=hkf tp.fx _ (fun p hp=>⟨List.all_eq_true.1 hfk p hp,eqF_eq (List.all_eq_true.1 hfx p hp)⟩) k1
 have hcon:con m tp (fl++el)=conF tp.fx (conT tp.es el (con0 m tp.fs (fl++el))):=by
  unfold con con0
  have h1:=(absF_spec _ _ hf).1
  have h2:=famsAt_eq tp.fs [] (fl++el) (by rw [List.length_append]; omega)
  rw [conA_eq,←h1,List.drop_left]
  rw [show famsAt tp.fs (fl++el) 0=iniFm tp.fs (fl++el) from h2]
 have hok:∀ b,okOf C w S θ b→okOf C w (con m tp (fl++el)) η b:=by
  rintro b ⟨k1,k2,k4⟩
  refine ⟨k1,k2,?_⟩
  rintro ⟨d,o,v,e1,e2,e3,e4⟩
  rw [hcon,hobj] at e1
  obtain ⟨e,o',q1,q2,q3,_⟩:=m1.from_ d o v b e1 e2 e3 e4
  exact k4 ⟨e,o',v,q1,q2,q3,e4⟩
 have hkp:Keeps w w (okOf C w S θ) (okOf C w (con m tp (fl++el)) η) η η:=⟨hok,fun _ _=>rfl,fun _ _ h=>h⟩
 rw [←hcon] at h1
 have hpin:∀ d v,C.pin d=some v→η d=some v:=by
  intro d v hd
  have hv:=h.pin d v hd
  have:=hpn d v hd
  unfold Pn.ok at hpo
  rw [Bool.and_eq_true] at hpo
  cases d with
  | top e=>
   obtain ⟨u,q1,q2⟩:=m1.kept e (hasN_in (List.all_eq_true.1 hpo.1 e this))
   rw [hv] at q1
   cases q1
   exact q2
  | mem f i=>
   obtain ⟨D,hD,rfl⟩:=any_fam (List.all_eq_true.1 hpo.2 f this)
   exact m1.mems D hD i v hv
 exact ⟨η,h1.len,fun i v hi=>CV_mono hkp _ _ (h1.slots i v hi),fun d o hh ho=>(h1.objs d o hh ho).mono hkp (fun _ _ _ _ _=>rfl),h1.fresh,h1.sep,h.os,h.tape,h.output,h.size,h.frame,fun g t hg=>CV_mono hkp _ _ (h1.globs g t hg),h1.base,hpin⟩
end
end Go.Am
end
section
set_option linter.unusedVariables false
set_option linter.unusedSimpArgs false
namespace Go.Am
open Go.RowKit
inductive Ex where
 | nrm
 | ext (id:Nat)
 | ret
 | pan
def PanOk (chain:List PanicEntry):Prop:=∃ t u,chain=[{ v:=.iface t u,recovered:=false }]
def Ex.all (Q:Exit→Act→World→Prop):Ex→Act→World→Prop
 | .nrm,a,w=>Q .normal a w
 | .ext i,a,w=>Q (.exit i) a w
 | .ret,a,w=>Q .ret a w
 | .pan,a,w=>∀ chain,PanOk chain→Q (.panic chain) a w
def Ex.same:Ex→Ex→Bool
 | .nrm,.nrm=>true
 | .ext i,.ext j=>Nat.beq i j
 | .ret,.ret=>true
 | .pan,.pan=>true
 | _,_=>false
def inl {R:Type} (x:Option (List AV)):Option (Sum (List AV) R):=match x with | some d=>some (.inl d) | none=>none
def inr {R:Type} (x:Option R):Option (Sum (List AV) R):=match x with | some r=>some (.inr r) | none=>none
def jn {R:Type} (x:Option (Sum (List AV) R)) (k:List AV→Option R):Option R:=match x with
 | some (.inl d)=>k d
 | some (.inr r)=>some r
 | none=>none
def iter {R:Type} (g:List AV→(List AV→Option R)→Option R):Nat→List AV→Option R
 | 0,_=>none
 | n+1,d=>g d (iter g n)
def loopN (m:Nat) (pn:Pn) {R:Type} (step:List AV→(Ex→St→Option R)→Option R) (T:Tpl) (K:Ex→St→Option R) (n:Nat) (d:List AV):Option R:=
 iter (fun d k=>step d fun e S=>match e with
  | .nrm=>match abst m pn T S with
   | some d'=>k d'
   | none=>none
  | e=>K e S) n d
def first:Code→Option Nat
 | .region id _ _=>some id
 | .seq a b=>match first a with | some i=>some i | none=>first b
 | .cond _ a b=>match first a with | some i=>some i | none=>first b
 | .block _ b=>first b
 | .loop b=>first b
 | .scope b=>first b
 | _=>none
structure Hints where
 loops:Nat→Option Tpl
 joins:Nat→Option Tpl
 over:Nat→Option (∀ R:Type,Nat→St→(St→Option R)→Option R):=fun _=>none
 pan:Nat→Option (Nat × (St→Bool)):=fun _=>none
def HasReg (id:Nat) (ops:Array Oper) (draw:Bool):Code→Prop
 | .region i o d=>i=id∧o=ops∧d=draw
 | .seq a b=>HasReg id ops draw a∨HasReg id ops draw b
 | .cond _ a b=>HasReg id ops draw a∨HasReg id ops draw b
 | .block _ b=>HasReg id ops draw b
 | .loop b=>HasReg id ops draw b
 | .scope b=>HasReg id ops draw b
 | _=>False
def bool? (S:St):Operand→Option Bool
 | .tmp t=>match S.slot t with | .bool b=>some b | _=>none
 | .const (.bool b)=>some b
 | _=>none
noncomputable def exec (n m:Nat) (pn:Pn) (P:Program) (E:Env) (cal:FuncId→Option Cal) (H:Hints):Code→{R:Type}→St→(Ex→St→Option R)→Option R
 | .skip,_,S,K=>K .nrm S
 | .region id ops draw,_,S,K=>match H.over id with
  | none=>match H.pan id with
   | none=>runReg n P E cal ops.toList draw S (K .nrm)
   | some q=>match draw with
    | true=>none
    | false=>runSeq n P E cal ops.toList 0 (ops.toList.take q.1) S fun S1=>brO (q.2 S1) (K .pan S1) (runSeq n P E cal ops.toList q.1 (ops.toList.drop q.1) S1 (K .nrm))
  | some φ=>φ _ n S (K .nrm)
 | .seq a b,_,S,K=>match (match first b with | some i=>H.joins i | none=>none) with
  | none=>exec n m pn P E cal H a S fun e S'=>match e with
   | .nrm=>exec n m pn P E cal H b S' K
   | e=>K e S'
  | some T=>jn (exec n m pn P E cal H a S fun e S'=>match e with
   | .nrm=>inl (abst m pn T S')
   | e=>inr (K e S')) fun d=>exec n m pn P E cal H b (con m T d) K
 | .cond c a b,_,S,K=>match bool? S c with
  | some t=>brO t (exec n m pn P E cal H a S K) (exec n m pn P E cal H b S K)
  | none=>none
 | .block id b,_,S,K=>exec n m pn P E cal H b S fun e S'=>match e with
  | .ext j=>match Nat.beq j id with
   | true=>K .nrm S'
   | false=>K (.ext j) S'
  | e=>K e S'
 | .loop b,_,S,K=>match (match first b with | some i=>H.loops i | none=>none) with
  | some T=>match abst m pn T S with
   | some d=>loopN m pn (fun d K'=>exec n m pn P E cal H b (con m T d) K') T K n d
   | none=>none
  | none=>none
 | .scope b,_,S,K=>exec n m pn P E cal H b S K
 | .label _,_,S,K=>K .nrm S
 | .exit id,_,S,K=>K (.ext id) S
 | .ret,_,S,K=>K .ret S
 | _,_,_,_=>none
section
variable {C:Ctx} {S S' T:St} {θ θ' : Nm→Option Value} {a:Act} {w w' : World} {n m:Nat} {pn:Pn} {P:Program} {o:Oper}
theorem inl_some {R:Type} {x:Option (List AV)} {y:Sum (List AV) R} (h:inl x=some y):∃ d,x=some d∧y=.inl d:=by
 cases x with
 | none=>cases h
 | some d=>cases h; exact ⟨d,rfl,rfl⟩
theorem inr_some {R:Type} {x:Option R} {y:Sum (List AV) R} (h:inr x=some y):∃ r,x=some r∧y=.inr r:=by
 cases x with
 | none=>cases h
 | some d=>cases h; exact ⟨d,rfl,rfl⟩
theorem jn_some {R:Type} {x:Option (Sum (List AV) R)} {k:List AV→Option R} {r:R} (h:jn x k=some r):(∃ d,x=some (.inl d)∧k d=some r)∨x=some (.inr r):=by
 unfold jn at h
 split at h
 ·exact .inl ⟨_,rfl,h⟩
 ·cases h; exact .inr rfl
 ·cases h
def Quiet (P:Program) (d:Deferred):Prop:=
 ∃ fv cap f args,d.target=.fn fv cap∧∀ w,(invoke d.target d.args).run P w=.ok (.enter f args) w∧CallsD P f args .returning w fun e u' w'=>(∃ v,e=.returned v)∧u' = .returning∧w' = w
def DefLe (P:Program) (ds ds' : List Deferred):Prop:=∃ qs,ds' = qs++ds∧∀ d∈qs,Quiet P d
theorem DefLe.refl (P:Program) (ds:List Deferred):DefLe P ds ds:=⟨[],rfl,fun d h=>by cases h⟩
theorem DefLe.of {P:Program} {ds ds' : List Deferred} (h:ds' = ds):DefLe P ds ds':=by rw [h]; exact DefLe.refl P ds
theorem DefLe.trans {P:Program} {a b c:List Deferred} (h:DefLe P b c) (k:DefLe P a b):DefLe P a c:=by
 obtain ⟨q1,rfl,h1⟩:=h
 obtain ⟨q2,rfl,h2⟩:=k
 exact ⟨q1++q2,by rw [List.append_assoc],fun d hd=>by
  rcases List.mem_append.1 hd with hd | hd
  ·exact h1 d hd
  ·exact h2 d hd⟩
theorem leaves_quiet {P:Program} {fn:Func} {tmps:Array Value} {R:Ending→World→Prop} {w:World} (hR:∃ v,(results fn tmps).run P w=.ok v w∧R (.returned v) w):∀ {ds:List Deferred},(∀ d∈ds,Quiet P d)→Leaves P fn tmps R ds .returning w
 | [],_=>hR
 | d::ds,h=>by
  obtain ⟨fv,cap,f,args,h1,h2⟩:=h d (by simp)
  refine ⟨(by intro h; cases h),fv,cap,f,args,h1,(h2 w).1,(h2 w).2.mono ?_⟩
  rintro e u' w' ⟨⟨v,rfl⟩,rfl,rfl⟩
  exact leaves_quiet hR (fun d hd=>h d (by simp [hd]))
structure DLaw (DL:List Deferred→List Deferred→Prop):Prop where
 refl:∀ ds,DL ds ds
 trans:∀ {a b c},DL b c→DL a b→DL a c
theorem DLaw.of {DL:List Deferred→List Deferred→Prop} (h:DLaw DL) {ds ds' : List Deferred} (e:ds' = ds):DL ds ds':=by rw [e]; exact h.refl ds
theorem dlLe (P:Program):DLaw (DefLe P):=⟨DefLe.refl P,fun h k=>h.trans k⟩
def DefEq (ds ds' : List Deferred):Prop:=ds' = ds
theorem dlEq:DLaw DefEq:=⟨fun _=>rfl,fun h k=>Eq.trans h k⟩
def Sound (DL:List Deferred→List Deferred→Prop) (C:Ctx) (P:Program) (n m:Nat) (pn:Pn) (cal:FuncId→Option Cal) (H:Hints) (c:Code):Prop:=
 ∀ {R:Type} (S:St) (K:Ex→St→Option R) (x:R),exec n m pn P C.E cal H c S K=some x→∀ (θ:Nm→Option Value) (a:Act) (w:World),Rel C S θ a w→
  ∀ Q:Exit→Act→World→Prop,(∀ e S' θ' a' w',K e S' = some x→Rel C S' θ' a' w'→DL a.defers a'.defers→e.all Q a' w')→c.wp P Q a w
theorem bool?_ok (h:Rel C S θ a w) {c:Operand} {t:Bool} (hc:bool? S c=some t):a.eval c=.bool t:=by
 unfold bool? at hc
 split at hc
 ·rename_i i
  split at hc
  ·rename_i b hb
   cases hc
   have hlt:i<a.tmps.size:=by
    rw [h.len]
    rcases Nat.lt_or_ge i S.tm.length with h1 | h1
    ·exact h1
    ·simp [St.slot,List.getD_eq_getElem?_getD,h1] at hb
   have hv:=h.slots i _ (Array.getElem?_eq_getElem hlt)
   rw [hb] at hv
   have hv:a.tmps[i]=.bool t:=hv
   simp [Act.eval,hlt,hv]
  ·cases hc
 ·cases hc; rfl
 ·cases hc
theorem loop_ok {DL:List Deferred→List Deferred→Prop} (hDL:DLaw DL) (hpn:Pins C pn) {cal:FuncId→Option Cal} {H:Hints} {b:Code} (ih:Sound DL C P n m pn cal H b) {T:Tpl} {R:Type} {K:Ex→St→Option R} {x:R} {df:List Deferred} {Q:Exit→Act→World→Prop}
  (hQ:∀ e S' θ' a' w',K e S' = some x→Rel C S' θ' a' w'→DL df a'.defers→e.all Q a' w') :
  ∀ (f:Nat) (d:List AV),loopN m pn (fun d K'=>exec n m pn P C.E cal H b (con m T d) K') T K f d=some x→∀ (θ:Nm→Option Value) (a:Act) (w:World),Rel C (con m T d) θ a w→DL df a.defers→Code.rounds P b Q f a w
 | 0,d,h,θ,a,w,hr,hd=>by cases h
 | f+1,d,h,θ,a,w,hr,hd=>by
  rw [rounds_succ]
  refine ih _ _ _ h θ a w hr _ (fun e S' θ' a' w' hk hr' hd'=>?_)
  cases e with
  | nrm=>
   dsimp only at hk
   split at hk
   ·rename_i d' hd''
    obtain ⟨η,hη⟩:=canon_ok hr' hpn hd''
    exact loop_ok hDL hpn ih hQ f d' hk η a' w' hη (hDL.trans hd' hd)
   ·cases hk
  | ext i=>exact hQ (.ext i) S' θ' a' w' hk hr' (hDL.trans hd' hd)
  | ret=>exact hQ .ret S' θ' a' w' hk hr' (hDL.trans hd' hd)
  | pan=>exact hQ .pan S' θ' a' w' hk hr' (hDL.trans hd' hd)
def OvOk (DL:List Deferred→List Deferred→Prop) (C:Ctx) (P:Program) (H:Hints) (c:Code):Prop:=
 ∀ (id:Nat) (ops:Array Oper) (draw:Bool),HasReg id ops draw c→∀ φ,H.over id=some φ→∀ (R:Type) (n:Nat) (S:St) (K:St→Option R) (x:R),φ R n S K=some x→∀ (θ:Nm→Option Value) (a:Act) (w:World),Rel C S θ a w→
  ∀ Q:Exit→Act→World→Prop,(∀ S' θ' a' w',K S' = some x→Rel C S' θ' a' w'→DL a.defers a'.defers→Q .normal a' w')→(Code.region id ops draw).wp P Q a w
theorem OvOk.none {DL:List Deferred→List Deferred→Prop} {C:Ctx} {P:Program} {H:Hints} {c:Code} (h:∀ id,H.over id=none):OvOk DL C P H c:=fun id _ _ _ φ hφ=>by rw [h] at hφ; cases hφ
def PanH (C:Ctx) (P:Program) (H:Hints) (c:Code):Prop:=
 ∀ (id:Nat) (ops:Array Oper),HasReg id ops false c→∀ i β,H.pan id=some (i,β)→∀ (S:St) (θ:Nm→Option Value) (a:Act) (w:World),β S=true→Rel C S θ a w→
  ∀ Q:Exit→Act→World→Prop,(∀ chain a' w' θ',PanOk chain→Rel C S θ' a' w'→a'.defers=a.defers→Q (.panic chain) a' w')→wpOps P ops Q (List.range' i (ops.size - i)) a w
theorem PanH.none {C:Ctx} {P:Program} {H:Hints} {c:Code} (h:∀ id,H.pan id=none):PanH C P H c:=fun id _ _ i β hφ=>by rw [h] at hφ; cases hφ
theorem seqp_ok {cal:FuncId→Option Cal} (hcal:∀ f c,cal f=some c→SoundCal P C.E f c) {ops:Array Oper} {Q:Exit→Act→World→Prop} {N:Nat} {R:Type} {K:St→Option R} {x:R} {df:List Deferred} {rest:List Nat} :
  ∀ (os:List Oper) (k:Nat) (S:St) (θ:Nm→Option Value) (a:Act) (w:World),(∀ S' a' w' θ',K S' = some x→Rel C S' θ' a' w'→a'.defers=df→wpOps P ops Q rest a' w')→(∀ j o,os[j]? = some o→ops[k+j]? = some o)→runSeq N P C.E cal ops.toList k os S K=some x→Rel C S θ a w→a.defers=df→wpOps P ops Q (List.range' k os.length++rest) a w
 | [],k,S,θ,a,w,hQ,hk,hh,hrel,hd=>hQ S a w θ hh hrel hd
 | o::os,k,S,θ,a,w,hQ,hk,hh,hrel,hd=>by
  rw [List.length_cons,List.range'_succ,List.cons_append,wpOps_cons]
  have hi:=hk 0 o rfl
  rw [Nat.add_zero] at hi
  obtain ⟨c,hc⟩:=gop_wpOp hcal hi hrel N
  obtain ⟨S',h1,h2⟩:=run_exe c _ _ _ hh
  have h3:=split_spec h2
  refine hc S' h1 _ Q (fun a' w' θ' hrel' hd'=>?_)
  exact seqp_ok hcal os (k+1) S' θ' a' w' hQ (fun j o' hj=>by
   have:=hk (j+1) o' (by simpa using hj)
   rwa [show k+(j+1)=k+1+j by omega] at this) h3 hrel' (hd'.trans hd)
theorem exec_ok {DL:List Deferred→List Deferred→Prop} (hDL:DLaw DL) (hpn:Pins C pn) {cal:FuncId→Option Cal} {H:Hints} (hcal:∀ f c,cal f=some c→SoundCal P C.E f c) (hm:P.follows .mixedOrders=true):∀ c:Code,OvOk DL C P H c→PanH C P H c→Sound DL C P n m pn cal H c:=by
 intro c
 induction c with
 | skip=>intro _ _ R S K x h θ a w hr Q hQ; exact wp_skip (hQ .nrm S θ a w h hr (hDL.refl _))
 | region id ops draw=>
  intro hov hpa R S K x h θ a w hr Q hQ
  simp only [exec] at h
  split at h
  ·split at h
   ·exact runReg_ok (id:=id) hcal hm hr h Q (fun S' a' w' θ' h1 hr' hd'=>hQ .nrm S' θ' a' w' h1 hr' (hDL.of hd'))
   ·rename_i q hq
    split at h
    ·cases h
    ·obtain ⟨i,β⟩:=q
     dsimp only at h
     refine wp_region ?_
     rw [List.range_eq_range',←Array.length_toList]
     have hlen:List.range' 0 ops.toList.length=List.range' 0 (ops.toList.take i).length++List.range' (ops.toList.take i).length (ops.toList.drop i).length:=by
      have:=@List.range'_append_1 0 (ops.toList.take i).length (ops.toList.drop i).length
      rw [Nat.zero_add] at this
      rw [this,←List.length_append,List.take_append_drop]
     rw [hlen]
     refine seqp_ok hcal (df:=a.defers) _ 0 S θ a w (fun S1 a1 w1 θ1 h1 hr1 hd1=>?_) (fun j o hj=>?_) h hr rfl
     ·cases hb:β S1 with
      | true=>
       rw [hb] at h1
       have key:=hpa id ops ⟨rfl,rfl,rfl⟩ i β hq S1 θ1 a1 w1 hb hr1 Q (fun chain a' w' θ' hc hr' hd'=>hQ .pan S1 θ' a' w' h1 hr' (hDL.of (hd'.trans hd1)) chain hc)
       rw [List.length_take,List.length_drop,Array.length_toList]
       rcases Nat.lt_or_ge i ops.size with hl | hl
       ·rw [Nat.min_eq_left (by omega)]
        exact key
       ·have e0:ops.size - i=0:=by omega
        rw [e0] at key ⊢
        exact key
      | false=>
       rw [hb] at h1
       have h1:runSeq n P C.E cal ops.toList i (ops.toList.drop i) S1 (K .nrm)=some x:=h1
       rcases Nat.lt_or_ge i ops.toList.length with hl | hl
       ·rw [List.length_take,Nat.min_eq_left (by omega)]
        refine seq_ok hcal (df:=a.defers) (fun S' a' w' θ' h2 hr' hd'=>hQ .nrm S' θ' a' w' h2 hr' (hDL.of hd')) _ i S1 θ1 a1 w1 (fun j o hj=>?_) h1 hr1 hd1
        rw [List.getElem?_drop] at hj
        simpa using hj
       ·rw [List.drop_of_length_le hl] at h1 ⊢
        exact hQ .nrm S1 θ1 a1 w1 h1 hr1 (hDL.of hd1)
     ·rw [List.getElem?_take] at hj
      split at hj
      ·simpa using hj
      ·cases hj
  ·rename_i φ hφ
   exact hov id ops draw ⟨rfl,rfl,rfl⟩ φ hφ R n S (K .nrm) x h θ a w hr Q (fun S' θ' a' w' hk hr' hd'=>hQ .nrm S' θ' a' w' hk hr' hd')
 | seq x y ihx ihy=>
  intro hov hpa
  replace ihx:Sound DL C P n m pn cal H x:=ihx (fun id ops draw h=>hov id ops draw (.inl h)) (fun id ops h=>hpa id ops (.inl h))
  replace ihy:Sound DL C P n m pn cal H y:=ihy (fun id ops draw h=>hov id ops draw (.inr h)) (fun id ops h=>hpa id ops (.inr h))
  intro R S K r h θ a w hr Q hQ
  refine wp_seq ?_
  simp only [exec] at h
  have next:∀ (S' : St) (θ' : Nm→Option Value) (a' : Act) (w' : World) (e:Ex),(match e with | .nrm=>exec n m pn P C.E cal H y S' K | e=>K e S')=some r→Rel C S' θ' a' w'→DL a.defers a'.defers→e.all (Exit.then (y.wp P Q) Q) a' w':=by
   intro S' θ' a' w' e hk hr' hd'
   cases e with
   | nrm=>exact ihy S' K r hk θ' a' w' hr' Q (fun e S2 θ2 a2 w2 h1 h2 h3=>hQ e S2 θ2 a2 w2 h1 h2 (hDL.trans h3 hd'))
   | ext i=>exact hQ (.ext i) S' θ' a' w' hk hr' hd'
   | ret=>exact hQ .ret S' θ' a' w' hk hr' hd'
   | pan=>exact hQ .pan S' θ' a' w' hk hr' hd'
  split at h
  ·exact ihx S _ r h θ a w hr _ (fun e S' θ' a' w' hk hr' hd'=>next S' θ' a' w' e hk hr' hd')
  ·rename_i T hT
   rcases jn_some h with ⟨d,h1,h2⟩ | h1
   ·refine ihx S _ _ h1 θ a w hr _ (fun e S' θ' a' w' hk hr' hd'=>?_)
    cases e with
    | nrm=>
     obtain ⟨d',h3,h4⟩:=inl_some hk
     cases h4
     obtain ⟨η,hη⟩:=canon_ok hr' hpn h3
     exact next _ η a' w' .nrm h2 hη hd'
    | ext i=>obtain ⟨_,_,h4⟩:=inr_some hk; cases h4
    | ret=>obtain ⟨_,_,h4⟩:=inr_some hk; cases h4
    | pan=>obtain ⟨_,_,h4⟩:=inr_some hk; cases h4
   ·refine ihx S _ _ h1 θ a w hr _ (fun e S' θ' a' w' hk hr' hd'=>?_)
    cases e with
    | nrm=>obtain ⟨_,_,h4⟩:=inl_some hk; cases h4
    | ext i=>obtain ⟨_,h3,h4⟩:=inr_some hk; cases h4; exact hQ (.ext i) S' θ' a' w' h3 hr' hd'
    | ret=>obtain ⟨_,h3,h4⟩:=inr_some hk; cases h4; exact hQ .ret S' θ' a' w' h3 hr' hd'
    | pan=>obtain ⟨_,h3,h4⟩:=inr_some hk; cases h4; exact hQ .pan S' θ' a' w' h3 hr' hd'
 | cond c x y ihx ihy=>
  intro hov hpa
  replace ihx:Sound DL C P n m pn cal H x:=ihx (fun id ops draw h=>hov id ops draw (.inl h)) (fun id ops h=>hpa id ops (.inl h))
  replace ihy:Sound DL C P n m pn cal H y:=ihy (fun id ops draw h=>hov id ops draw (.inr h)) (fun id ops h=>hpa id ops (.inr h))
  intro R S K r h θ a w hr Q hQ
  simp only [exec] at h
  split at h
  ·rename_i t ht
   refine wp_cond (bool?_ok hr ht) ?_
   cases t with
   | true=>exact ihx S K r h θ a w hr Q hQ
   | false=>exact ihy S K r h θ a w hr Q hQ
  ·cases h
 | block id b ih=>
  intro hov hpa
  replace ih:Sound DL C P n m pn cal H b:=ih (fun id ops draw h=>hov id ops draw h) (fun id ops h=>hpa id ops h)
  intro R S K r h θ a w hr Q hQ
  refine wp_block ?_
  refine ih S _ r h θ a w hr _ (fun e S' θ' a' w' hk hr' hd'=>?_)
  cases e with
  | nrm=>exact hQ .nrm S' θ' a' w' hk hr' hd'
  | ext j=>
   dsimp only at hk
   simp only [Ex.all,Exit.inBlock]
   split at hk
   ·rename_i hj
    rw [if_pos (by simpa using hj)]
    exact hQ .nrm S' θ' a' w' hk hr' hd'
   ·rename_i hj
    rw [if_neg (fun he=>by subst he; simp at hj)]
    exact hQ (.ext j) S' θ' a' w' hk hr' hd'
  | ret=>exact hQ .ret S' θ' a' w' hk hr' hd'
  | pan=>exact hQ .pan S' θ' a' w' hk hr' hd'
 | loop b ih=>
  intro hov hpa
  replace ih:Sound DL C P n m pn cal H b:=ih (fun id ops draw h=>hov id ops draw h) (fun id ops h=>hpa id ops h)
  intro R S K r h θ a w hr Q hQ
  simp only [exec] at h
  split at h
  ·rename_i T hT
   split at h
   ·rename_i d hd
    obtain ⟨η,hη⟩:=canon_ok hr hpn hd
    exact wp_loop_rounds n (loop_ok hDL hpn ih (df:=a.defers) (fun e S' θ' a' w' h3 h4 h5=>hQ e S' θ' a' w' h3 h4 h5) n d h η a w hη (hDL.refl _))
   ·cases h
  ·cases h
 | scope b ih=>
  intro hov hpa
  replace ih:Sound DL C P n m pn cal H b:=ih (fun id ops draw h=>hov id ops draw h) (fun id ops h=>hpa id ops h)
  intro R S K r h θ a w hr Q hQ
  refine wp_scope_straight ?_
  refine ih S _ r h θ a w hr _ (fun e S' θ' a' w' hk hr' hd'=>?_)
  cases e with
  | nrm=>exact hQ .nrm S' θ' a' w' hk hr' hd'
  | ext j=>exact hQ (.ext j) S' θ' a' w' hk hr' hd'
  | ret=>exact hQ .ret S' θ' a' w' hk hr' hd'
  | pan=>exact hQ .pan S' θ' a' w' hk hr' hd'
 | label l=>intro _ _ R S K x h θ a w hr Q hQ; exact wp_label (hQ .nrm S θ a w h hr (hDL.refl _))
 | exit id=>intro _ _ R S K x h θ a w hr Q hQ; exact wp_exit (hQ (.ext id) S θ a w h hr (hDL.refl _))
 | ret=>intro _ _ R S K x h θ a w hr Q hQ; exact wp_ret (hQ .ret S θ a w h hr (hDL.refl _))
 | _=>intro _ _ R S K x h; cases h
end
end Go.Am
end
