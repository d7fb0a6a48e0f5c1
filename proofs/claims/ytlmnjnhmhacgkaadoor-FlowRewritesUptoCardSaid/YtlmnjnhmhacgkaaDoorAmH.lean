/-
  Comparing with nil, and copying into an array.
-/
import Derived.Test.YtlmnjnhmhacgkaaDoorAmC
import Derived.WalkSpells
section
set_option linter.unusedVariables false
set_option linter.unusedSimpArgs false
namespace Go.Am
open Go.RowKit
section
variable {C:Ctx} {S S' : St} {θ θ' : Nm→Option Value} {a:Act} {w w' : World} {n:Rp} {ok:Nat→Prop} {P:Program} {o:Oper}
theorem opIsNil_ok {op:BinOp} {t ty:TypeId} {x y:Operand} {neg:Bool} {u:AV} {N:Nat} (ho:o.op=.binOp op t x y ty) (hn:isNilC op y=some neg) (h:Rel C S θ a w) (hu:CV w (okOf C w S θ) θ u (a.eval x)) :
  ∃ c,∀ S',(opIsNil P o t neg u).exe ⟨N,c⟩ S=some S'→Does P C S' o a w:=by
 have hy:y=.const (.slice none 0 0)∧((op=.eql∧neg=false)∨(op=.neq∧neg=true)):=by
  unfold isNilC at hn
  split at hn
  ·split at hn <;> cases hn
   ·exact ⟨rfl,.inl ⟨rfl,rfl⟩⟩
   ·exact ⟨rfl,.inr ⟨rfl,rfl⟩⟩
  ·cases hn
 obtain ⟨rfl,hop⟩:=hy
 by_cases hP:∃ e,P.underlying t=some (.slice e)
 rotate_left
 ·refine ⟨0,fun S' hh=>?_⟩
  unfold opIsNil at hh
  split at hh
  ·rename_i e he; exact (hP ⟨e,he⟩).elim
  ·exact (exe_fail hh).elim
 obtain ⟨e,ht⟩:=hP
 have run:∀ (A:Option Addr) (m c:Nat),a.eval x=.slice A m c→(execOp a.eval o).run P w=.ok (.value (.bool (A.isNone != neg))) w:=by
  intro A m c hx
  have hg:(eqGuard op t x (.const (.slice none 0 0)) (.slice A m c) (.slice none 0 0)).run P w=.ok () w:=by
   rcases hop with ⟨rfl,_⟩ | ⟨rfl,_⟩ <;> simp [eqGuard]
  have hcst:a.eval (.const (.slice none 0 0))=.slice none 0 0:=rfl
  simp only [execOp,ho,Sem.run_bind,hx,hcst,hg,Result.andThen_ok]
  rcases hop with ⟨rfl,rfl⟩ | ⟨rfl,rfl⟩
  ·rw [Go.Lib.run_eql_slice_nil _ _ _ _ _ _ _ _ ht]
   simp
  ·rw [run_neq_slice_nil_any _ _ _ _ _ _ _ _ ht]
   simp
 have ask:∀ (A:Option Addr) (m c:Nat) (b:Bool),a.eval x=.slice A m c→(b=false→A.isNone=false)→∀ S',(nilAsk o neg b).exe ⟨N,if A.isNone then 0 else 1⟩ S=some S'→Does P C S' o a w:=by
  intro A m c b hx hb S' hh
  refine Does.value (run A m c hx) (put_ok' (x:=.bool (A.isNone != neg)) (n:=⟨N,if A.isNone then 0 else 1⟩) ?_ h rfl)
  unfold nilAsk at hh
  rcases exe_br hh with ⟨h1,h2⟩ | ⟨h1,h2⟩
  ·cases A with
   | none=>exact h2
   | some ad=>
    have e:(Nat.beq 1 0 != neg)=((some ad:Option Addr).isNone != neg):=rfl
    rw [←e]
    exact h2
  ·have e:(A.isNone != neg)=neg:=by rw [hb h1]; cases neg <;> rfl
   rw [e]
   exact h2
 unfold opIsNil
 rw [ht]
 cases u <;> first | exact ⟨0,fun S' hh=>(exe_fail hh).elim⟩ | skip
 ·refine ⟨0,fun S' hh=>?_⟩
  have hx:a.eval x=.slice none 0 0:=hu
  exact Does.value (run none 0 0 hx) (put_ok' (x:=.bool (!neg)) hh h (by cases neg <;> rfl))
 ·rename_i k xs
  obtain ⟨A,c,hx,hc,hA⟩:=hu
  refine ⟨_,fun S' hh=>ask A _ c xs.isEmpty hx (fun hb=>?_) S' hh⟩
  cases xs with
  | nil=>cases hb
  | cons x xs=>obtain ⟨ad,rfl,_⟩:=hA (by simp); rfl
 ·rename_i k xs
  obtain ⟨A,c,cs,hx,hc,hw,hcs,hA⟩:=hu
  refine ⟨_,fun S' hh=>ask A _ c xs.isEmpty hx (fun hb=>?_) S' hh⟩
  cases xs with
  | nil=>cases hb
  | cons x xs=>obtain ⟨ad,rfl,_⟩:=hA (by simp); rfl
theorem opCopy_ok {td ts:TypeId} {d s:Operand} {ud us:AV} (ho:o.op=.call { callee:=.builtin .copy,args:=#[d,s],argTypes:=#[td,ts] }) (h:Rel C S θ a w)
  (hd:CV w (okOf C w S θ) θ ud (a.eval d)) (hs:CV w (okOf C w S θ) θ us (a.eval s)) (hh:(opCopy P o td ud us).exe n S=some S'):Does P C S' o a w:=by
 unfold opCopy at hh
 split at hh <;> first | exact (exe_fail hh).elim | skip
 rename_i e ht
 split at hh <;> first | exact (exe_fail hh).elim | skip
 rename_i k dn oo m off len hk
 obtain ⟨hsz,hh⟩:=exe_must hh
 obtain ⟨hty,hsz⟩:=szIs_ok hsz
 obtain ⟨x',l,hh,hwt,hcv⟩:=snap_ok h 2 (.fs k) us _ _ hs hh
 obtain ⟨ys,rfl⟩:=hwt
 obtain ⟨A,c,hxv,hlc,hcl⟩:=hcv
 simp only at hh
 obtain ⟨hnc,hh⟩:=exe_must hh
 obtain ⟨hpos,hh⟩:=exe_chk hh
 rw [Bool.and_eq_true] at hpos
 have hp1:=Nat.le_of_ble_eq_true hpos.1
 have hp2:=Nat.le_of_ble_eq_true hpos.2
 obtain ⟨Ad,cd,hdv,hlen,hin,hwin⟩:=hd
 obtain ⟨g,hd',rfl⟩:=hwin (by omega)
 obtain ⟨ad,rfl,_,hcell⟩:=hcl (by omega)
 replace hh:=exe_obj hh
 cases hob:S.obj dn with
 | none=>rw [hob] at hh; exact (exe_fail hh).elim
 | some ob=>
 rw [hob] at hh
 cases ob <;> first | exact (exe_fail hh).elim | skip
 rename_i tr
 simp only at hh
 split at hh <;> first | exact (exe_fail hh).elim | skip
 rename_i k' m' xs hr
 obtain ⟨hm,hh⟩:=exe_must hh
 simp only [Bool.and_eq_true,beq_iff_eq] at hm
 obtain ⟨hkk,hnn⟩:=hm
 subst hkk
 have hn:=Nat.eq_of_beq_eq_true hnn
 subst hn
 obtain ⟨g',e',fr,v,h1,h2,h3,h4,h5,h6⟩:=h.ob hob hd'
 have h1':=h1
 rw [hd'] at h1
 cases h1
 obtain ⟨va,usa,wsa,p1,p2,⟨p3,rfl⟩,p4,p5,p6⟩:=getAt_ok tr h4 h5 hr
 have hzl:(ys.take len).length=min ys.length len:=by rw [List.length_take,Nat.min_comm]
 generalize hz:ys.take len=zs at *
 have hzl1:zs.length≤len:=by rw [hzl]; omega
 have hlx:xs.length=m:=p3
 have hcl2:(copyL xs off zs).length=m:=by
  simp only [copyL,List.length_append,List.length_take,List.length_drop]
  omega
 have hset:CV w (okOf C w S θ) θ (.arr k m (copyL xs off zs)) (.agg (ints k (copyL xs off zs)).toArray):=⟨hcl2,rfl⟩
 obtain ⟨v2,v0,us',ws,k1,k2,k3,k4,k5,k6⟩:=setAt_ok tr (y:=.arr k m (copyL xs off zs)) h4 h5 hr hset (by simp [Value.cells,ints,AV.width,hcl2])
 have ea:∀ l:List Int,(Value.agg (ints k l).toArray).cells.toList=ints k l:=fun l=>by simp [Value.cells]
 rw [ea] at p1 k5
 obtain ⟨e1,e2⟩:=append_inj_len (p1.symm.trans k1) (by rw [p2,k2])
 obtain ⟨e3,e4⟩:=append_inj_len e2 (by rw [ints_length,p3,k3]; rfl)
 subst e1
 subst e3
 subst e4
 have hsp:xs=xs.take off++((xs.drop off).take zs.length++xs.drop (off+zs.length)):=by
  rw [←List.drop_drop,List.take_append_drop,List.take_append_drop]
 have hia:∀ l l' : List Int,ints k (l++l')=ints k l++ints k l':=fun l l'=>by simp [ints]
 have hcv:v.cells.toList=(usa++ints k (xs.take off))++(ints k ((xs.drop off).take zs.length)++(ints k (xs.drop (off+zs.length))++wsa)):=by
  rw [k1]
  conv=>lhs; rw [hsp]
  simp only [hia,List.append_assoc]
 have hheap:w.heap[g]? = some (.cells ((usa++ints k (xs.take off))++(ints k ((xs.drop off).take zs.length)++(ints k (xs.drop (off+zs.length))++wsa))).toArray e' fr):=by
  rw [h2]
  congr 2
  apply Array.ext'
  rw [hcv]
 have hone:∀ u∈ints k zs,u.oneCell' = true:=by
  intro u hu
  simp only [ints,List.mem_map] at hu
  obtain ⟨_,_,rfl⟩:=hu
  rfl
 obtain ⟨w',q1,q2,q3,q4,q5,q6,q7⟩:=storeCells_ok P (ints k zs) (usa++ints k (xs.take off)) (ints k (xs.drop (off+zs.length))++wsa) (ints k ((xs.drop off).take zs.length)) 0 (oo+off) w hheap
  (by simp only [ints_length,List.length_take,List.length_drop]; omega) (by rw [List.length_append,p2,ints_length,List.length_take,Nat.min_eq_left (by omega)]; rfl) (h3.same (by
   rw [←Array.length_toList,←Array.length_toList,hcv])) hone
 have hfc:(Builtin.firstCells 1 zs.length (a.eval s)).run P w=.ok (ints k zs).toArray w:=by
  have hxs:a.eval s=.slice (some ad) ys.length c:=hxv
  rw [hxs]
  have hz' : ints k zs=(ints k ys).take len:=by rw [←hz]; simp [ints,List.map_take]
  have hcz:cellsAt w ad (ints k zs):=fun j u hj=>by
   rw [hz',List.getElem?_take] at hj
   split at hj
   ·exact hcell j u hj
   ·cases hj
  have:=run_loadCells_list (P:=P) w ad (ints k zs) hcz
  rw [ints_length] at this
  have hcond:zs.length≤ys.length:=by rw [hzl]; omega
  simpa [Builtin.firstCells] using this
 have hinfo:∃ i,P.info? e=some i∧i.size=1:=by
  obtain ⟨i,u,hi,_⟩:=typOk_info hty
  exact ⟨i,hi,by simpa [sizeT,hi] using hsz⟩
 obtain ⟨i,hi,hi1⟩:=hinfo
 have hrun:(execOp a.eval o).run P w=.ok (.value (.int .i64 ((min ys.length len:Nat):Int))) w':=by
  have hln:∀ W,(Builtin.lenOf (a.eval s)).run P W=.ok ys.length W:=by intro W; rw [hxv]; rfl
  have hmin:Nat.min ys.length len=zs.length:=by rw [hzl]
  have hcp:(Builtin.copy_ #[td,ts] o.type #[a.eval d,a.eval s]).run P w=.ok (goInt zs.length) w':=by
   rw [hdv]
   simp only [Builtin.copy_]
   simp [run_underlying ht,hln,sizeOf,typeInfo,hi,hi1,hmin,hfc,q1]
  rw [hzl] at hcp
  simp only [execOp,ho,resolve,invoke,builtin,Sem.run_bind,Sem.run_pure,Result.andThen_ok,List.map_toArray,List.map_cons,List.map_nil,hcp]
  rfl
 have hcells:((usa++ints k (xs.take off))++(ints k zs++(ints k (xs.drop (off+zs.length))++wsa))).toArray=v2.cells:=by
  apply Array.ext'
  rw [k5]
  simp only [copyL,hia,List.toList_toArray,List.append_assoc]
 rw [hcells] at q2
 have hs2:v2.cells.size=v.cells.size:=by
  rw [←Array.length_toList,←Array.length_toList,k5,k1]
  simp only [List.length_append,ints_length,hcl2,hlx]
 obtain ⟨S1,r1,r2⟩:=h.write hob rfl h1' rfl ⟨q3,q4,q5,q6,q7⟩ (o':=.box (setAt tr oo (.arr k m (copyL xs off zs)))) (fun ok' hk=>⟨g,e',fr,v2,h1',q2,h3.same hs2,CV_mono hk _ _ k4,by rw [hs2,h5,k6],h6⟩) hh
 exact Does.value hrun (put_ok' r1 r2 rfl)
end
end Go.Am
end
