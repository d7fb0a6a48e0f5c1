/-
  Zero values and what lies in memory.
-/
import Derived.Test.YtlmnjnhmhacgkaaDoorAmC
section
set_option linter.unusedVariables false
set_option linter.unusedSimpArgs false
namespace Go.Am
open Go.RowKit
section
variable {C:Ctx} {S S' : St} {θ θ' : Nm→Option Value} {a:Act} {w w' : World} {n:Rp} {ok:Nat→Prop} {P:Program} {o:Oper}
theorem run_append_zeros {M:Nat→Prop} {t tn ty e:TypeId} {kn kx:IntKind} {y:Int} {i:TypeInfo} {z:Value} {size bytes:Nat} (ht:P.underlying t=some (.slice e)) (hi:P.info? e=some i) (hz:i.zero=some z)
  (hsize:i.size=size) (hby:i.bytes=bytes) (hzs:z.cells.size=size) (hsz:0<size)
  {v:Value} {m k:Nat} {xs news:List Value} (hown:OwnRow w M e size v m xs) (hB:M w.heap.size) (htn:P.underlying tn=some (.int kn))
  (hy0:0≤IntKind.i64.wrap y) (hyk:k=(IntKind.i64.wrap y).toNat) (hnews:news=(Builtin.zeroCells z.cells k).toList) (hl:news.length=k * size) (h1:∀ u∈news,u.oneCell' = true)
  (h63:m+k≤maxLen) (hbytes:(m+k) * bytes≤140737488355328) :
  ∃ v' w',(Builtin.append_ #[t,tn] ty #[v,.int kx y]).run P w=.ok v' w'∧OwnRow w' M e size v' (m+k) (xs++news)∧(∀ b,b<w.heap.size→blk v≠some b→w'.heap[b]? = w.heap[b]?)∧
   w.heap.size≤w'.heap.size∧w'.os=w.os∧w'.tape=w.tape∧Out w w'∧(∀ b,blk v' = some b→blk v=some b∨w.heap.size≤b)∧base0 v'∧∃ A c,v' = .slice A (m+k) c:=by
 subst hsize
 subst hby
 have hneg:¬ IntKind.i64.wrap y<0:=by omega
 have hbig:¬ IntKind.i64.wrap y * (i.bytes:Int) > 2 ^ 48:=by
  have h1:((k * i.bytes:Nat):Int)≤140737488355328:=by
   have:k * i.bytes≤(m+k) * i.bytes:=Nat.mul_le_mul_right _ (by omega)
   omega
  have h2:IntKind.i64.wrap y=(k:Int):=by rw [hyk]; omega
  rw [h2]
  have h3:((k * i.bytes:Nat):Int)=(k:Int) * (i.bytes:Int):=by simp
  omega
 have hk0:k * i.size=0→news=[]:=fun h=>List.eq_nil_of_length_eq_zero (by rw [hl,h])
 have hap:∀ W,(if k * i.size=0 then pure #[] else do pure (Builtin.zeroCells (←zeroValue e).cells k):Sem (Array Value)).run P W=.ok news.toArray W:=by
  intro W
  by_cases h0:k * i.size=0
  ·rw [if_pos h0,hk0 h0]
   simp
  ·rw [if_neg h0,hnews]
   simp only [zeroValue,Sem.run_bind,typeInfo,run_program,hi,hz,Sem.run_pure,Result.andThen_ok,Array.toArray_toList]
 have hsmall:m+k≤9223372036854775807:=by simp only [maxLen] at h63; omega
 have hlen:(xs++news).length=(m+k) * i.size:=by rw [List.length_append,hown.1,hl,Nat.add_mul]
 have grown:∀ (old:Nat),old<m+k→
   OwnRow (w.drew.alloc (.cells (xs.toArray++news.toArray++Builtin.zeroCells z.cells (grownCap w (m+k) old e - (m+k))) e)) M e i.size
    (.slice (some ⟨w.heap.size,0,none⟩) (m+k) (grownCap w (m+k) old e)) (m+k) (xs++news):=by
  intro old ho
  have hge:=grownCap_ge w (m+k) old e
  have hcm:=grownCap_le_maxLen w (m+k) old e h63
  refine ⟨hlen,.inr ⟨w.heap.size,_,_,(0,0),rfl,hB,heap_alloc_new w.drew _,free00 _,hge,hcm,?_,?_⟩⟩
  ·simp only [Array.size_append,List.size_toArray,size_zeroCells,hzs,hown.1,hl,←Nat.add_mul]
   congr 1
   omega
  ·simp only [Array.toList_append,List.append_assoc]
   rw [←List.append_assoc,←hlen]
   exact List.take_left
 have grow:∀ (base:Option Addr) (cap:Nat),v=.slice base m cap→cap<m+k→(∀ W:World,W.heap=w.heap→(Builtin.firstCells i.size m v).run P W=.ok xs.toArray W)→
   (Builtin.append_ #[t,tn] ty #[v,.int kx y]).run P w=.ok (.slice (some ⟨w.heap.size,0,none⟩) (m+k) (grownCap w (m+k) cap e))
    (w.drew.alloc (.cells (xs.toArray++news.toArray++Builtin.zeroCells z.cells (grownCap w (m+k) cap e - (m+k))) e)):=by
  intro base cap hv hlt hold
  have hno:¬ (m+k≤cap):=by omega
  have h63' : ¬ ((m+k:Nat):Int) > IntKind.i64.max:=by
   have:IntKind.i64.max=9223372036854775807:=by decide
   rw [this]
   omega
  have hfit:¬ Builtin.nextslicecap (m+k) cap * i.bytes > 2 ^ 48:=by
   have:=growslice_fits hlt hbytes
   omega
  subst hv
  unfold Builtin.append_
  simp only [List.getElem?_toArray,List.getElem?_cons_zero,List.getElem?_cons_succ,Sem.run_bind,run_underlying ht,run_underlying htn,Result.andThen_ok,sizeOf,typeInfo,run_program,hi,Sem.run_pure,asInt]
  simp only [if_true,asIntOf,Sem.run_bind,Sem.run_pure,Result.andThen_ok,hneg,if_false,typeInfo,run_program,hi,hbig,←hyk,hno,h63',false_and,hfit,Bool.not_true,Bool.false_eq_true]
  simp only [run_choose,Question.forced,Bool.false_eq_true,if_false,Result.andThen_ok,run_askRoom,Sem.run_bind,Bool.not_false,if_true]
  have hW:({ w with drawn:=w.drawn+1 }:World).heap=w.heap:=rfl
  rw [hold _ hW]
  simp only [Result.andThen_ok,true_or,and_true]
  rw [hap]
  simp only [Result.andThen_ok,zeroValue,Sem.run_bind,typeInfo,run_program,hi,hz,Sem.run_pure]
  rfl
 rcases hown.2 with ⟨rfl,rfl⟩ | ⟨g,cap,cur,fr,rfl,hbg,hg,hfree,hnc,hcm,hcs,htake⟩
 ·have hx:xs=[]:=List.eq_nil_of_length_eq_zero (by simpa using hown.1)
  subst hx
  by_cases hm:k=0
  ·subst hm
   have hn:news=[]:=List.eq_nil_of_length_eq_zero (by simpa using hl)
   subst hn
   refine ⟨.slice none 0 0,w,?_,⟨by simp,.inl ⟨rfl,rfl⟩⟩,fun _ _ _=>rfl,Nat.le_refl _,rfl,rfl,⟨rfl,.inr trivial⟩,(by intro b hb; cases hb),base0_nil,none,0,rfl⟩
   unfold Builtin.append_
   simp only [List.getElem?_toArray,List.getElem?_cons_zero,List.getElem?_cons_succ,Sem.run_bind,run_underlying ht,run_underlying htn,Result.andThen_ok,sizeOf,typeInfo,run_program,hi,Sem.run_pure,asInt]
   simp only [if_true,asIntOf,Sem.run_bind,Sem.run_pure,Result.andThen_ok,hneg,if_false,typeInfo,run_program,hi,hbig,←hyk,Nat.add_zero,Nat.le_refl,Bool.not_true,Bool.false_eq_true]
   rw [hap]
   rfl
  ·have hr:=grow none 0 rfl (by omega) (fun W _=>by simp [Builtin.firstCells])
   exact ⟨_,_,hr,grown 0 (by omega),(fun b hb _=>heap_alloc_old w.drew _ b hb),by simp,rfl,rfl,⟨rfl,.inr trivial⟩,(by intro b hb; cases hb; exact .inr (Nat.le_refl _)),base0_row _ _ _,_,_,rfl⟩
 ·by_cases hroom:m+k≤cap
  ·have hfit:m * i.size+k * i.size≤cur.size:=by rw [hcs,←Nat.add_mul]; exact Nat.mul_le_mul_right _ hroom
   have hcl:cur.toList.length=cap * i.size:=by rw [Array.length_toList,hcs]
   have hsp:cur.toList=xs++((cur.toList.drop (m * i.size)).take (k * i.size)++cur.toList.drop (m * i.size+k * i.size)):=by
    conv=>lhs; rw [←List.take_append_drop (m * i.size) cur.toList,htake,←List.take_append_drop (k * i.size) (cur.toList.drop (m * i.size)),List.drop_drop]
   have hheap:w.heap[g]? = some (.cells (xs++((cur.toList.drop (m * i.size)).take (k * i.size)++cur.toList.drop (m * i.size+k * i.size))).toArray e fr):=by rw [←hsp,toArray_toList']; exact hg
   obtain ⟨w',q1,q2,q3,q4,q5,q6,q7⟩:=storeCells_ok P news xs (cur.toList.drop (m * i.size+k * i.size)) ((cur.toList.drop (m * i.size)).take (k * i.size)) 0 (m * i.size) w hheap
    (by rw [List.length_take,List.length_drop,hl,Nat.min_eq_left (by rw [Array.length_toList]; omega)]) (by rw [hown.1]; rfl) (by rw [←hsp,toArray_toList']; exact hfree) h1
   refine ⟨.slice (some ⟨g,0,none⟩) (m+k) cap,w',?_,⟨hlen,.inr ⟨g,cap,_,fr,rfl,hbg,q2,hfree.same ?_,hroom,hcm,?_,?_⟩⟩,fun b _ hb=>q3 b (fun e=>hb (by rw [e]; rfl)),by rw [q4]; exact Nat.le_refl _,q5,q6,q7,(by intro b hb; exact .inl hb),base0_row _ _ _,_,_,rfl⟩
   ·unfold Builtin.append_
    simp only [List.getElem?_toArray,List.getElem?_cons_zero,List.getElem?_cons_succ,Sem.run_bind,run_underlying ht,run_underlying htn,Result.andThen_ok,sizeOf,typeInfo,run_program,hi,Sem.run_pure,asInt]
    simp only [if_true,asIntOf,Sem.run_bind,Sem.run_pure,Result.andThen_ok,hneg,if_false,typeInfo,run_program,hi,hbig,←hyk,hroom,Bool.not_true,Bool.false_eq_true]
    rw [hap]
    simp only [Result.andThen_ok,add_lit,Nat.zero_add,q1,Sem.run_pure,Sem.run_bind]
   ·rw [List.size_toArray,←Array.length_toList]
    conv=>rhs; rw [hsp]
    simp only [List.length_append,hl,List.length_take,List.length_drop]
    rw [Nat.min_eq_left (by rw [Array.length_toList]; omega)]
   ·rw [List.size_toArray,←hcl]
    conv=>rhs; rw [hsp]
    simp only [List.length_append,hl,List.length_take,List.length_drop]
    rw [Nat.min_eq_left (by rw [Array.length_toList]; omega)]
   ·rw [List.toList_toArray,←List.append_assoc,←hlen,List.take_left]
  ·have holds:=hown.cells.1
   have hr:=grow (some ⟨g,0,none⟩) cap rfl (by omega) (fun W hW=>by
    simp only [Builtin.firstCells]
    have hc:cellsAt W ⟨g,0,none⟩ xs:=fun j u hj=>by
     have:=holds j u hj
     simpa [World.cell?,hW] using this
    have:=run_loadCells' (P:=P) hc
    rwa [hown.1] at this)
   exact ⟨_,_,hr,grown cap (by omega),(fun b hb _=>heap_alloc_old w.drew _ b hb),by simp,rfl,rfl,⟨rfl,.inr trivial⟩,(by intro b hb; cases hb; exact .inr (Nat.le_refl _)),base0_row _ _ _,_,_,rfl⟩
theorem opAppendZ_ok {ts tx:TypeId} {kn:IntKind} {s x:Operand} {us ux:AV} (ho:o.op=.call { callee:=.builtin .append,args:=#[s,x],argTypes:=#[ts,tx] }) (htn:P.underlying tx=some (.int kn)) (h:Rel C S θ a w)
  (hs:CV w (okOf C w S θ) θ us (a.eval s)) (hx:CV w (okOf C w S θ) θ ux (a.eval x)) (hh:(opAppendZ P o ts us ux).exe n S=some S'):Does P C S' o a w:=by
 unfold opAppendZ at hh
 split at hh <;> first | exact (exe_fail hh).elim | skip
 rename_i e dd kx y he hdd
 have ht:=elemT_ok he
 have hxv:a.eval x=.int kx y:=hx
 split at hh <;> first | exact (exe_fail hh).elim | skip
 rename_i k i hk hi
 split at hh <;> first | exact (exe_fail hh).elim | skip
 rename_i z hz
 obtain ⟨hm,hh1⟩:=exe_must hh
 clear hh
 simp only [Bool.and_eq_true] at hm
 obtain ⟨hz0,hs1,hby,hty⟩:=hm
 have hs1:=Nat.eq_of_beq_eq_true hs1
 have hby:=Nat.le_of_ble_eq_true hby
 have hzv:z=.int k 0:=cvB_ok (w:=w) (ok:=okOf C w S θ) (θ:=θ) (.int k 0) z hz0
 subst hzv
 have run:∀ (v' : Value) (w' : World),(Builtin.append_ #[ts,tx] o.type #[a.eval s,.int kx y]).run P w=.ok v' w'→(execOp a.eval o).run P w=.ok (.value v') w':=by
  intro v' w' hr
  simp only [execOp,ho,resolve,invoke,builtin,Sem.run_bind,Sem.run_pure,Result.andThen_ok,List.map_toArray,List.map_cons,List.map_nil,hxv,hr]
 have hzc:∀ m,(Builtin.zeroCells (Value.int k 0).cells m).toList=ints k (List.replicate m 0):=by
  intro m
  apply List.ext_getElem?
  intro j
  simp only [Builtin.zeroCells,Value.cells,ints,Array.toList_map,Array.toList_range,List.getElem?_map,List.getElem?_range,List.getElem?_replicate]
  by_cases hj:j<m
  ·simp [hj,Nat.mod_one]
  ·simp [hj]
 have hone:∀ m,∀ u∈ints k (List.replicate m 0),u.oneCell' = true:=by
  intro m u hu
  simp only [ints,List.mem_map] at hu
  obtain ⟨_,_,rfl⟩:=hu
  rfl
 have big:∀ m q:Nat,Nat.ble ((m+q) * i.bytes) 140737488355328=true→m+q≤maxLen∧(m+q) * i.bytes≤140737488355328:=by
  intro m q hb
  have hb:=Nat.le_of_ble_eq_true hb
  have h1:(m+q) * 1≤(m+q) * i.bytes:=Nat.mul_le_mul_left _ hby
  exact ⟨by unfold maxLen; omega,hb⟩
 simp only at hh1
 split at hh1 <;> first | exact (exe_fail hh1).elim | skip
 ·have hsv:a.eval s=.slice none 0 0:=hs
  obtain ⟨hb,hh4⟩:=exe_chk hh1
  rw [Bool.and_eq_true] at hb
  have hy0:0≤IntKind.i64.wrap y:=by simpa using hb.1
  obtain ⟨hb1,hb2⟩:=big 0 _ hb.2
  have hh5:=exe_obj hh4
  cases hq:S.obj (.top dd) with
  | some q=>rw [hq] at hh5; exact (exe_fail hh5).elim
  | none=>
   rw [hq] at hh5
   have hS:=exe_done (exe_setSlot (exe_setObj hh5))
   obtain ⟨v',w',r1,r2,r3,r4,r5,r6,r7,r8,r9,A',c',r10⟩:=run_append_zeros (P:=P) (ty:=o.type) (kx:=kx) (y:=y) ht hi hz hs1 rfl rfl (by omega) (M:=C.M) (v:=.slice none 0 0) (m:=0) (xs:=[]) (news:=ints k (List.replicate (IntKind.i64.wrap y).toNat 0)) ⟨by simp,.inl ⟨rfl,rfl⟩⟩ (.inl h.size) htn hy0 rfl (hzc _).symm (by simp [ints]) (hone _) hb1 hb2
   rw [←hsv] at r1
   have hw:Later w w':=⟨⟨r5,r6,r7.1,r4,fun b hb=>r3 b hb (by simp [blk])⟩,r7.2⟩
   rw [hS]
   have hrel:=h.born (b:=.row true e k ([]++List.replicate (IntKind.i64.wrap y).toNat 0)) (v:=v') hq hw (fun g hg=>by rcases r8 g hg with hh | hh; exact (by cases hh); exact hh) r9
    (fun ok' hk=>⟨v',upd_self _ _ _,fun _=>by simpa using r2,fun h=>by cases h⟩)
   refine Does.value (run v' w' r1) (θ':=upd θ (.top dd) v') ?_
   rw [hdd]
   exact hrel.put ⟨upd_self _ _ _,A',_,c',r10⟩
 ·rename_i d
  obtain ⟨hd,A0,m0,c0,hsv⟩:=hs
  have hh4:=exe_obj hh1
  clear hh1
  split at hh4 <;> first | exact (exe_fail hh4).elim | skip
  rename_i oq hob
  split at hh4 <;> first | exact (exe_fail hh4).elim | skip
  rename_i e' xs has
  obtain ⟨hm3,hh5⟩:=exe_must hh4
  have he':=Nat.eq_of_beq_eq_true hm3
  subst he'
  obtain ⟨hb,hh6⟩:=exe_chk hh5
  rw [Bool.and_eq_true] at hb
  have hy0:0≤IntKind.i64.wrap y:=by simpa using hb.1
  obtain ⟨hb1,hb2⟩:=big xs.length _ hb.2
  have hh7:=exe_obj hh6
  cases hq:S.obj (.top dd) with
  | some q=>rw [hq] at hh7; exact (exe_fail hh7).elim
  | none=>
   rw [hq] at hh7
   obtain ⟨hisO,v,v1,v2⟩:=asRow_ok h hob (h.has_of hd) has
   obtain ⟨dt,rfl,hh8⟩:=wrT_top hh7
   have hS:=exe_done (exe_setSlot (exe_setObj hh8))
   rw [hd] at v1
   cases v1
   obtain ⟨v',w',r1,r2,r3,r4,r5,r6,r7,r8,r9,A',c',r10⟩:=run_append_zeros (P:=P) (ty:=o.type) (kx:=kx) (y:=y) ht hi hz hs1 rfl rfl (by omega) (news:=ints k (List.replicate (IntKind.i64.wrap y).toNat 0)) v2 (.inl h.size) htn hy0 rfl (hzc _).symm (by simp [ints]) (hone _) hb1 hb2
   rw [hS]
   have hrel:=h.moved (ob:=.row true e k (xs++List.replicate (IntKind.i64.wrap y).toNat 0)) hob hisO hd hq ⟨r3,r4,r5,r6,r7,r8,r9⟩
    (fun ok' hk=>⟨v',upd_self _ _ _,fun _=>by rw [List.length_append,List.length_replicate]; simpa [ints] using r2,fun h=>by cases h⟩)
   refine Does.value (run v' w' r1) (θ':=upd θ (.top dd) v') ?_
   rw [hdd]
   exact hrel.put ⟨upd_self _ _ _,A',_,c',r10⟩
theorem madeCells_list (L:Array Value) (sz:Nat) (hL:L.size=sz) (hs:0<sz):∀ m,(madeCells L (m * sz)).toList=(List.replicate m L.toList).flatten
 | 0=>by simp [madeCells]
 | m+1=>by
  have ih:=madeCells_list L sz hL hs m
  simp only [madeCells,Array.toList_map,Array.toList_range] at ih ⊢
  rw [Nat.add_mul,Nat.one_mul,List.range_add,List.map_append,ih,List.replicate_succ',List.flatten_append,List.flatten_singleton,List.map_map]
  congr 1
  apply List.ext_getElem?
  intro j
  simp only [List.getElem?_map,List.getElem?_range,Function.comp,Array.getElem?_toList]
  by_cases hj:j<sz
  ·rw [List.getElem?_range hj]
   simp only [Option.map_some,hL,Nat.add_comm (m * sz),Nat.add_mul_mod_self_right,Nat.mod_eq_of_lt hj]
   rw [Array.getElem?_eq_getElem (by omega)]
   congr 1
   show L[(j+m * sz) % sz]! = _
   rw [Nat.add_mul_mod_self_right,Nat.mod_eq_of_lt hj]
   exact getElem!_pos L j (by omega)
  ·rw [List.getElem?_eq_none (by simpa using hj),Array.getElem?_eq_none (by omega)]
   rfl
theorem CVs_replicate {ok' : Nat→Prop} {x:AV} {v:Value} (hc:CV w ok' θ x v) (hs:v.cells.size=x.width):∀ m,CVs w ok' θ (List.replicate m x) (List.replicate m v.cells.toList).flatten
 | 0=>rfl
 | m+1=>⟨v,_,by rw [List.replicate_succ,List.flatten_cons],hs,hc,CVs_replicate hc hs m⟩
theorem opMakeS_ok {t:TypeId} {l c:Operand} {ul uc:AV} (ho:o.op=.makeSlice t l c) (h:Rel C S θ a w) (hl:CV w (okOf C w S θ) θ ul (a.eval l)) (hc:CV w (okOf C w S θ) θ uc (a.eval c))
  (hh:(opMakeS P C.E o t ul uc).exe n S=some S'):Does P C S' o a w:=by
 unfold opMakeS at hh
 split at hh <;> first | exact (exe_fail hh).elim | skip
 rename_i k1 p k2 q e he
 have hl' : a.eval l=.int k1 p:=hl
 have hc' : a.eval c=.int k2 q:=hc
 have ht:=elemT_ok he
 split at hh <;> first | exact (exe_fail hh).elim | skip
 rename_i s z i hsh hza hi
 split at hh <;> first | exact (exe_fail hh).elim | skip
 rename_i v hz
 obtain ⟨hm,hh1⟩:=exe_must hh
 obtain ⟨hb,hh2⟩:=exe_chk hh1
 simp only [Bool.and_eq_true,beq_iff_eq,decide_eq_true_eq] at hm hb
 obtain ⟨hz0,hvs,hfit,hs1,hs3,hs2⟩:=hm
 obtain ⟨hb0,rfl,hb2⟩:=hb
 have hvs:=Nat.eq_of_beq_eq_true hvs
 have hs1:=Nat.eq_of_beq_eq_true hs1
 have hs2:=Nat.le_of_ble_eq_true hs2
 have hs3:=Nat.le_of_ble_eq_true hs3
 have hwt:=fit_WT _ _ hfit
 have hwid:z.width=s.width:=by rw [←nrm_width s z]; exact WT_width s _ hwt
 have hp:p≤140737488355328:=by
  have:p * 1≤p * (i.bytes:Int):=Int.mul_le_mul_of_nonneg_left (by omega) hb0
  omega
 have hrun:=run_make (P:=P) w t e i _ ht hi hz k1 k2 p p hb0 (Int.le_refl _) (by rw [Int.mul_comm]; omega) (by omega)
 have hcells:(madeCells v.cells (p.toNat * i.size)).toList=(List.replicate p.toNat v.cells.toList).flatten:=madeCells_list v.cells i.size (by rw [hvs,hwid,hs1]) (by omega) p.toNat
 have hlenC:((List.replicate p.toNat v.cells.toList).flatten).length=p.toNat * s.width:=by
  rw [←hcells,Array.length_toList,size_madeCells,hs1]
 obtain ⟨θ',hrel⟩:=newOb_ok (v:=.slice (some ⟨w.heap.size,0,none⟩) p.toNat p.toNat) h hh2 (Below.new w (.cells (madeCells v.cells (p.toNat * i.size)) e)) (by rintro g hg; cases hg; exact Nat.le_refl _) (base0_row _ _ _)
  (by
   intro d ok' θ' hk hd
   refine ⟨_,hd,(fun x hx=>by rw [List.eq_of_mem_replicate hx]; exact hwt),fun _=>⟨(List.replicate p.toNat v.cells.toList).flatten,CVs_replicate (CV_nrm s z v (cvB_ok z v hz0)) (by rw [hvs,nrm_width]) _,⟨by rw [hlenC,List.length_replicate],.inr ⟨w.heap.size,p.toNat,_,(0,0),by simp,.inl h.size,heap_alloc_new w _,free00 _,by simp,by unfold maxLen; omega,?_,?_⟩⟩⟩,fun h=>by cases h⟩
   ·rw [size_madeCells,hs1]
   ·rw [hcells,List.length_replicate,List.take_of_length_le (by rw [hlenC]; exact Nat.le_refl _)])
  (by intro d ok' θ' hd; exact ⟨hd,_,_,_,rfl⟩)
 refine Does.value ?_ hrel
 simp only [execOp,ho,hl',hc',Sem.run_bind,hrun,Result.andThen_ok,Sem.run_pure]
end
end Go.Am
end
