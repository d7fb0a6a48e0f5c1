/-
  Each operation of the interpreter is sound (second part).
-/
import Derived.Test.YtlmnjnhmhacgkaaDoorAmB
import Derived.Laws.Cover3
import Derived.Laws.Pointers
import Derived.Laws.BytesArg
import Derived.Lib.ConvBytes
import Derived.Laws.Tables
import Derived.Laws.MakeOwn
section
set_option linter.unusedVariables false
set_option linter.unusedSimpArgs false
namespace Go.Am
open Go.RowKit
section
variable {C:Ctx} {S S' : St} {θ θ' : Nm→Option Value} {a:Act} {w w' : World} {n:Rp} {ok:Nat→Prop} {P:Program} {o:Oper}
theorem bound_ok {x:Option AV} {v:Option Value} {dflt:Nat} {k:Int→Pg} (hx:OptCV w ok θ x v) (hh:(bound x dflt k).exe n S=some S') :
  ∃ i:Int,((v=none∧i=dflt)∨∃ kd,v=some (.int kd i))∧(k i).exe n S=some S':=by
 unfold bound at hh
 split at hh
 ·cases v with
  | none=>exact ⟨dflt,.inl ⟨rfl,rfl⟩,hh⟩
  | some v=>exact hx.elim
 ·rename_i kd i
  cases v with
  | none=>exact hx.elim
  | some v=>
   have:v=.int kd i:=hx
   subst this
   exact ⟨i,.inr ⟨kd,rfl⟩,hh⟩
 ·exact (exe_fail hh).elim
theorem run_sliceBound {kd:IntKind} {i:Int} {y:Nat} {code:BoundsCode} (h0:0≤i) (h1:i≤y):(Instr.sliceBound (.int kd i) y code).run P w=.ok i.toNat w:=by
 simp only [Instr.sliceBound,Sem.run_bind,asIntOf,Sem.run_pure,Result.andThen_ok,h0,h1,and_self,if_true]
theorem bounds_ok {lo hi mx:Option AV} {vl vh vm:Option Value} {len cap:Nat} {isS:Bool} {k:Nat→Nat→Pg} (hl:OptCV w ok θ lo vl) (hhi:OptCV w ok θ hi vh) (hm:OptCV w ok θ mx vm) (hc:len≤cap)
  (hh:(bounds lo hi mx len k).exe n S=some S'):∃ l h m:Nat,l≤h∧h≤len∧h≤m∧m≤cap∧(Instr.sliceBounds isS len cap vl vh vm).run P w=.ok (l,h,m) w∧(k l h).exe n S=some S':=by
 unfold bounds at hh
 obtain ⟨hmh,hh1⟩:=exe_must hh
 obtain ⟨m,hm1,hh2⟩:=bound_ok hm hh1
 obtain ⟨h,hh3,hh4⟩:=bound_ok hhi hh2
 obtain ⟨l,hl1,hh5⟩:=bound_ok hl hh4
 obtain ⟨hb,hh6⟩:=exe_chk hh5
 simp only [Bool.and_eq_true,decide_eq_true_eq] at hb
 obtain ⟨b1,b2,b3,b4⟩:=hb
 rcases hm1 with ⟨rfl,rfl⟩ | ⟨km,rfl⟩
 ·
  refine ⟨l.toNat,h.toNat,cap,by omega,by omega,by omega,Nat.le_refl _,?_,hh6⟩
  rcases hh3 with ⟨rfl,rfl⟩ | ⟨kh,rfl⟩ <;> rcases hl1 with ⟨rfl,rfl⟩ | ⟨kl,rfl⟩ <;>
   simp only [Instr.sliceBounds,Sem.run_bind,Sem.run_pure,Result.andThen_ok,Option.isSome_none,Bool.false_eq_true,if_false,Int.toNat_natCast,Int.toNat_zero]
  ·rw [run_sliceBound b1 (by omega)]
   simp
  ·rw [run_sliceBound (by omega) (by omega)]
   simp
  ·rw [run_sliceBound (by omega) (by omega)]
   simp only [Result.andThen_ok]
   rw [run_sliceBound b1 (by omega)]
   simp
 ·
  rcases hh3 with ⟨rfl,rfl⟩ | ⟨kh,rfl⟩
  ·
   cases hi with
   | some u=>exact hhi.elim
   | none=>cases mx with
    | none=>exact hm.elim
    | some _=>cases hmh
  ·refine ⟨l.toNat,h.toNat,m.toNat,by omega,by omega,by omega,by omega,?_,hh6⟩
   rcases hl1 with ⟨rfl,rfl⟩ | ⟨kl,rfl⟩ <;>
    simp only [Instr.sliceBounds,Sem.run_bind,Sem.run_pure,Result.andThen_ok,Option.isSome_some,if_true]
   ·rw [run_sliceBound (by omega) (by omega)]
    simp only [Result.andThen_ok]
    rw [run_sliceBound (by omega) (by omega)]
    simp
   ·rw [run_sliceBound (by omega) (by omega)]
    simp only [Result.andThen_ok]
    rw [run_sliceBound (by omega) (by omega)]
    simp only [Result.andThen_ok]
    rw [run_sliceBound b1 (by omega)]
    simp
theorem cellsAt_take {ad:Addr} {cs:List Value} (h:cellsAt w ad cs) (i m:Nat):cellsAt w (ad.add i) ((cs.drop i).take m):=fun j u hj=>by
 rw [add_add']
 refine h (i+j) u ?_
 rw [List.getElem?_take] at hj
 split at hj
 ·simpa using hj
 ·cases hj
theorem ints_drop_take (k:IntKind) (xs:List Int) (i m:Nat):ints k ((xs.drop i).take m)=((ints k xs).drop i).take m:=by simp [ints,List.map_take,List.map_drop]
theorem CV_cut_fs {k:IntKind} {xs:List Int} {A:Option Addr} {c l h m:Nat} (hu:CV w ok θ (.fs k xs) (.slice A xs.length c)) (h1:l≤h) (h2:h≤xs.length) (h3:h≤m) :
  CV w ok θ (.fs k ((xs.drop l).take (h - l))) (.slice (if m=l then A else A.map (·.add (l * 1))) (h - l) (m - l)):=by
 obtain ⟨A',c',e,hc,hr⟩:=hu
 cases e
 have hlen:((xs.drop l).take (h - l)).length=h - l:=by simp; omega
 refine ⟨_,m - l,by rw [hlen],by omega,fun h0=>?_⟩
 rw [hlen] at h0
 obtain ⟨ad,rfl,hok,hcl⟩:=hr (by omega)
 rw [if_neg (by omega)]
 refine ⟨ad.add (l * 1),rfl,by rw [block_add]; exact hok,?_⟩
 rw [ints_drop_take,Nat.mul_one]
 exact cellsAt_take hcl _ _
theorem CVs_cut {xs:List AV} {cs:List Value} {s:Sh} (hc:CVs w ok θ xs cs) (hw:∀ x∈xs,WT s x) {l m:Nat} (h:l+m≤xs.length) :
  CVs w ok θ ((xs.drop l).take m) ((cs.drop (l * s.width)).take (m * s.width)):=by
 have e1:xs=xs.take l++((xs.drop l).take m++(xs.drop l).drop m):=by rw [List.take_append_drop,List.take_append_drop]
 rw [e1] at hc
 obtain ⟨us,ws,rfl,h1,h2⟩:=CVs_split hc
 obtain ⟨vs,ws',rfl,h3,h4⟩:=CVs_split h2
 have l1:us.length=l * s.width:=by
  rw [CVs_length h1,WT_widths (s:=s) (fun x hx=>hw x (List.mem_of_mem_take hx)),List.length_take,Nat.min_eq_left (by omega)]
 have l2:vs.length=m * s.width:=by
  rw [CVs_length h3,WT_widths (s:=s) (fun x hx=>hw x (List.mem_of_mem_drop (List.mem_of_mem_take hx))),List.length_take,List.length_drop,Nat.min_eq_left (by omega)]
 rw [←l1,List.drop_left,←l2,List.take_left]
 exact h3
theorem CV_cut_fv {s:Sh} {xs:List AV} {A:Option Addr} {c l h m:Nat} (hu:CV w ok θ (.fv s xs) (.slice A xs.length c)) (h1:l≤h) (h2:h≤xs.length) (h3:h≤m) :
  CV w ok θ (.fv s ((xs.drop l).take (h - l))) (.slice (if m=l then A else A.map (·.add (l * s.width))) (h - l) (m - l)):=by
 obtain ⟨A',c',cs,e,hc,hw,hcs,hr⟩:=hu
 cases e
 have hlen:((xs.drop l).take (h - l)).length=h - l:=by simp; omega
 refine ⟨_,m - l,_,by rw [hlen],by omega,fun x hx=>hw x (List.mem_of_mem_drop (List.mem_of_mem_take hx)),CVs_cut hcs hw (by omega),fun h0=>?_⟩
 rw [hlen] at h0
 obtain ⟨ad,rfl,hok,hcl⟩:=hr (by omega)
 rw [if_neg (by omega)]
 exact ⟨ad.add (l * s.width),rfl,by rw [block_add]; exact hok,cellsAt_take hcl _ _⟩
theorem str_size (l:List UInt8):(⟨l.toArray⟩ : ByteArray).size=l.length:=by simp [ByteArray.size]
theorem str_extract (l:List UInt8) (i j:Nat) (h1:i≤j) (h2:j≤l.length):(⟨l.toArray⟩ : ByteArray).extract i j=⟨((l.drop i).take (j - i)).toArray⟩:=by
 apply ByteArray.ext
 rw [ByteArray.data_extract]
 apply Array.ext'
 simp [List.extract_eq_take_drop]
theorem opSlice_ok {t:TypeId} {x:Operand} {lo hi mx:Option Operand} {u:AV} {ul uh um:Option AV} (ho:o.op=.slice t x lo hi mx) (h:Rel C S θ a w) (hu:CV w (okOf C w S θ) θ u (a.eval x))
  (hl:OptCV w (okOf C w S θ) θ ul (lo.map a.eval)) (hhi:OptCV w (okOf C w S θ) θ uh (hi.map a.eval)) (hm:OptCV w (okOf C w S θ) θ um (mx.map a.eval))
  (hh:(opSlice P o t u ul uh um).exe n S=some S'):Does P C S' o a w:=by
 unfold opSlice at hh
 split at hh <;> first | exact (exe_fail hh).elim | skip
 ·
  rename_i ht
  split at hh <;> first | exact (exe_fail hh).elim | skip
  rename_i l
  have hx:a.eval x=.string ⟨l.toArray⟩:=hu
  have hmx:mx.map a.eval=none:=by
   cases hq:mx.map a.eval with
   | none=>rfl
   | some v=>rw [hq] at hm; exact hm.elim
  obtain ⟨i,j,m,h1,h2,h3,h4,hr,hk⟩:=bounds_ok (P:=P) (isS:=false) hl hhi (show OptCV w (okOf C w S θ) θ none none from trivial) (Nat.le_refl _) hh
  refine Does.value (v:=.string ⟨((l.drop i).take (j - i)).toArray⟩) ?_ (put_ok' hk h rfl)
  simp only [execOp,ho,Instr.sliceAt,Instr.slice,Sem.run_bind,run_underlying ht,Result.andThen_ok,hx,hmx,Option.isSome_none,Bool.false_eq_true,if_false,str_size,hr,Sem.run_pure,str_extract l i j h1 h2]
 ·
  rename_i e ht
  have run:∀ (A:Option Addr) (len c l h m:Nat),typOk P e=true→a.eval x=.slice A len c→(Instr.sliceBounds true len c (lo.map a.eval) (hi.map a.eval) (mx.map a.eval)).run P w=.ok (l,h,m) w→
    (execOp a.eval o).run P w=.ok (.value (.slice (if m=l then A else A.map (·.add (l * sizeT P e))) (h - l) (m - l))) w:=by
   intro A len c l h m he hx hr
   simp only [execOp,ho,Instr.sliceAt,Instr.slice,Sem.run_bind,run_underlying ht,Result.andThen_ok,hx,hr,run_sizeOf' he,Sem.run_pure]
  split at hh <;> first | exact (exe_fail hh).elim | skip
  ·
   have hx:a.eval x=.slice none 0 0:=hu
   obtain ⟨he,hh1⟩:=exe_must hh
   obtain ⟨i,j,m,h1,h2,h3,h4,hr,hk⟩:=bounds_ok (P:=P) (isS:=true) hl hhi hm (Nat.le_refl 0) hh1
   have e1:i=0:=by omega
   have e2:j=0:=by omega
   have e3:m=0:=by omega
   subst e1
   subst e2
   subst e3
   refine Does.value (v:=.slice none 0 0) ?_ (put_ok' hk h rfl)
   have hb:(Instr.sliceBounds true 0 0 (lo.map a.eval) (hi.map a.eval) (mx.map a.eval)).run P w=.ok (0,0,0) w:=hr
   simp only [execOp,ho,Instr.sliceAt,Instr.slice,Sem.run_bind,run_underlying ht,Result.andThen_ok,hx,hb,run_sizeOf' he,Sem.run_pure,if_true,Nat.sub_self]
  ·
   rename_i k xs
   obtain ⟨hz,hh1⟩:=exe_must hh
   obtain ⟨he,hsz⟩:=szIs_ok hz
   have hu':=hu
   obtain ⟨A,c,hx,hc,hr0⟩:=hu'
   obtain ⟨i,j,m,h1,h2,h3,h4,hr,hk⟩:=bounds_ok (P:=P) (isS:=true) hl hhi hm hc hh1
   refine Does.value (run A _ c i j m he hx hr) (put_ok' hk h ?_)
   rw [hsz]
   rw [hx] at hu
   exact CV_cut_fs hu h1 h2 h3
  ·
   rename_i s xs
   obtain ⟨hz,hh1⟩:=exe_must hh
   obtain ⟨he,hsz⟩:=szIs_ok hz
   have hu':=hu
   obtain ⟨A,c,cs,hx,hc,_⟩:=hu'
   obtain ⟨i,j,m,h1,h2,h3,h4,hr,hk⟩:=bounds_ok (P:=P) (isS:=true) hl hhi hm hc hh1
   refine Does.value (run A _ c i j m he hx hr) (put_ok' hk h ?_)
   rw [hsz]
   rw [hx] at hu
   exact CV_cut_fv hu h1 h2 h3
  ·
   rename_i d
   obtain ⟨hd,A,len,c,hx⟩:=hu
   replace hh:=exe_obj hh
   cases hob:vw (S.obj d) with
   | none=>rw [hob] at hh; exact (exe_fail hh).elim
   | some ob=>
    rw [hob] at hh
    cases ob <;> first | exact (exe_fail hh).elim | skip
    ·rename_i own e' k xs
     obtain ⟨hz,hh1⟩:=exe_must hh
     obtain ⟨he,hsz⟩:=szIs_ok hz
     rw [hx] at hd
     obtain ⟨f1,f2,f3⟩:=row_form h hob hd
     subst f1
     obtain ⟨i,j,m,h1,h2,h3,h4,hr,hk⟩:=bounds_ok (P:=P) (isS:=true) hl hhi hm f2 hh1
     refine Does.value (run A _ c i j m he hx hr) (put_ok' hk h ⟨_,_,rfl,by omega,fun h0=>?_⟩)
     obtain ⟨g,rfl,_⟩:=f3 (by omega)
     refine ⟨g,_,c,hd,by omega,?_⟩
     rw [if_neg (by omega),hsz]
     simp [add_lit]
    ·rename_i own e' s xs
     obtain ⟨hz,hh1⟩:=exe_must hh
     obtain ⟨he,hsz⟩:=szIs_ok hz
     rw [hx] at hd
     obtain ⟨f1,f2,_,cs,_,f3⟩:=rows_form h hob hd
     subst f1
     obtain ⟨i,j,m,h1,h2,h3,h4,hr,hk⟩:=bounds_ok (P:=P) (isS:=true) hl hhi hm f2 hh1
     refine Does.value (run A _ c i j m he hx hr) (put_ok' hk h ⟨_,_,rfl,by omega,fun h0=>?_⟩)
     obtain ⟨g,rfl,_⟩:=f3 (by omega)
     refine ⟨g,_,c,hd,by omega,?_⟩
     rw [if_neg (by omega),hsz]
     simp [add_lit]
  ·
   rename_i d sz off len
   obtain ⟨hz,hh1⟩:=exe_must hh
   obtain ⟨he,hsz⟩:=szIs_ok hz
   obtain ⟨A,c,hx,hc,hl0⟩:=hu
   obtain ⟨i,j,m,h1,h2,h3,h4,hr,hk⟩:=bounds_ok (P:=P) (isS:=true) hl hhi hm hc hh1
   refine Does.value (run A _ c i j m he hx hr) (put_ok' hk h ⟨_,_,rfl,by omega,fun h0=>?_⟩)
   obtain ⟨g,m',c',hd,hle,rfl⟩:=hl0 (by omega)
   refine ⟨g,m',c',hd,by omega,?_⟩
   rw [if_neg (by omega),hsz]
   simp [add_lit,Nat.add_mul]
  ·
   rename_i d oo nn off len
   obtain ⟨hz,hh1⟩:=exe_must hh
   obtain ⟨he,hsz⟩:=szIs_ok hz
   obtain ⟨A,c,hx,hc,hle,hl0⟩:=hu
   obtain ⟨i,j,m,h1,h2,h3,h4,hr,hk⟩:=bounds_ok (P:=P) (isS:=true) hl hhi hm hc hh1
   refine Does.value (run A _ c i j m he hx hr) (put_ok' hk h ⟨_,_,rfl,by omega,by omega,fun h0=>?_⟩)
   obtain ⟨g,hd,rfl⟩:=hl0 (by omega)
   refine ⟨g,hd,?_⟩
   rw [if_neg (by omega),hsz]
   simp [add_lit,Nat.add_assoc]
 ·
  rename_i m e ht
  obtain ⟨hz,hh1⟩:=exe_must hh
  obtain ⟨he,hsz⟩:=szIs_ok hz
  have run:∀ (A:Addr) (l h mm:Nat),a.eval x=.pointer (some A)→(Instr.sliceBounds false m m (lo.map a.eval) (hi.map a.eval) (mx.map a.eval)).run P w=.ok (l,h,mm) w→
    (execOp a.eval o).run P w=.ok (.value (.slice (some (if mm=l then A else A.add (l * sizeT P e))) (h - l) (mm - l))) w:=by
   intro A l h mm hx hr
   simp only [execOp,ho,Instr.sliceAt,Sem.run_bind,run_underlying ht,Result.andThen_ok,hx,Instr.sureAddr,hr,run_sizeOf' he,Sem.run_pure]
  split at hh1 <;> first | exact (exe_fail hh1).elim | skip
  ·rename_i d off
   obtain ⟨g,hd,hx⟩:=hu
   obtain ⟨i,j,mm,h1,h2,h3,h4,hr,hk⟩:=bounds_ok (P:=P) (isS:=false) hl hhi hm (Nat.le_refl _) hh1
   refine Does.value (run _ i j mm hx hr) (put_ok' hk h ⟨_,_,rfl,by omega,by omega,fun h0=>?_⟩)
   refine ⟨g,hd,?_⟩
   rw [if_neg (by omega),hsz,add_lit,Nat.mul_one]
  ·rename_i k m' xs
   obtain ⟨hz2,hh2⟩:=exe_must hh1
   have hmm:=Nat.eq_of_beq_eq_true hz2
   subst hmm
   obtain ⟨ad,v,hx,hok,⟨hxl,rfl⟩,hcl⟩:=hu
   obtain ⟨i,j,mm,h1,h2,h3,h4,hr,hk⟩:=bounds_ok (P:=P) (isS:=false) hl hhi hm (Nat.le_refl _) hh2
   have hlen:((xs.drop i).take (j - i)).length=j - i:=by simp; omega
   refine Does.value (run _ i j mm hx hr) (put_ok' hk h ⟨_,mm - i,by rw [hlen],by omega,fun h0=>?_⟩)
   rw [hlen] at h0
   rw [if_neg (by omega),hsz,Nat.mul_one]
   refine ⟨_,rfl,by rw [block_add]; exact hok,?_⟩
   rw [ints_drop_take]
   exact cellsAt_take (by simpa [Value.cells] using hcl) _ _
theorem opLen_ok {t:TypeId} {x:Operand} {u:AV} (ho:o.op=.call { callee:=.builtin .len,args:=#[x],argTypes:=#[t] }) (h:Rel C S θ a w) (hu:CV w (okOf C w S θ) θ u (a.eval x))
  (hh:(opLen P o t u).exe n S=some S'):Does P C S' o a w:=by
 unfold opLen at hh
 have fin:∀ m:Nat,(Builtin.len_ #[t] o.type #[a.eval x]).run P w=.ok (.int .i64 m) w→(put o (.int .i64 m)).exe n S=some S'→Does P C S' o a w:=by
  intro m hr hk
  refine Does.value (v:=.int .i64 m) ?_ (put_ok' hk h rfl)
  simp only [execOp,ho,resolve,invoke,builtin,Sem.run_bind,Sem.run_pure,Result.andThen_ok,List.map_toArray,List.map_cons,List.map_nil,hr]
 have lenS:∀ e A m c,P.underlying t=some (.slice e)→a.eval x=.slice A m c→(Builtin.len_ #[t] o.type #[a.eval x]).run P w=.ok (.int .i64 m) w:=by
  intro e A m c ht hx
  simp [Builtin.len_,run_underlying ht,hx,goInt]
 simp only at hh
 split at hh <;> first | exact (exe_fail hh).elim | skip
 ·rename_i ht
  split at hh <;> first | exact (exe_fail hh).elim | skip
  rename_i l
  have hx:a.eval x=.string ⟨l.toArray⟩:=hu
  exact fin _ (by simp [Builtin.len_,run_underlying ht,hx,goInt,str_size]) hh
 ·rename_i m e ht
  exact fin _ (by simp [Builtin.len_,run_underlying ht,goInt]) hh
 ·rename_i e ht
  split at hh <;> first | exact (exe_fail hh).elim | skip
  ·exact fin 0 (lenS e _ _ _ ht (hu:a.eval x=_)) hh
  ·obtain ⟨A,c,hx,_⟩:=hu
   exact fin _ (lenS e _ _ _ ht hx) hh
  ·obtain ⟨A,c,cs,hx,_⟩:=hu
   exact fin _ (lenS e _ _ _ ht hx) hh
  ·obtain ⟨A,c,hx,_⟩:=hu
   exact fin _ (lenS e _ _ _ ht hx) hh
  ·obtain ⟨A,c,hx,_⟩:=hu
   exact fin _ (lenS e _ _ _ ht hx) hh
  ·rename_i d
   obtain ⟨hd,A,m,c,hx⟩:=hu
   replace hh:=exe_obj hh
   cases hob:vw (S.obj d) with
   | none=>rw [hob] at hh; exact (exe_fail hh).elim
   | some ob=>
    rw [hob] at hh
    rw [hx] at hd
    cases ob <;> first | exact (exe_fail hh).elim | skip
    ·have:=(row_form h hob hd).1
     subst this
     exact fin _ (lenS e _ _ _ ht hx) hh
    ·have:=(rows_form h hob hd).1
     subst this
     exact fin _ (lenS e _ _ _ ht hx) hh
    ·rename_i e' s vs
     obtain ⟨v,cs,v1,v2,v3,v4⟩:=h.view hob hd
     rw [hd] at v1
     cases v1
     have:m=vs.length:=by
      rcases v4.2 with ⟨q1,q2⟩ | ⟨g,cap,cur,fr,q1,_⟩
      ·cases q1; exact q2.symm
      ·cases q1; rfl
     subst this
     exact fin _ (lenS e _ _ _ ht hx) hh
theorem opIndex_ok {t:TypeId} {x y:Operand} {u uy:AV} (ho:o.op=.index t x y) (h:Rel C S θ a w) (hu:CV w (okOf C w S θ) θ u (a.eval x)) (hy:CV w (okOf C w S θ) θ uy (a.eval y))
  (hh:(opIndex P C.E o t u uy).exe n S=some S'):Does P C S' o a w:=by
 unfold opIndex at hh
 split at hh <;> first | exact (exe_fail hh).elim | skip
 rename_i kd i
 have hy' : a.eval y=.int kd i:=hy
 split at hh <;> first | exact (exe_fail hh).elim | skip
 ·rename_i ht
  split at hh <;> first | exact (exe_fail hh).elim | skip
  rename_i l
  have hx:a.eval x=.string ⟨l.toArray⟩:=hu
  obtain ⟨hr,hh1⟩:=exe_chk hh
  obtain ⟨h0,h1,h2⟩:=inR_ok hr
  refine Does.value (v:=.int .u8 ((l.getD i.toNat 0).toNat:Int)) ?_ (put_ok' hh1 h rfl)
  have hb:(⟨l.toArray⟩ : ByteArray)[i.toNat]? = some (l.getD i.toNat 0):=by
   have hlt:i.toNat<(⟨l.toArray⟩ : ByteArray).size:=by rw [str_size]; exact h2
   rw [getElem?_pos (⟨l.toArray⟩ : ByteArray) i.toNat hlt]
   congr 1
   show l.toArray[i.toNat]=_
   simp [List.getD_eq_getElem?_getD,h2]
  simp only [execOp,ho,Instr.index,Sem.run_bind,hy',asIntOf,Sem.run_pure,Result.andThen_ok,run_underlying ht,hx,h0,if_true,hb]
 ·rename_i m e ht
  split at hh <;> first | exact (exe_fail hh).elim | skip
  ·rename_i k m' xs
   obtain ⟨hz,hh1⟩:=exe_must hh
   obtain ⟨hr,hh2⟩:=exe_chk hh1
   simp only [Bool.and_eq_true,Bool.not_eq_true'] at hz
   obtain ⟨he,hsz⟩:=szIs_ok hz.1
   obtain ⟨h0,h1,h2⟩:=inR_ok hr
   have hmm:=Nat.eq_of_beq_eq_true hz.2.2
   obtain ⟨hxl,hx⟩:=hu
   refine Does.value (v:=.int k (getI xs i.toNat)) ?_ (put_ok' hh2 h rfl)
   have hg:(ints k xs).toArray[i.toNat * 1]? = some (.int k (getI xs i.toNat)):=by
    rw [Nat.mul_one]
    simpa using ints_get (k:=k) (xs:=xs) (i:=i.toNat) (by omega)
   simp only [execOp,ho,Instr.index,Sem.run_bind,hy',asIntOf,Sem.run_pure,Result.andThen_ok,run_underlying ht,hx,h0,h1,and_self,if_true,run_sizeOf' he,hsz,part,run_isAgg' he,hz.2.1,Bool.false_eq_true,if_false,hg]
  ·rename_i cs
   split at hh
   ·rename_i s hs
    obtain ⟨hz,hh1⟩:=exe_must hh
    obtain ⟨hr,hh2⟩:=exe_chk hh1
    simp only [Bool.and_eq_true] at hz
    obtain ⟨hz1,hfit,hlen⟩:=hz
    have hlen:=Nat.eq_of_beq_eq_true hlen
    obtain ⟨he,hsz⟩:=szIs_ok hz1
    obtain ⟨h0,h1,h2⟩:=inR_ok hr
    obtain ⟨vs,hx,hcs⟩:=hu
    have hget:=getE_get (xs:=cs) (i:=i.toNat) (by omega)
    have hwt:=homo_WT hs _ (List.mem_of_getElem? hget)
    obtain ⟨v,us,ws,q1,q2,q3,q4⟩:=CVs_item hcs hget
    rw [eta_of_WT s _ hwt] at hh2
    have hf2:fits P e (getE cs i.toNat)=true:=by
     simp only [fits,Bool.and_eq_true] at hfit ⊢
     rw [WT_isAgg hwt,WT_width s _ hwt]
     rw [WT_isAgg (eta_WT s .undef),WT_width s _ (eta_WT s .undef)] at hfit
     exact hfit
    have hp:=run_part (P:=P) hf2 (WT_stor hwt) q4 q3 q1
    refine Does.value (v:=v) ?_ (put_ok' hh2 h q4)
    have e2:vs=vs.toList.toArray:=by simp
    have hoff:i.toNat * sizeT P e=us.length:=by
     rw [q2,hsz,WT_widths (s:=s) (fun x hx=>homo_WT hs x (List.mem_of_mem_take hx)),List.length_take,Nat.min_eq_left (by omega)]
    simp only [execOp,ho,Instr.index,Sem.run_bind,hy',asIntOf,Sem.run_pure,Result.andThen_ok,run_underlying ht,hx,h0,h1,and_self,if_true,run_sizeOf' he]
    rw [e2,hoff,hp]
    rfl
   ·split at hh <;> first | exact (exe_fail hh).elim | skip
    rename_i c hc
    obtain ⟨hz,hh1⟩:=exe_must hh
    obtain ⟨hr,hh2⟩:=exe_chk hh1
    simp only [Bool.and_eq_true] at hz
    obtain ⟨hw,hfit,hst⟩:=hz
    obtain ⟨h0,h1,h2⟩:=inR_ok hr
    obtain ⟨vs,hx,hcs⟩:=hu
    obtain ⟨v,us,ws,q1,q2,q3,q4⟩:=CVs_item hcs hc
    have hp:=run_part (P:=P) hfit hst q4 q3 q1
    have he:typOk P e=true:=by simp only [fits,Bool.and_eq_true] at hfit; exact hfit.1
    refine Does.value (v:=v) ?_ (put_ok' hh2 h q4)
    have e2:vs=vs.toList.toArray:=by simp
    have hoff:i.toNat * sizeT P e=us.length:=by rw [q2,Nat.eq_of_beq_eq_true hw]
    simp only [execOp,ho,Instr.index,Sem.run_bind,hy',asIntOf,Sem.run_pure,Result.andThen_ok,run_underlying ht,hx,h0,h1,and_self,if_true,run_sizeOf' he]
    rw [e2,hoff,hp]
    rfl
theorem intBin_ok {op:BinOp} {t:TypeId} {k:IntKind} {p q:Int} {K:AV→Pg} (hh:(intBin op k p q K).exe n S=some S') :
  ∃ u v,(K u).exe n S=some S'∧CV w ok θ u v∧(binOp op t (.int k p) (.int k q)).run P w=.ok v w:=by
 unfold intBin at hh
 split at hh <;> first | exact (exe_fail hh).elim | skip
 ·exact ⟨_,_,hh,rfl,by simp [binOp,Op.intArith]⟩
 ·exact ⟨_,_,hh,rfl,by simp [binOp,Op.intArith]⟩
 ·exact ⟨_,_,hh,rfl,by simp [binOp,Op.intArith]⟩
 ·obtain ⟨hz,hh1⟩:=exe_chk hh
  have h0:q≠0:=by simpa using hz
  exact ⟨_,_,hh1,rfl,by simp [binOp,Op.intDiv,h0]⟩
 ·obtain ⟨hz,hh1⟩:=exe_chk hh
  have h0:q≠0:=by simpa using hz
  exact ⟨_,_,hh1,rfl,by simp [binOp,Op.intDiv,h0]⟩
 ·exact ⟨_,_,hh,rfl,by simp [binOp,Op.intBits]⟩
 ·exact ⟨_,_,hh,rfl,by simp [binOp,Op.intBits]⟩
 ·exact ⟨_,_,hh,rfl,by simp [binOp,Op.intBits]⟩
 ·exact ⟨_,_,hh,rfl,by simp [binOp,Op.intBits]⟩
 ·exact ⟨_,_,hh,rfl,by simp [binOp,Op.intCmp]⟩
 ·exact ⟨_,_,hh,rfl,by simp [binOp,Op.intCmp]⟩
 ·exact ⟨_,_,hh,rfl,by simp [binOp,Op.intCmp]⟩
 ·exact ⟨_,_,hh,rfl,by simp [binOp,Op.intCmp]⟩
 ·exact ⟨_,_,hh,rfl,by simp [binOp,Op.intCmp]⟩
 ·exact ⟨_,_,hh,rfl,by simp [binOp,Op.intCmp]⟩
theorem toList_mk (l:List UInt8):(⟨l.toArray⟩ : ByteArray).toList=l:=by rw [ByteArray.toList_eq]
theorem eqGuard_scalar {op:BinOp} {t:TypeId} {x y:Operand} {u v:Value} (h:(∃ k p,u=.int k p)∨(∃ b,u=.bool b)∨(∃ s,u=.string s)):(eqGuard op t x y u v).run P w=.ok () w:=by
 rcases h with ⟨k,p,rfl⟩ | ⟨b,rfl⟩ | ⟨s,rfl⟩ <;> cases op <;> simp [eqGuard]
theorem isPtr_ok {t:TypeId} (h:isPtr P t=true):P.underlying t=some (.pointer (P.pointee t)):=by
 unfold isPtr at h
 split at h
 ·rename_i e he; simp [Program.pointee,he]
 ·cases h
theorem isMap_ok {t:TypeId} (h:isMap P t=true):∃ k e,P.underlying t=some (.map k e):=by
 unfold isMap at h
 split at h
 ·rename_i k e he; exact ⟨k,e,he⟩
 ·cases h
theorem eqA_ok {E:Env} {t:TypeId} {x y:AV} {u v:Value} {k:Bool→Pg} (hx:CV w ok θ x u) (hy:CV w ok θ y v) (hh:(eqA P E t x y k).exe n S=some S') :
  (k (keq x y)).exe n S=some S'∧(Op.equalIn 10000 t u v).run P w=.ok (keq x y) w∧P.eqGuardType P.depth t=false:=by
 unfold eqA at hh
 split at hh <;> first | exact (exe_fail hh).elim | skip
 rename_i s hs
 obtain ⟨hm,hk⟩:=exe_must hh
 simp only [Bool.and_eq_true,Bool.not_eq_true'] at hm
 obtain ⟨h1,h2,h3,h4⟩:=hm
 exact ⟨hk,equal_key 9 10000 t s x y u v h3 (by omega) (fit_WT _ _ h1) (fit_WT _ _ h2) hx hy,h4⟩
theorem eqGuard_agg {op:BinOp} {t:TypeId} {x y:Operand} {us vs:Array Value} (h:P.eqGuardType P.depth t=false):(eqGuard op t x y (.agg us) (.agg vs)).run P w=.ok () w:=by
 cases op <;> simp [eqGuard,h]
theorem opBin_ok {op:BinOp} {t ty:TypeId} {x y:Operand} {u uy:AV} (ho:o.op=.binOp op t x y ty) (h:Rel C S θ a w) (hu:CV w (okOf C w S θ) θ u (a.eval x)) (hy:CV w (okOf C w S θ) θ uy (a.eval y))
  (hh:(opBin P C.E o op t u uy).exe n S=some S'):Does P C S' o a w:=by
 have fin:∀ (v:Value),((∃ k p,a.eval x=.int k p)∨(∃ b,a.eval x=.bool b)∨(∃ s,a.eval x=.string s))→(binOp op t (a.eval x) (a.eval y)).run P w=.ok v w→(execOp a.eval o).run P w=.ok (.value v) w:=by
  intro v hk hr
  simp only [execOp,ho,Sem.run_bind,eqGuard_scalar hk,hr,Result.andThen_ok,Sem.run_pure]
 have fin2:∀ (v:Value),((∃ p,a.eval x=.pointer p)∨(∃ p,a.eval x=.map p))→(binOp op t (a.eval x) (a.eval y)).run P w=.ok v w→(execOp a.eval o).run P w=.ok (.value v) w:=by
  intro v hk hr
  have hg:(eqGuard op t x y (a.eval x) (a.eval y)).run P w=.ok () w:=by
   rcases hk with ⟨p,hp⟩ | ⟨p,hp⟩ <;> rw [hp] <;> cases op <;> simp [eqGuard]
  simp only [execOp,ho,Sem.run_bind,hg,hr,Result.andThen_ok,Sem.run_pure]
 unfold opBin at hh
 simp only at hh
 split at hh <;> first | exact (exe_fail hh).elim | skip
 ·
  rename_i k p k' q
  have hx:a.eval x=.int k p:=hu
  have hy' : a.eval y=.int k' q:=hy
  obtain ⟨hz,hh1⟩:=exe_chk hh
  have h0:¬ q<0:=by simp only [decide_eq_true_eq] at hz; omega
  exact Does.value (fin _ (.inl ⟨_,_,hx⟩) (by rw [hx,hy']; simp [binOp,Op.shift,h0])) (put_ok' hh1 h rfl)
 ·rename_i k p k' q
  have hx:a.eval x=.int k p:=hu
  have hy' : a.eval y=.int k' q:=hy
  obtain ⟨hz,hh1⟩:=exe_chk hh
  have h0:¬ q<0:=by simp only [decide_eq_true_eq] at hz; omega
  exact Does.value (fin _ (.inl ⟨_,_,hx⟩) (by rw [hx,hy']; simp [binOp,Op.shift,h0])) (put_ok' hh1 h rfl)
 ·rename_i k p k' q _ _
  have hx:a.eval x=.int k p:=hu
  have hy' : a.eval y=.int k' q:=hy
  obtain ⟨hz,hh1⟩:=exe_must hh
  have hk:=eq_of_beq hz
  subst hk
  obtain ⟨r,v,hk,hr,hrun⟩:=intBin_ok (P:=P) (w:=w) (ok:=okOf C w S θ) (θ:=θ) (t:=t) hh1
  exact Does.value (fin v (.inl ⟨_,_,hx⟩) (by rw [hx,hy']; exact hrun)) (put_ok' hk h hr)
 ·rename_i p q
  have hx:a.eval x=.string ⟨p.toArray⟩:=hu
  have hy' : a.eval y=.string ⟨q.toArray⟩:=hy
  obtain ⟨hz,hh1⟩:=exe_chk hh
  have hz:=Nat.le_of_ble_eq_true hz
  refine Does.value (v:=.string ⟨(p++q).toArray⟩) (fin _ (.inr (.inr ⟨_,hx⟩)) ?_) (put_ok' hh1 h rfl)
  rw [hx,hy']
  have hmax:¬ (((⟨p.toArray⟩ : ByteArray).size+(⟨q.toArray⟩ : ByteArray).size:Nat):Int) > IntKind.i64.max:=by
   rw [str_size,str_size]
   have:IntKind.i64.max=9223372036854775807:=by decide
   rw [this]
   omega
  have happ:(⟨p.toArray⟩ : ByteArray)++⟨q.toArray⟩ =⟨(p++q).toArray⟩:=by
   apply ByteArray.ext
   rw [ByteArray.data_append]
   simp
  simp only [binOp,Op.stringOp,hmax,if_false,Sem.run_pure,happ]
 ·rename_i p q
  have hx:a.eval x=.string ⟨p.toArray⟩:=hu
  have hy' : a.eval y=.string ⟨q.toArray⟩:=hy
  refine Does.value (v:=.bool (p == q)) (fin _ (.inr (.inr ⟨_,hx⟩)) ?_) (put_ok' hh h rfl)
  rw [hx,hy']
  simp only [binOp,Op.stringOp,toList_mk,Sem.run_pure]
 ·rename_i p q
  have hx:a.eval x=.string ⟨p.toArray⟩:=hu
  have hy' : a.eval y=.string ⟨q.toArray⟩:=hy
  refine Does.value (v:=.bool (!(p == q))) (fin _ (.inr (.inr ⟨_,hx⟩)) ?_) (put_ok' hh h rfl)
  rw [hx,hy']
  simp only [binOp,Op.stringOp,toList_mk,Sem.run_pure]
 ·rename_i f q
  have hy' : a.eval y=.pointer none:=hy
  obtain ⟨hz,hh1⟩:=exe_must hh
  refine Does.value (v:=.bool q.isNone) ?_ (put_ok' hh1 h rfl)
  obtain ⟨p,hp,hq⟩ : ∃ p,a.eval x=.pointer p∧p.isNone=q.isNone:=by
   cases q with
   | none=>exact ⟨_,hu,rfl⟩
   | some i=>obtain ⟨_,g,h1⟩:=hu; exact ⟨_,h1,rfl⟩
  rw [←hq]
  exact fin2 _ (.inl ⟨_,hp⟩) (by rw [hp,hy']; simp only [binOp,Op.equal,Op.maxDepth,Sem.run_bind,run_equalIn_pointer_nil w 9999 t p (isPtr_ok hz),Result.andThen_ok,Sem.run_pure])
 ·rename_i f q
  have hy' : a.eval y=.pointer none:=hy
  obtain ⟨hz,hh1⟩:=exe_must hh
  refine Does.value (v:=.bool q.isSome) ?_ (put_ok' hh1 h rfl)
  obtain ⟨p,hp,hq⟩ : ∃ p,a.eval x=.pointer p∧(!p.isNone)=q.isSome:=by
   cases q with
   | none=>exact ⟨_,hu,rfl⟩
   | some i=>obtain ⟨_,g,h1⟩:=hu; exact ⟨_,h1,rfl⟩
  rw [←hq]
  exact fin2 _ (.inl ⟨_,hp⟩) (by rw [hp,hy']; simp only [binOp,Op.equal,Op.maxDepth,Sem.run_bind,run_equalIn_pointer_nil w 9999 t p (isPtr_ok hz),Result.andThen_ok,Sem.run_pure])
 ·rename_i f q
  have hy' : a.eval y=.map none:=hy
  obtain ⟨hz,hh1⟩:=exe_must hh
  refine Does.value (v:=.bool q.isNone) ?_ (put_ok' hh1 h rfl)
  obtain ⟨p,hp,hq⟩ : ∃ p,a.eval x=.map p∧p.isNone=q.isNone:=by
   cases q with
   | none=>exact ⟨_,hu,rfl⟩
   | some i=>obtain ⟨_,g,h1⟩:=hu; exact ⟨_,h1,rfl⟩
  rw [←hq]
  obtain ⟨k,e,ht⟩:=isMap_ok hz
  exact fin2 _ (.inr ⟨_,hp⟩) (by rw [hp,hy']; simp only [binOp,Op.equal,Op.maxDepth,Sem.run_bind,run_equalIn_map_nil w 9999 t k e p ht,Result.andThen_ok,Sem.run_pure])
 ·rename_i f q
  have hy' : a.eval y=.map none:=hy
  obtain ⟨hz,hh1⟩:=exe_must hh
  refine Does.value (v:=.bool q.isSome) ?_ (put_ok' hh1 h rfl)
  obtain ⟨p,hp,hq⟩ : ∃ p,a.eval x=.map p∧(!p.isNone)=q.isSome:=by
   cases q with
   | none=>exact ⟨_,hu,rfl⟩
   | some i=>obtain ⟨_,g,h1⟩:=hu; exact ⟨_,h1,rfl⟩
  rw [←hq]
  obtain ⟨k,e,ht⟩:=isMap_ok hz
  exact fin2 _ (.inr ⟨_,hp⟩) (by rw [hp,hy']; simp only [binOp,Op.equal,Op.maxDepth,Sem.run_bind,run_equalIn_map_nil w 9999 t k e p ht,Result.andThen_ok,Sem.run_pure])
 ·obtain ⟨hk,hr,hg⟩:=eqA_ok hu hy hh
  have hx:∃ us,a.eval x=.agg us:=by obtain ⟨_,h1⟩:=hu; exact ⟨_,h1⟩
  obtain ⟨us,hx⟩:=hx
  have hx2:∃ vs,a.eval y=.agg vs:=by obtain ⟨_,h1⟩:=hy; exact ⟨_,h1⟩
  obtain ⟨vs,hx2⟩:=hx2
  refine Does.value (v:=.bool _) ?_ (put_ok' hk h rfl)
  rw [hx,hx2] at hr
  simp only [execOp,ho,Sem.run_bind,hx,hx2,eqGuard_agg hg,binOp,Op.equal,Op.maxDepth,Result.andThen_ok,Sem.run_bind,hr,Sem.run_pure]
 ·obtain ⟨hk,hr,hg⟩:=eqA_ok hu hy hh
  have hx:∃ us,a.eval x=.agg us:=by obtain ⟨_,h1⟩:=hu; exact ⟨_,h1⟩
  obtain ⟨us,hx⟩:=hx
  have hx2:∃ vs,a.eval y=.agg vs:=by obtain ⟨_,h1⟩:=hy; exact ⟨_,h1⟩
  obtain ⟨vs,hx2⟩:=hx2
  refine Does.value (v:=.bool _) ?_ (put_ok' hk h rfl)
  rw [hx,hx2] at hr
  simp only [execOp,ho,Sem.run_bind,hx,hx2,eqGuard_agg hg,binOp,Op.equal,Op.maxDepth,Result.andThen_ok,Sem.run_bind,hr,Sem.run_pure]
 ·obtain ⟨hk,hr,hg⟩:=eqA_ok hu hy hh
  have hx:∃ us,a.eval x=.agg us:=by obtain ⟨_,h1,_⟩:=hu; exact ⟨_,h1⟩
  obtain ⟨us,hx⟩:=hx
  have hx2:∃ vs,a.eval y=.agg vs:=by obtain ⟨_,h1,_⟩:=hy; exact ⟨_,h1⟩
  obtain ⟨vs,hx2⟩:=hx2
  refine Does.value (v:=.bool _) ?_ (put_ok' hk h rfl)
  rw [hx,hx2] at hr
  simp only [execOp,ho,Sem.run_bind,hx,hx2,eqGuard_agg hg,binOp,Op.equal,Op.maxDepth,Result.andThen_ok,Sem.run_bind,hr,Sem.run_pure]
 ·obtain ⟨hk,hr,hg⟩:=eqA_ok hu hy hh
  have hx:∃ us,a.eval x=.agg us:=by obtain ⟨_,h1,_⟩:=hu; exact ⟨_,h1⟩
  obtain ⟨us,hx⟩:=hx
  have hx2:∃ vs,a.eval y=.agg vs:=by obtain ⟨_,h1,_⟩:=hy; exact ⟨_,h1⟩
  obtain ⟨vs,hx2⟩:=hx2
  refine Does.value (v:=.bool _) ?_ (put_ok' hk h rfl)
  rw [hx,hx2] at hr
  simp only [execOp,ho,Sem.run_bind,hx,hx2,eqGuard_agg hg,binOp,Op.equal,Op.maxDepth,Result.andThen_ok,Sem.run_bind,hr,Sem.run_pure]
 ·rename_i p q
  have hx:a.eval x=.bool p:=hu
  have hy' : a.eval y=.bool q:=hy
  obtain ⟨hz,hh1⟩:=exe_must hh
  have ht:P.underlying t=some .bool:=by
   split at hz
   ·assumption
   ·cases hz
  refine Does.value (v:=.bool (p == q)) (fin _ (.inr (.inl ⟨_,hx⟩)) ?_) (put_ok' hh1 h rfl)
  rw [hx,hy']
  simp only [binOp,Op.equal,Op.maxDepth,Sem.run_bind,run_equalIn_bool w 9999 t p q ht,Result.andThen_ok,Sem.run_pure]
 ·rename_i p q
  have hx:a.eval x=.bool p:=hu
  have hy' : a.eval y=.bool q:=hy
  obtain ⟨hz,hh1⟩:=exe_must hh
  have ht:P.underlying t=some .bool:=by
   split at hz
   ·assumption
   ·cases hz
  refine Does.value (v:=.bool (!(p == q))) (fin _ (.inr (.inl ⟨_,hx⟩)) ?_) (put_ok' hh1 h rfl)
  rw [hx,hy']
  simp only [binOp,Op.equal,Op.maxDepth,Sem.run_bind,run_equalIn_bool w 9999 t p q ht,Result.andThen_ok,Sem.run_pure]
end
end Go.Am
end
section
set_option linter.unusedVariables false
set_option linter.unusedSimpArgs false
namespace Go.Am
open Go.RowKit
def okX (C:Ctx) (w:World) (S:St) (θ:Nm→Option Value) (l:List Nm) (b:Nat):Prop:=
 b<w.heap.size∧¬ C.F b∧¬ ∃ d o v,d ∉ l∧S.obj d=some o∧o.isOwn=true∧θ d=some v∧blk v=some b
section
variable {C:Ctx} {S S' : St} {θ θ' : Nm→Option Value} {a:Act} {w w' : World} {n:Rp} {ok:Nat→Prop} {P:Program} {o:Oper}
theorem okX_of_ok {l:List Nm} {b:Nat} (h:okOf C w S θ b):okX C w S θ l b:=⟨h.1,h.2.1,fun ⟨d,o,v,_,h1⟩=>h.2.2 ⟨d,o,v,h1⟩⟩
theorem okX_mono {l l' : List Nm} (hl:∀ d∈l,d∈l') {b:Nat} (h:okX C w S θ l b):okX C w S θ l' b:=⟨h.1,h.2.1,fun ⟨d,o,v,hd,h1⟩=>h.2.2 ⟨d,o,v,fun hm=>hd (hl d hm),h1⟩⟩
theorem keepsOk {ok ok' : Nat→Prop} (h:∀ b,ok b→ok' b):Keeps w w ok ok' θ θ:=⟨h,fun _ _=>rfl,fun _ _ h=>h⟩
theorem own_okX' (h:Rel C S θ a w) {d:Nm} {ob:Ob} {v:Value} {g:Nat} {l:List Nm} (ho:S.obj d=some ob) (hown:ob.isOwn=true) (hv:θ d=some v) (hb:blk v=some g) (hd:d∈l):okX C w S θ l g:=by
 obtain ⟨h1,h2⟩:=(h.ob ho hv).lt hown hv hb
 refine ⟨h1,C.M_F h2,?_⟩
 ·rintro ⟨d',o',v',hd',k1,k2,k3,k4⟩
  exact h.sep d d' ob o' v v' g ho k1 hown k2 (fun e=>hd' (e ▸ hd)) hv k3 hb k4
theorem own_okX (h:Rel C S θ a w) {d:Nm} {ob:Ob} {v:Value} {g:Nat} {l:List Nm} (ho:vw (S.obj d)=some ob) (hown:ob.isOwn=true) (hv:θ d=some v) (hb:blk v=some g) (hd:d∈l):okX C w S θ l g:=by
 obtain ⟨o',h1,h2⟩:=vw_some ho
 exact own_okX' h h1 (h2.trans hown) hv hb hd
theorem row_snap (h:Rel C S θ a w) {d:Nm} {own:Bool} {e:TypeId} {k:IntKind} {xs:List Int} {v:Value} (ho:vw (S.obj d)=some (.row own e k xs)) (hv:θ d=some v):CV w (okX C w S θ [d]) θ (.fs k xs) v:=by
 have hov:=h.view ho hv
 obtain ⟨v',v1,v2,v3⟩:=hov
 rw [hv] at v1
 cases v1
 cases own with
 | false=>exact CV_mono (keepsOk fun b hb=>okX_of_ok hb) _ _ (v3 rfl)
 | true=>
  rcases (v2 rfl).2 with ⟨rfl,q2⟩ | ⟨g,cap,cur,fr,rfl,q2,q3,q4,q5,q6,q7,q8⟩
  ·have:xs=[]:=List.eq_nil_of_length_eq_zero q2
   subst this
   exact ⟨none,0,rfl,Nat.le_refl _,fun h=>by simp at h⟩
  ·exact ⟨_,cap,rfl,q5,fun _=>⟨_,rfl,own_okX h ho rfl hv rfl (by simp),(v2 rfl).cells.1⟩⟩
theorem rows_snap (h:Rel C S θ a w) {d:Nm} {own:Bool} {e:TypeId} {s:Sh} {xs:List AV} {v:Value} (ho:vw (S.obj d)=some (.rows own e s xs)) (hv:θ d=some v):CV w (okX C w S θ [d]) θ (.fv s xs) v:=by
 have hov:=h.view ho hv
 obtain ⟨v',v1,hw,v2,v3⟩:=hov
 rw [hv] at v1
 cases v1
 cases own with
 | false=>exact CV_mono (keepsOk fun b hb=>okX_of_ok hb) _ _ (v3 rfl)
 | true=>
  obtain ⟨cs,hcs,hrow⟩:=v2 rfl
  have hcs':=CVs_mono (keepsOk fun b hb=>okX_of_ok (l:=[d]) hb) _ _ hcs
  rcases hrow.2 with ⟨rfl,q2⟩ | ⟨g,cap,cur,fr,rfl,q2,q3,q4,q5,q6,q7,q8⟩
  ·have:xs=[]:=List.eq_nil_of_length_eq_zero q2
   subst this
   exact ⟨none,0,cs,rfl,Nat.le_refl _,hw,hcs',fun h=>by simp at h⟩
  ·exact ⟨_,cap,cs,rfl,q5,hw,hcs',fun _=>⟨_,rfl,own_okX h ho rfl hv rfl (by simp),hrow.cells.1⟩⟩
def SnapOk (C:Ctx) (S S' : St) (θ:Nm→Option Value) (w:World) (n:Rp) (s:Sh) (f:AV→(AV→List Nm→Pg)→Pg):Prop:=
 ∀ u v K,CV w (okOf C w S θ) θ u v→(f u K).exe n S=some S'→∃ u' l,(K u' l).exe n S=some S'∧WT s u'∧CV w (okX C w S θ l) θ u' v
theorem snapL_ok {s:Sh} {f:AV→(AV→List Nm→Pg)→Pg} (hf:SnapOk C S S' θ w n s f):∀ (us:List AV) (cs:List Value) (K:List AV→List Nm→Pg),CVs w (okOf C w S θ) θ us cs→(snapL f us K).exe n S=some S'→
  ∃ us' l,(K us' l).exe n S=some S'∧us'.length=us.length∧(∀ x∈us',WT s x)∧CVs w (okX C w S θ l) θ us' cs
 | [],cs,K,hc,hh=>⟨[],[],hh,rfl,(fun x hx=>by cases hx),hc⟩
 | u::us,cs,K,hc,hh=>by
  obtain ⟨v,rest,rfl,hs,h1,h2⟩:=hc
  simp only [snapL] at hh
  obtain ⟨u',l,hk,hw,hcv⟩:=hf u v _ h1 hh
  obtain ⟨us',l',hk',hlen,hws,hcvs⟩:=snapL_ok hf us rest _ h2 hk
  refine ⟨u'::us',l++l',hk',by simp [hlen],?_,v,rest,rfl,?_,?_,?_⟩
  ·intro x hx
   rcases List.mem_cons.1 hx with rfl | hx
   ·exact hw
   ·exact hws x hx
  ·exact CV_size (WT_stor hw) hcv
  ·exact CV_mono (keepsOk fun b hb=>okX_mono (fun d hd=>List.mem_append_left _ hd) hb) _ _ hcv
  ·exact CVs_mono (keepsOk fun b hb=>okX_mono (fun d hd=>List.mem_append_right _ hd) hb) _ _ hcvs
theorem snapZ_ok {f:Sh→AV→(AV→List Nm→Pg)→Pg} (hf:∀ s,SnapOk C S S' θ w n s (f s)):∀ (ss:List Sh) (us:List AV) (cs:List Value) (K:List AV→List Nm→Pg),CVs w (okOf C w S θ) θ us cs→(snapZ f ss us K).exe n S=some S'→
  ∃ us' l,(K us' l).exe n S=some S'∧WTs ss us'∧CVs w (okX C w S θ l) θ us' cs
 | [],[],cs,K,hc,hh=>⟨[],[],hh,rfl,hc⟩
 | [],_::_,cs,K,hc,hh=>(exe_fail hh).elim
 | _::_,[],cs,K,hc,hh=>(exe_fail hh).elim
 | s::ss,u::us,cs,K,hc,hh=>by
  obtain ⟨v,rest,rfl,hs,h1,h2⟩:=hc
  simp only [snapZ] at hh
  obtain ⟨u',l,hk,hw,hcv⟩:=hf s u v _ h1 hh
  obtain ⟨us',l',hk',hws,hcvs⟩:=snapZ_ok hf ss us rest _ h2 hk
  refine ⟨u'::us',l++l',hk',⟨u',us',rfl,hw,hws⟩,v,rest,rfl,?_,?_,?_⟩
  ·exact CV_size (WT_stor hw) hcv
  ·exact CV_mono (keepsOk fun b hb=>okX_mono (fun d hd=>List.mem_append_left _ hd) hb) _ _ hcv
  ·exact CVs_mono (keepsOk fun b hb=>okX_mono (fun d hd=>List.mem_append_right _ hd) hb) _ _ hcvs
theorem WT_fs {k:IntKind} {xs:List Int}:WT (.fs k) (.fs k xs):=⟨xs,rfl⟩
theorem WT_fv {s:Sh} {xs:List AV}:WT (.fv s) (.fv s xs):=⟨xs,rfl⟩
theorem snap_ok (h:Rel C S θ a w):∀ (m:Nat) (s:Sh),SnapOk C S S' θ w n s (snap m s)
 | 0,s,u,v,K,hu,hh=>(exe_fail hh).elim
 | m+1,s,u,v,K,hu,hh=>by
  unfold snap at hh
  split at hh
  ·
   rename_i kd
   have hv:v=.slice none 0 0:=hu
   exact ⟨_,_,hh,WT_fs,none,0,hv,Nat.le_refl _,fun h=>by simp at h⟩
  ·
   rename_i kd d
   obtain ⟨hd,_⟩:=hu
   replace hh:=exe_obj hh
   cases hob:vw (S.obj d) with
   | none=>rw [hob] at hh; exact (exe_fail hh).elim
   | some ob=>
    rw [hob] at hh
    cases ob <;> first | exact (exe_fail hh).elim | skip
    obtain ⟨hz,hh1⟩:=exe_must hh
    have:=eq_of_beq hz
    subst this
    exact ⟨_,_,hh1,WT_fs,row_snap h hob hd⟩
  ·
   rename_i kd d sz off len
   obtain ⟨A,c,rfl,hc,hl⟩:=hu
   replace hh:=exe_obj hh
   cases hob:vw (S.obj d) with
   | none=>rw [hob] at hh; exact (exe_fail hh).elim
   | some ob=>
    rw [hob] at hh
    cases ob <;> first | exact (exe_fail hh).elim | skip
    rename_i own e k' xs
    obtain ⟨hz,hh1⟩:=exe_must hh
    obtain ⟨hr,hh2⟩:=exe_chk hh1
    simp only [Bool.and_eq_true,beq_iff_eq] at hz
    obtain ⟨hk,hs⟩:=hz
    subst hk
    have hs:=Nat.eq_of_beq_eq_true hs
    subst hs
    have hr:=Nat.le_of_ble_eq_true hr
    have hlen:((xs.drop off).take len).length=len:=by simp; omega
    refine ⟨_,_,hh2,WT_fs,A,c,by rw [hlen],by omega,fun h0=>?_⟩
    rw [hlen] at h0
    obtain ⟨g,m',c',hd,hle,rfl⟩:=hl h0
    have hsn:=row_snap h hob hd
    obtain ⟨A',c2,q1,q2,q3⟩:=hsn
    cases q1
    obtain ⟨ad,q4,q5,q6⟩:=q3 (by omega)
    cases q4
    refine ⟨_,rfl,q5,?_⟩
    rw [ints_drop_take]
    have:=cellsAt_take q6 off len
    rw [add_lit] at this
    simpa using this
  ·
   rename_i kd d oo mm off len
   obtain ⟨A,c,rfl,hc,hle,hl⟩:=hu
   replace hh:=exe_obj hh
   cases hob:vw (S.obj d) with
   | none=>rw [hob] at hh; exact (exe_fail hh).elim
   | some ob=>
    rw [hob] at hh
    cases ob <;> first | exact (exe_fail hh).elim | skip
    rename_i tr
    simp only at hh
    split at hh <;> first | exact (exe_fail hh).elim | skip
    rename_i k' m' xs hr
    obtain ⟨hz,hh1⟩:=exe_must hh
    obtain ⟨hr2,hh2⟩:=exe_chk hh1
    simp only [Bool.and_eq_true,beq_iff_eq] at hz
    obtain ⟨hk,hs⟩:=hz
    subst hk
    have hs:=Nat.eq_of_beq_eq_true hs
    subst hs
    have hlen:((xs.drop off).take len).length=len:=by
     rcases Nat.eq_zero_or_pos len with h0 | h0
     ·simp [h0]
     ·obtain ⟨g,hd,rfl⟩:=hl h0
      obtain ⟨g',e,fr,vb,h1,h2,h3,h4,h5,h6⟩:=h.view hob hd
      obtain ⟨va,us,ws,k1,k2,⟨k3,_⟩,k4,k5,k6⟩:=getAt_ok tr h4 h5 hr
      simp only [List.length_take,List.length_drop]
      omega
    refine ⟨_,_,hh2,WT_fs,A,c,by rw [hlen],by omega,fun h0=>?_⟩
    rw [hlen] at h0
    obtain ⟨g,hd,rfl⟩:=hl h0
    obtain ⟨g',e,fr,vb,h1,h2,h3,h4,h5,h6⟩:=h.view hob hd
    obtain ⟨va,us,ws,k1,k2,⟨k3,rfl⟩,k4,k5,k6⟩:=getAt_ok tr h4 h5 hr
    have hgg:g=g':=by rw [hd] at h1; cases h1; rfl
    subst hgg
    refine ⟨_,rfl,own_okX h hob rfl hd rfl (by simp),?_⟩
    have hcb:=cellsAt_block h2
    rw [k1] at hcb
    have hcb':=cellsAt_left (cellsAt_right hcb)
    rw [add_lit,Nat.zero_add,k2] at hcb'
    have hcb2:cellsAt w ⟨g,oo,none⟩ (ints kd xs):=by simpa [Value.cells] using hcb'
    have:=cellsAt_take hcb2 off len
    rw [add_lit] at this
    rw [ints_drop_take]
    exact this
  ·
   rename_i s'
   have hv:v=.slice none 0 0:=hu
   exact ⟨_,_,hh,WT_fv,none,0,[],hv,Nat.le_refl _,(fun x hx=>by cases hx),rfl,fun h=>by simp at h⟩
  ·
   rename_i s' s'' xs
   obtain ⟨hz,hh1⟩:=exe_must hh
   have:=shEq_eq hz
   subst this
   exact ⟨_,_,hh1,WT_fv,CV_mono (keepsOk fun b hb=>okX_of_ok hb) _ _ hu⟩
  ·
   rename_i s' d
   obtain ⟨hd,A,m',c,hv⟩:=hu
   replace hh:=exe_obj hh
   cases hob:vw (S.obj d) with
   | none=>rw [hob] at hh; exact (exe_fail hh).elim
   | some ob=>
    rw [hob] at hh
    cases ob <;> first | exact (exe_fail hh).elim | skip
    ·obtain ⟨hz,hh1⟩:=exe_must hh
     have:=shEq_eq hz
     subst this
     exact ⟨_,_,hh1,WT_fv,rows_snap h hob hd⟩
    ·rename_i e s'' vs
     obtain ⟨hz,hh1⟩:=exe_must hh
     have:=shEq_eq hz
     subst this
     obtain ⟨v',cs,h1,h2,h3,h4⟩:=h.view hob hd
     rw [hd] at h1
     cases h1
     obtain ⟨vs',l,hk,hlen,hw,hcs⟩:=snapL_ok (snap_ok h m s') vs cs _ h2 hh1
     refine ⟨_,_,hk,WT_fv,?_⟩
     have hcs':=CVs_mono (keepsOk fun b hb=>okX_mono (l':=d::l) (fun x hx=>List.mem_cons_of_mem _ hx) hb) _ _ hcs
     rcases h4.2 with ⟨q1,q2⟩ | ⟨g,cap,cur,fr,q1,q2,q3,q4,q5,q6,q7,q8⟩
     ·refine ⟨none,0,cs,by rw [q1,hlen,q2],by omega,hw,hcs',fun h=>by omega⟩
     ·refine ⟨_,cap,cs,by rw [q1,hlen],by omega,hw,hcs',fun _=>⟨_,rfl,own_okX h hob rfl hd (by rw [q1]; rfl) (by simp),?_⟩⟩
      rw [q1] at h4
      exact h4.cells.1
  ·
   rename_i s' d sz off len
   obtain ⟨A,c,rfl,hc,hl⟩:=hu
   replace hh:=exe_obj hh
   cases hob:vw (S.obj d) with
   | none=>rw [hob] at hh; exact (exe_fail hh).elim
   | some ob=>
    rw [hob] at hh
    cases ob <;> first | exact (exe_fail hh).elim | skip
    rename_i own e s'' xs
    obtain ⟨hz,hh1⟩:=exe_must hh
    obtain ⟨hr,hh2⟩:=exe_chk hh1
    simp only [Bool.and_eq_true] at hz
    have:=shEq_eq hz.1
    subst this
    have hs:=Nat.eq_of_beq_eq_true hz.2
    subst hs
    have hr:=Nat.le_of_ble_eq_true hr
    have hlen:((xs.drop off).take len).length=len:=by simp; omega
    have hov:=h.viewH hob (rows_has hob)
    have hθ:∃ vd,θ d=some vd:=by obtain ⟨v,h1,_⟩:=hov; exact ⟨v,h1⟩
    obtain ⟨vd,hvd⟩:=hθ
    have hsn:=rows_snap h hob hvd
    obtain ⟨A',c2,cs,q1,q2,hw,hcs,q3⟩:=hsn
    refine ⟨_,_,hh2,WT_fv,A,c,_,by rw [hlen],by omega,fun x hx=>hw x (List.mem_of_mem_drop (List.mem_of_mem_take hx)),CVs_cut hcs hw (by omega),fun h0=>?_⟩
    rw [hlen] at h0
    obtain ⟨g,m',c',hd,hle,rfl⟩:=hl h0
    rw [hvd] at hd
    cases hd
    cases q1
    obtain ⟨ad,q4,q5,q6⟩:=q3 (by omega)
    cases q4
    refine ⟨_,rfl,q5,?_⟩
    have:=cellsAt_take q6 (off * s'.width) (len * s'.width)
    rw [add_lit] at this
    simpa using this
  ·
   rename_i l cs
   obtain ⟨vs,rfl,hcs⟩:=hu
   obtain ⟨cs',ll,hk,hw,hcv⟩:=snapZ_ok (fun s=>snap_ok h m s) l cs vs.toList _ hcs hh
   exact ⟨_,_,hk,⟨cs',rfl,hw⟩,vs,rfl,hcv⟩
  ·obtain ⟨hz,hh1⟩:=exe_must hh
   exact ⟨_,_,hh1,shOk_WT hz,CV_nrm _ _ _ (CV_mono (keepsOk fun b hb=>okX_of_ok hb) _ _ hu)⟩
end
end Go.Am
end
section
set_option linter.unusedVariables false
set_option linter.unusedSimpArgs false
namespace Go.Am
open Go.RowKit
section
variable {C:Ctx} {S S' : St} {θ θ' : Nm→Option Value} {a:Act} {w w' : World} {ok:Nat→Prop}
theorem CVs_ints {k:IntKind}:∀ {vs:List AV} {cs:List Value},(∀ x∈vs,WT (.int k) x)→CVs w ok θ vs cs→cs=ints k (vs.map AV.toInt)
 | [],cs,_,h=>h
 | x::vs,cs,hw,h=>by
  obtain ⟨v,rest,rfl,hs,h1,h2⟩:=h
  obtain ⟨n,rfl⟩:=hw x (by simp)
  have h1:v=.int k n:=h1
  subst h1
  rw [CVs_ints (fun y hy=>hw y (by simp [hy])) h2]
  rfl
theorem asRow_ok (h:Rel C S θ a w) {d:Nm} {o:Ob} {k:IntKind} {e:TypeId} {xs:List Int} (ho:S.obj d=some o) (hd:S.has d) (hr:asRow k o=some (e,xs)) :
  o.isOwn=true∧∃ v,θ d=some v∧OwnRow w C.M e 1 v xs.length (ints k xs):=by
 unfold asRow at hr
 split at hr
 ·split at hr <;> first | (cases hr; done) | skip
  rename_i hk
  cases hr
  have hk:=beq_iff_eq.1 hk
  subst hk
  obtain ⟨v,h1,h2,_⟩:=h.objs _ _ hd ho
  exact ⟨rfl,v,h1,h2 rfl⟩
 ·split at hr <;> first | (cases hr; done) | skip
  rename_i hk
  cases hr
  rw [Bool.and_eq_true] at hk
  have hk1:=beq_iff_eq.1 hk.1
  subst hk1
  obtain ⟨v,cs,h1,h2,_,h4⟩:=h.objs _ _ hd ho
  refine ⟨rfl,v,h1,?_⟩
  rw [CVs_ints (fitAll_WT hk.2) h2] at h4
  rw [List.length_map]
  exact h4
 ·split at hr <;> first | (cases hr; done) | skip
  rename_i hk
  cases hr
  have hk:=beq_iff_eq.1 hk
  subst hk
  obtain ⟨v,h1,h2,_⟩:=h.objs _ _ hd ho
  exact ⟨rfl,v,h1,h2⟩
 ·cases hr
theorem asRows_ok (h:Rel C S θ a w) {d:Nm} {o:Ob} {s:Sh} {e:TypeId} {xs:List AV} (ho:S.obj d=some o) (hd:S.has d) (hr:asRows s o=some (e,xs)) :
  o.isOwn=true∧∃ v cs,θ d=some v∧(∀ x∈xs,WT s x)∧CVs w (okOf C w S θ) θ xs cs∧OwnRow w C.M e s.width v xs.length cs:=by
 unfold asRows at hr
 split at hr
 ·split at hr <;> first | (cases hr; done) | skip
  rename_i hk
  cases hr
  have hk:=shEq_eq hk
  subst hk
  obtain ⟨v,h1,h2,h3,_⟩:=h.objs _ _ hd ho
  obtain ⟨cs,h4,h5⟩:=h3 rfl
  exact ⟨rfl,v,cs,h1,h2,h4,h5⟩
 ·split at hr <;> first | (cases hr; done) | skip
  rename_i hk
  cases hr
  rw [Bool.and_eq_true] at hk
  have hk1:=shEq_eq hk.1
  subst hk1
  obtain ⟨v,cs,h1,h2,_,h4⟩:=h.objs _ _ hd ho
  exact ⟨rfl,v,cs,h1,fitAll_WT hk.2,h2,h4⟩
 ·cases hr
end
section
variable {C:Ctx} {S S' : St} {θ θ' : Nm→Option Value} {a:Act} {w w' : World} {ok:Nat→Prop}
theorem heap_freeze {g:Nat} {cur:Array Value} {e:TypeId} {fr:Nat × Nat} (hg:w.heap[g]? = some (.cells cur e fr)) (hf:Free cur fr) :
  ∃ fr',(w.freeze ⟨g,cur.size,none⟩ 1).heap[g]? = some (.cells cur e fr')∧Free cur fr':=by
 obtain ⟨lo,hi⟩:=fr
 obtain ⟨h1,h2⟩:=hf
 dsimp only at h1 h2
 have hh:(w.freeze ⟨g,cur.size,none⟩ 1).heap[g]? = some (.cells cur e (if lo == hi then (cur.size,cur.size+1) else (min lo cur.size,max hi (cur.size+1)))):=by
  unfold World.freeze
  rw [if_neg (by decide)]
  simp only [Array.getElem?_modify,if_true,hg,Option.map_some]
 refine ⟨_,hh,?_⟩
 by_cases he:lo=hi
 ·subst he
  simp only [beq_self_eq_true,if_true]
  exact ⟨Nat.le_succ _,fun o ho hq=>by have:=hq.1; dsimp only at this; omega⟩
 ·have:(lo == hi)=false:=by simpa using he
  simp only [this,Bool.false_eq_true,if_false]
  have hlo:cur.size≤lo:=by
   rcases Nat.lt_or_ge lo cur.size with h3 | h3
   ·exact (h2 lo h3 ⟨Nat.le_refl _,by omega⟩).elim
   ·exact h3
  exact ⟨by dsimp only; omega,fun o ho hq=>by have:=hq.1; dsimp only at this; omega⟩
theorem heap_freeze_other {g b n:Nat} (h:b≠g):(w.freeze ⟨g,n,none⟩ 1).heap[b]? = w.heap[b]?:=by
 unfold World.freeze
 rw [if_neg (by decide)]
 simp only [Array.getElem?_modify,if_neg (Ne.symm h)]
theorem OwnRow.mark {M:Nat→Prop} {e:TypeId} {size n:Nat} {v:Value} {cs:List Value} {g m c:Nat} {cur:Array Value} {e' : TypeId} {fr:Nat × Nat} (h:OwnRow w M e size v n cs) (hv:v=.slice (some ⟨g,0,none⟩) m c)
  (hg:w.heap[g]? = some (.cells cur e' fr)):OwnRow (w.freeze ⟨g,cur.size,none⟩ 1) M e size v n cs:=by
 refine ⟨h.1,?_⟩
 rcases h.2 with ⟨h1,_⟩ | ⟨g1,cap,cur1,fr1,h1,h2,h3,h4,h5⟩
 ·rw [hv] at h1; cases h1
 ·rw [hv] at h1
  cases h1
  rw [hg] at h3
  cases h3
  obtain ⟨fr',k1,k2⟩:=heap_freeze hg h4
  exact .inr ⟨g,c,cur,fr',hv,h2,k1,k2,h5⟩
theorem Rel.marked (h:Rel C S θ a w) {d:Nm} {ob:Ob} {k:IntKind} {e:TypeId} {xs:List Int} (ho:S.obj d=some ob) (hr:asRow k ob=some (e,xs)) {g m c:Nat} {cur:Array Value} {fr:Nat × Nat}
  (hv:θ d=some (.slice (some ⟨g,0,none⟩) m c)) (hg:w.heap[g]? = some (.cells cur e fr)):Rel C S θ a (w.freeze ⟨g,cur.size,none⟩ 1):=by
 have hhas:=h.has_of hv
 obtain ⟨hown,_⟩:=asRow_ok h ho hhas hr
 have e1:(w.freeze ⟨g,cur.size,none⟩ 1).os=w.os∧(w.freeze ⟨g,cur.size,none⟩ 1).tape=w.tape∧Out w (w.freeze ⟨g,cur.size,none⟩ 1)∧(w.freeze ⟨g,cur.size,none⟩ 1).heap.size=w.heap.size:=by
  unfold World.freeze
  rw [if_neg (by decide)]
  exact ⟨rfl,rfl,⟨rfl,.inr trivial⟩,by simp⟩
 refine h.turn (fun i=>i=d) (fun b=>b=g) rfl (fun _ _=>⟨rfl,rfl⟩) (fun _ _=>Iff.rfl) (fun _ _ h=>h) e1.1 e1.2.1 e1.2.2.1 (by omega) (fun b _ hb=>heap_freeze_other hb) ?_ ?_ ?_ ?_ ?_ ?_
 ·rintro b rfl
  exact ⟨d,ob,_,rfl,ho,hown,hv,rfl⟩
 ·rintro d' o v b rfl h1 h2 h3 h4
  exact .inr ⟨d',o,v,rfl,h1,h2,h3,h4⟩
 ·rintro d1 d2 o o' v v' b rfl rfl _ _ _ _ hne
  exact (hne rfl).elim
 ·rintro d' rfl hn
  exact (hn hhas).elim
 ·rintro d' v rfl h1
  exact h.base _ _ h1
 ·rintro hk d' o rfl _ h1
  rw [ho] at h1
  cases h1
  have hov:=h.objs _ _ hhas ho
  cases ob with
  | dead=>cases hr
  | box t=>cases hr
  | mapo=>cases hr
  | iter=>cases hr
  | rows own e s xs=>cases hr
  | rowS e2 k2 xs2 sp=>
   obtain ⟨v,h1,h2,h3⟩:=hov
   rw [hv] at h1
   cases h1
   refine ⟨_,hv,h2.mark rfl hg,fun hs=>?_⟩
   obtain ⟨g1,cap1,cur1,fr1,q1,q2,q3⟩:=h3 hs
   cases q1
   rw [hg] at q2
   cases q2
   have hfree:Free cur fr:=by
    rcases h2.2 with ⟨z1,_⟩ | ⟨g2,cap2,cur2,fr2,z1,z2,z3,z4,_⟩
    ·cases z1
    ·cases z1
     rw [hg] at z3
     cases z3
     exact z4
   obtain ⟨fr',k1,_⟩:=heap_freeze hg hfree
   exact ⟨g,_,cur,fr',rfl,k1,q3⟩
  | row own e k xs=>
   cases own with
   | false=>cases hr
   | true=>
    obtain ⟨v,h1,h2,h3⟩:=hov
    rw [hv] at h1
    cases h1
    exact ⟨_,hv,fun _=>(h2 rfl).mark rfl hg,fun h=>by cases h⟩
  | lit e s vs=>
   obtain ⟨v,cs,h1,h2,h3,h4⟩:=hov
   rw [hv] at h1
   cases h1
   exact ⟨_,cs,hv,CVs_mono hk _ _ h2,h3,h4.mark rfl hg⟩
end
section
variable {C:Ctx} {S S' : St} {θ θ' : Nm→Option Value} {a:Act} {w w' : World} {n:Rp} {ok:Nat→Prop} {P:Program} {o:Oper}
theorem okX_setObj {d:Nat} {o' : Ob} (ho:o'.isOwn=false) {l:List Nm} {b:Nat} (h:okX C w S θ (.top d::l) b):okX C w (S.setObj d o') θ l b:=by
 refine ⟨h.1,h.2.1,?_⟩
 rintro ⟨d',ob,v,h1,h2,h3,h4,h5⟩
 by_cases e:d' = .top d
 ·subst e
  rw [obj_setObj_same] at h2
  cases h2
  rw [ho] at h3
  cases h3
 ·rw [obj_setObj_other _ _ _ _ e] at h2
  exact h.2.2 ⟨d',ob,v,by simp [e,h1],h2,h3,h4,h5⟩
theorem ok_of_okX {b:Nat} (h:okX C w S θ [] b):okOf C w S θ b:=⟨h.1,h.2.1,fun ⟨d,ob,v,h1⟩=>h.2.2 ⟨d,ob,v,by simp,h1⟩⟩
theorem Rel.freeze (h:Rel C S θ a w) {d:Nat} {ob o' : Ob} (ho:S.obj (.top d)=some ob) (hn:o'.isOwn=false) (hob:OV C w (okX C w S θ [.top d]) θ (.top d) o'):Rel C (S.setObj d o') θ a w:=by
 refine h.turn (fun i=>i=.top d) (fun _=>False) rfl (fun i hi=>⟨obj_setObj_other _ _ _ _ hi,rfl⟩) (fun i hi=>has_setObj_other _ _ _ _ hi) (fun _ _ h=>h) rfl rfl ⟨rfl,.inr trivial⟩ (Nat.le_refl _) (fun _ _ _=>rfl) (fun _ h=>h.elim) ?_ ?_ ?_ (fun i u _ hu=>h.base i u hu) ?_
 ·rintro i o₁ u b rfl h1 h2
  rw [obj_setObj_same] at h1
  cases h1
  rw [hn] at h2
  cases h2
 ·rintro i j o₁ o₂ u u' b rfl rfl _ _ _ _ hne
  exact (hne rfl).elim
 ·rintro i rfl hi
  exact (hi (has_setObj_same _ _ _)).elim
 ·rintro hk i o₁ rfl _ h1
  rw [obj_setObj_same] at h1
  cases h1
  exact OV.mono (keepsOk fun b hb=>ok_of_okX (okX_setObj hn hb)) hob (fun _ _ _ _ _=>rfl)
theorem wrT_top {d:Nm} {o:Ob} {k:Pg} (h:(wrT d o k).exe n S=some S'):∃ e,d=.top e∧k.exe n (S.setObj e o)=some S':=by
 cases d with
 | top e=>exact ⟨e,rfl,h⟩
 | mem f i=>exact (exe_fail h).elim
theorem freezeL_ok:∀ (l:List Nm) {S:St} {p:Pg},Rel C S θ a w→(freezeL l p).exe n S=some S'→
  ∃ S1,Rel C S1 θ a w∧p.exe n S1=some S'∧(∀ b,okX C w S θ l b→okOf C w S1 θ b)∧(∀ b,okOf C w S θ b→okOf C w S1 θ b)∧(∀ d,S.has d↔S1.has d)∧S1.tm=S.tm∧
   (∀ d,d ∉ l→S1.obj d=S.obj d)∧S1.fm=S.fm
 | [],S,p,h,hh=>⟨S,h,hh,fun b hb=>ok_of_okX hb,fun b hb=>hb,fun d=>Iff.rfl,rfl,fun _ _=>rfl,rfl⟩
 | d::l,S,p,h,hh=>by
  simp only [freezeL] at hh
  replace hh:=exe_obj hh
  cases hob:S.obj d with
  | none=>rw [hob] at hh; exact (exe_fail hh).elim
  | some ob=>
   rw [hob] at hh
   have step:∀ (e:Nat) (o' : Ob),d=.top e→o'.isOwn=false→OV C w (okX C w S θ [.top e]) θ (.top e) o'→(freezeL l p).exe n (S.setObj e o')=some S'→
     ∃ S1,Rel C S1 θ a w∧p.exe n S1=some S'∧(∀ b,okX C w S θ (d::l) b→okOf C w S1 θ b)∧(∀ b,okOf C w S θ b→okOf C w S1 θ b)∧(∀ d,S.has d↔S1.has d)∧S1.tm=S.tm∧
      (∀ d',d' ∉ d::l→S1.obj d' = S.obj d')∧S1.fm=S.fm:=by
    rintro e o' rfl hn hov hk
    have h1:=h.freeze hob hn hov
    obtain ⟨S1,k1,k2,k3,k4,k5,k6,k7,k8⟩:=freezeL_ok l h1 hk
    refine ⟨S1,k1,k2,fun b hb=>k3 b (okX_setObj hn hb),fun b hb=>k4 b (ok_of_okX (okX_setObj hn (okX_of_ok hb))),fun d'=>Iff.trans ?_ (k5 d'),k6,fun d' hd'=>?_,k8⟩
    ·by_cases e1:d' = .top e
     ·subst e1; exact ⟨fun _=>has_setObj_same _ _ _,fun _=>has_top hob⟩
     ·exact (has_setObj_other _ _ _ _ e1).symm
    ·simp only [List.mem_cons,not_or] at hd'
     rw [k7 d' hd'.2,obj_setObj_other _ _ _ _ hd'.1]
   cases ob <;> first | exact (exe_fail hh).elim | skip
   ·obtain ⟨t,rfl,hh⟩:=wrT_top hh
    exact step t .dead rfl rfl trivial hh
   ·rename_i own e k xs
    obtain ⟨t,rfl,hh⟩:=wrT_top hh
    have hhas:=has_top hob
    obtain ⟨v,hv,_⟩:=h.objs _ _ hhas hob
    exact step t (.row false e k xs) rfl rfl ⟨v,hv,(fun h=>by cases h),fun _=>row_snap h (by rw [hob]; rfl) hv⟩ hh
   ·rename_i own e s xs
    obtain ⟨t,rfl,hh⟩:=wrT_top hh
    have hhas:=has_top hob
    obtain ⟨v,hv,hw,_⟩:=h.objs _ _ hhas hob
    have hsn:=rows_snap h (own:=own) (e:=e) (s:=s) (xs:=xs) (by rw [hob]; rfl) hv
    exact step t (.rows false e s xs) rfl rfl ⟨v,hv,hw,(fun h=>by cases h),fun _=>hsn⟩ hh
   ·obtain ⟨t,rfl,hh⟩:=wrT_top hh
    exact step t .dead rfl rfl trivial hh
   ·rename_i e k xs sp
    obtain ⟨t,rfl,hh⟩:=wrT_top hh
    have hhas:=has_top hob
    obtain ⟨v,hv,_⟩:=h.objs _ _ hhas hob
    exact step t (.row false e k xs) rfl rfl ⟨v,hv,(fun h=>by cases h),fun _=>row_snap (own:=true) (e:=e) h (by rw [hob]; rfl) hv⟩ hh
theorem frz_ok {s:Sh} {u:AV} {v:Value} {K:AV→Pg} (h:Rel C S θ a w) (hu:CV w (okOf C w S θ) θ u v) (hh:(frz s u K).exe n S=some S') :
  ∃ S1 u',Rel C S1 θ a w∧WT s u'∧CV w (okOf C w S1 θ) θ u' v∧(K u').exe n S1=some S'∧(∀ b,okOf C w S θ b→okOf C w S1 θ b)∧(∀ d,S.has d↔S1.has d):=by
 obtain ⟨u',l,hk,hw,hcv⟩:=snap_ok h 9 s u v _ hu hh
 obtain ⟨S1,k1,k2,k3,k4,k5,k6,_⟩:=freezeL_ok l h hk
 exact ⟨S1,u',k1,hw,CV_mono (keepsOk k3) _ _ hcv,k2,k4,k5⟩
theorem kindT_ok {e:TypeId} {k:IntKind} (h:kindT P e=some k):P.underlying e=some (.int k):=by
 unfold kindT at h
 split at h
 ·cases h; assumption
 ·cases h
theorem elemT_ok {t e:TypeId} (h:elemT P t=some e):P.underlying t=some (.slice e):=by
 unfold elemT at h
 split at h
 ·cases h; assumption
 ·cases h
theorem run_bytesToString {xs:List Int} {A:Option Addr} {c:Nat} (hl:0<xs.length→∃ ad,A=some ad∧cellsAt w ad (ints .u8 xs)) :
  (Conv.bytesToString (.slice A xs.length c)).run P w=.ok (.string ⟨(xs.map toU8).toArray⟩) w:=by
 cases A with
 | none=>
  have:xs=[]:=by
   rcases Nat.eq_zero_or_pos xs.length with h0 | h0
   ·exact List.eq_nil_of_length_eq_zero h0
   ·obtain ⟨ad,h,_⟩:=hl h0; cases h
  subst this
  rfl
 | some ad=>
  have hc:cellsAt w ad (ints .u8 xs):=by
   rcases Nat.eq_zero_or_pos xs.length with h0 | h0
   ·have:xs=[]:=List.eq_nil_of_length_eq_zero h0
    subst this
    intro j u hj
    simp [ints] at hj
   ·obtain ⟨ad',h,h2⟩:=hl h0; cases h; exact h2
  have:=run_loadCells' (P:=P) hc
  rw [ints_length] at this
  rw [Go.run_bytesToString (P:=P) w ad xs.length c xs this,foldl_push_bytes]
  simp [toU8]
theorem opConvert_ok {src dst:TypeId} {x:Operand} {u:AV} (ho:o.op=.convert src dst x) (h:Rel C S θ a w) (hu:CV w (okOf C w S θ) θ u (a.eval x)) (hh:(opConvert P o src dst u).exe n S=some S'):Does P C S' o a w:=by
 unfold opConvert at hh
 split at hh <;> first | exact (exe_fail hh).elim | skip
 ·rename_i k hd
  split at hh <;> first | exact (exe_fail hh).elim | skip
  rename_i k' m d' hs
  have hx:a.eval x=.int k' m:=hu
  refine Does.value (v:=.int k (k.wrap m)) ?_ (put_ok' hh h rfl)
  simp only [execOp,ho,convert,Sem.run_bind,run_underlying hs,run_underlying hd,Result.andThen_ok,hx]
  cases d' <;> simp [Conv.intToInt]
 ·rename_i hd
  split at hh <;> first | exact (exe_fail hh).elim | skip
  ·rename_i hs
   split at hh <;> first | exact (exe_fail hh).elim | skip
   rename_i l
   have hx:a.eval x=.string ⟨l.toArray⟩:=hu
   refine Does.value (v:=.string ⟨l.toArray⟩) ?_ (put_ok' hh h rfl)
   simp only [execOp,ho,convert,Sem.run_bind,run_underlying hs,run_underlying hd,Result.andThen_ok,hx,Sem.run_pure]
  ·rename_i e hs
   split at hh <;> first | exact (exe_fail hh).elim | skip
   rename_i hk
   have hk':=kindT_ok hk
   obtain ⟨u',l,hk1,hw,hcv⟩:=snap_ok h 2 (.fs .u8) u _ _ hu hh
   obtain ⟨xs,rfl⟩:=hw
   obtain ⟨A,c,hx,hc,hl⟩:=hcv
   have hrun:(Conv.bytesToString (a.eval x)).run P w=.ok (.string ⟨(xs.map toU8).toArray⟩) w:=by
    rw [hx]
    exact run_bytesToString (fun h0=>by obtain ⟨ad,q1,_,q2⟩:=hl h0; exact ⟨ad,q1,q2⟩)
   refine Does.value (v:=.string ⟨(xs.map toU8).toArray⟩) ?_ (put_ok' hk1 h rfl)
   simp only [execOp,ho,convert,Sem.run_bind,run_underlying hs,run_underlying hd,Result.andThen_ok]
   rw [hx] at hrun ⊢
   simp only [run_underlying hk',Sem.run_bind,Result.andThen_ok,hrun,Sem.run_pure]
 ·rename_i e hd
  split at hh <;> first | exact (exe_fail hh).elim | skip
  rename_i l hs hk
  have hx:a.eval x=.string ⟨l.toArray⟩:=hu
  have hk':=kindT_ok hk
  obtain ⟨hb,hh1⟩:=exe_chk hh
  have hb:=Nat.le_of_ble_eq_true hb
  have hg1:=grownCap_ge w l.length 0 e
  have hg2:=grownCap_le_maxLen w l.length 0 e (by unfold maxLen; omega)
  have hsz:(⟨l.toArray⟩ : ByteArray).size=l.length:=str_size l
  have hcl:(Lib.bytesCells w e ⟨l.toArray⟩).size=grownCap w l.length 0 e:=by
   simp only [Lib.bytesCells,Array.size_append,Array.size_map,Array.size_replicate,hsz,List.size_toArray]
   omega
  have hbw:Later w (Lib.bytesWorld w e ⟨l.toArray⟩):=by
   refine ⟨⟨?_,?_,?_,by rw [Lib.bytesWorld_size]; omega,fun j hj=>Lib.bytesWorld_at_old w e _ j hj⟩,?_⟩ <;>(simp only [Lib.bytesWorld,World.freeze,Nat.succ_ne_self,if_false]; first | rfl | exact .inr trivial | exact Nat.le_succ _)
  obtain ⟨θ',hr⟩:=newOb_ok (v:=.slice (some ⟨w.heap.size,0,none⟩) l.length (grownCap w l.length 0 e)) h hh1 hbw (by rintro g hg; cases hg; exact Nat.le_refl _) (base0_row _ _ _)
   (by
    intro d ok' θ' hk hd'
    refine ⟨_,hd',fun _=>⟨by simp [ints],.inr ⟨w.heap.size,grownCap w l.length 0 e,_,_,by simp,.inl h.size,Lib.bytesWorld_at_new w e _,?_,by simpa using hg1,hg2,by rw [hcl,Nat.mul_one],?_⟩⟩,fun h=>by cases h⟩
    ·refine ⟨by first | exact Nat.le_succ _ | simp | omega,fun p hp hq=>?_⟩
     have:=hq.1
     simp only at this
     omega
    ·simp only [Lib.bytesCells,Array.toList_append,Array.toList_map,List.length_map,Nat.mul_one]
     rw [List.take_left' (by simp)]
     simp [ints])
   (by intro d ok' θ' hd'; exact ⟨hd',_,_,_,rfl⟩)
  refine Does.value (v:=.slice (some ⟨w.heap.size,0,none⟩) l.length (grownCap w l.length 0 e)) ?_ hr
  have hrun:=Lib.run_convert_string_bytes (P:=P) w src dst e ⟨l.toArray⟩ hs hd hk'
  rw [hsz] at hrun
  simp only [execOp,ho,hx,Sem.run_bind,hrun,Result.andThen_ok,Sem.run_pure]
  ·rename_i e1 d hs hk
   obtain ⟨hm,hh1⟩:=exe_must hh
   have hm:src=dst:=by simpa using hm
   subst hm
   rw [hd] at hs
   cases hs
   have hk':=kindT_ok hk
   have hh2:=exe_obj hh1
   split at hh2 <;> first | exact (exe_fail hh2).elim | skip
   rename_i ob hob
   split at hh2 <;> first | exact (exe_fail hh2).elim | skip
   rename_i e2 x0 xs has
   obtain ⟨hown,v,hv,hrow⟩:=asRow_ok h hob (h.has_of hu.1) has
   obtain ⟨hv',A,m,c,hx⟩:=hu
   rw [hv] at hv'
   cases hv'
   rcases hrow.2 with ⟨_,h0⟩ | ⟨g,cap,cur,fr,h1,h2,h3,h4,h5⟩
   ·simp at h0
   ·have hrel:=h.marked hob has (h1 ▸ hv) h3
    refine Does.value (v:=a.eval x) ?_ (put_ok' hh2 hrel ⟨hv,A,m,c,hx⟩)
    have hsh:w.shape? g=some (e2,cur.size):=by unfold World.shape?; rw [h3]
    simp only [execOp,ho,convert,Sem.run_bind,run_underlying hd,Result.andThen_ok,h1]
    simp [run_underlying hk',markStringish,hsh]
theorem foldSet (off:Nat):∀ (vs us old ws:List Value) (k:Nat),us.length=off+k→old.length=vs.length→
  (vs.zipIdx k).foldl (fun cs (x:Value × Nat)=>cs.setIfInBounds (off+x.2) x.1) (us++(old++ws)).toArray=(us++(vs++ws)).toArray
 | [],us,old,ws,k,h1,h2=>by
  have:old=[]:=List.eq_nil_of_length_eq_zero h2
  subst this
  rfl
 | v::vs,us,old,ws,k,h1,h2=>by
  cases old with
  | nil=>simp at h2
  | cons x old=>
   simp only [List.zipIdx_cons,List.foldl_cons]
   have e:(us++(x::old++ws)).toArray.setIfInBounds (off+k) v=((us++[v])++(old++ws)).toArray:=by
    apply Array.ext'
    rw [Array.toList_setIfInBounds,←h1]
    simp
   rw [e,foldSet off vs (us++[v]) old ws (k+1) (by simp [h1]; omega) (by simpa using h2)]
   simp
theorem setParts_fill {place:Nat→Option (Nat × Nat)}:∀ (ps:List (Nat × AV)) (vals:List (Nat × Value)) {items items' : List AV} {cells:List Value},
  CVs w ok θ items cells→(∀ i c,items[i]? = some c→place i=some (AV.widths (items.take i),c.width))→setParts items ps=some items'→
  vals.map (·.1)=ps.map (·.1)→CVt w ok θ (ps.map (·.2)) (vals.map (·.2))→
  ∃ cells',Instr.fill place cells.toArray vals=some cells'∧CVs w ok θ items' cells'.toList
 | [],vals,items,items',cells,hc,hp,hs,hi,hv=>by
  have:vals=[]:=by simpa using hi
  subst this
  cases hs
  exact ⟨cells.toArray,rfl,by simpa using hc⟩
 | (i,x)::ps,vals,items,items',cells,hc,hp,hs,hi,hv=>by
  cases vals with
  | nil=>simp at hi
  | cons q vals=>
   obtain ⟨j,v⟩:=q
   simp only [List.map_cons,List.cons.injEq] at hi
   obtain ⟨rfl,hi⟩:=hi
   obtain ⟨v',rest,e1,hv1,hv2⟩:=hv
   simp only [List.map_cons,List.cons.injEq] at e1
   obtain ⟨rfl,rfl⟩:=e1
   simp only [setParts] at hs
   split at hs <;> first | (cases hs; done) | skip
   rename_i c hc0
   split at hs <;> first | (cases hs; done) | skip
   rename_i hb
   simp only [Bool.and_eq_true] at hb
   have hw:=Nat.eq_of_beq_eq_true hb.1
   have hsz:v.cells.size=x.width:=CV_size hb.2 hv1
   obtain ⟨v0,us,ws,k1,k2,k3,k4,k5⟩:=CVs_set (y:=x) hc hc0
   have hpl:=hp j c hc0
   have hnew:=k5 v hv1 hsz
   have hp' : ∀ i c',(items.set j x)[i]? = some c'→place i=some (AV.widths ((items.set j x).take i),c'.width):=by
    intro i c' hi'
    have hwt:AV.widths ((items.set j x).take i)=AV.widths (items.take i):=by
     rw [List.take_set]
     by_cases hlt:j<(items.take i).length
     ·have hjt:(items.take i)[j]? = some c:=by
       rw [List.getElem?_take]
       have:j<i:=by simp at hlt; omega
       rw [if_pos this]; exact hc0
      rw [set_split _ _ _ hlt]
      have:=self_split (items.take i) j hlt
      conv=>rhs; rw [this]
      rw [widths_append,widths_append,widths_append,widths_append]
      have hjj:(items.take i)[j]=c:=by
       have:=List.getElem?_eq_getElem hlt
       rw [hjt] at this
       exact (Option.some.inj this).symm
      rw [hjj]
      simp only [AV.widths,hw]
     ·rw [List.set_eq_of_length_le (by omega)]
    rw [hwt]
    by_cases e:j=i
    ·subst e
     have hlt:j<items.length:=(List.getElem?_eq_some_iff.1 hc0).1
     rw [List.getElem?_set_self hlt] at hi'
     cases hi'
     rw [hpl,hw]
    ·rw [List.getElem?_set_ne e] at hi'
     exact hp i c' hi'
   obtain ⟨cells',q1,q2⟩:=setParts_fill ps vals hnew hp' hs hi hv2
   refine ⟨cells',?_,q2⟩
   rw [←q1]
   simp only [Instr.fill,hpl]
   have hfit:¬ (v.cells.size≠c.width || decide (AV.widths (items.take j)+v.cells.size > cells.toArray.size))=true:=by
    simp only [Bool.or_eq_true,decide_eq_true_eq,not_or]
    refine ⟨by simp [hsz,hw],?_⟩
    have hsize:cells.toArray.size=us.length+(v0.cells.size+ws.length):=by rw [k1]; simp
    omega
   simp only [ne_eq,Bool.or_eq_true,decide_eq_true_eq] at hfit ⊢
   rw [if_neg (by simpa using hfit)]
   congr 1
   rw [k1,←k2]
   have hz:∀ (init:Array Value),v.cells.zipIdx.foldl (fun cs (x:Value × Nat)=>cs.setIfInBounds (us.length+x.2) x.1) init=(v.cells.toList.zipIdx 0).foldl (fun cs (x:Value × Nat)=>cs.setIfInBounds (us.length+x.2) x.1) init:=by
    intro init
    rw [←Array.foldl_toList,Array.toList_zipIdx]
   rw [hz]
   exact foldSet us.length v.cells.toList us v0.cells.toList ws 0 (by simp) (by rw [Array.length_toList,Array.length_toList,k3,hw,hsz])
theorem laidOut_places:∀ (fs:List Field) (cs:List AV) (off:Nat),laidOut P off fs cs=true→
  ∃ places,fs.mapM (fun f=>(P.info? f.type).map fun i=>(f.offset,i.size))=some places∧∀ i c,cs[i]? = some c→places[i]? = some (off+AV.widths (cs.take i),c.width)
 | [],[],off,h=>⟨[],rfl,fun i c hi=>by simp at hi⟩
 | [],_::_,off,h=>by simp [laidOut] at h
 | _::_,[],off,h=>by simp [laidOut] at h
 | f::fs,c::cs,off,h=>by
  simp only [laidOut,Bool.and_eq_true] at h
  obtain ⟨h1,h2,h3⟩:=h
  obtain ⟨ht,hs⟩:=szIs_ok h2
  obtain ⟨i,u,hi,hu⟩:=typOk_info ht
  have hs' : i.size=c.width:=by simpa [sizeT,hi] using hs
  obtain ⟨places,hp,hq⟩:=laidOut_places fs cs (off+c.width) h3
  refine ⟨(f.offset,i.size)::places,by simp [List.mapM_cons,hi,hp],?_⟩
  intro j c' hj
  cases j with
  | zero=>
   cases hj
   rw [Nat.eq_of_beq_eq_true h1,hs']
   simp [AV.widths]
  | succ j=>
   simp only [List.getElem?_cons_succ] at hj ⊢
   rw [hq j c' hj]
   simp [AV.widths,Nat.add_assoc]
theorem setInts_fill {k:IntKind}:∀ (ps:List (Nat × AV)) (vals:List (Nat × Value)) {xs xs' : List Int},setInts k xs ps=some xs'→vals.map (·.1)=ps.map (·.1)→CVt w ok θ (ps.map (·.2)) (vals.map (·.2))→
  Instr.fill (fun i=>some (i * 1,1)) (ints k xs).toArray vals=some (ints k xs').toArray∧xs'.length=xs.length
 | [],vals,xs,xs',hs,hi,hv=>by
  have:vals=[]:=by simpa using hi
  subst this
  cases hs
  exact ⟨rfl,rfl⟩
 | (i,x)::ps,vals,xs,xs',hs,hi,hv=>by
  cases vals with
  | nil=>simp at hi
  | cons q vals=>
   obtain ⟨j,v⟩:=q
   simp only [List.map_cons,List.cons.injEq] at hi
   obtain ⟨rfl,hi⟩:=hi
   obtain ⟨v',rest,e1,hv1,hv2⟩:=hv
   simp only [List.map_cons,List.cons.injEq] at e1
   obtain ⟨rfl,rfl⟩:=e1
   cases x <;> first | (simp [setInts] at hs; done) | skip
   rename_i k' m
   simp only [setInts] at hs
   split at hs <;> first | (cases hs; done) | skip
   rename_i hb
   simp only [Bool.and_eq_true,beq_iff_eq] at hb
   obtain ⟨hk,hlt⟩:=hb
   subst hk
   have hlt:=Nat.le_of_ble_eq_true hlt
   have hv' : v=.int k m:=hv1
   subst hv'
   obtain ⟨q1,q2⟩:=setInts_fill ps vals hs hi hv2
   refine ⟨?_,by simpa using q2⟩
   rw [←q1]
   simp only [Instr.fill,Value.cells,List.size_toArray,List.length_cons,List.length_nil,Nat.mul_one,ints_length,Nat.zero_add,ne_eq,not_true_eq_false,decide_false,Bool.false_or,decide_eq_true_eq]
   rw [if_neg (by omega)]
   congr 1
   rw [ints_set]
   simp
theorem opBuild_ok {t:TypeId} {parts:Array (Nat × Operand)} {us:List AV} (ho:o.op=.build t parts) (h:Rel C S θ a w) (hu:CVt w (okOf C w S θ) θ us ((parts.toList.map (·.2)).map a.eval))
  (hh:(opBuild P o t (parts.toList.map (·.1)) us).exe n S=some S'):Does P C S' o a w:=by
 have hlen:us.length=parts.toList.length:=by
  have key:∀ (us:List AV) (vs:List Value),CVt w (okOf C w S θ) θ us vs→us.length=vs.length:=by
   intro us
   induction us with
   | nil=>intro vs h; simp only [CVt] at h; subst h; rfl
   | cons x us ih=>intro vs h; obtain ⟨v,rest,rfl,_,h2⟩:=h; simp [ih rest h2]
  simpa using key _ _ hu
 have hzip1:((parts.toList.map (·.1)).zip us).map (·.1)=parts.toList.map (·.1):=by
  rw [List.map_fst_zip]; simp [hlen]
 have hzip2:((parts.toList.map (·.1)).zip us).map (·.2)=us:=by
  rw [List.map_snd_zip]; simp [hlen]
 have fin:∀ (cells:Array Value) (r:AV),P.built t (parts.toList.map fun x=>(x.1,a.eval x.2))=some cells→CV w (okOf C w S θ) θ r (.agg cells)→(put o r).exe n S=some S'→Does P C S' o a w:=by
  intro cells r hb hr hk
  refine Does.value (v:=.agg cells) ?_ (put_ok' hk h hr)
  have:=run_build (P:=P) w t (parts.map fun x=>(x.1,a.eval x.2)) cells (by simpa using hb)
  simp only [execOp,ho,Sem.run_bind]
  have e:(parts.map fun (x:Nat × Operand)=>match x with | (i,x)=>(i,a.eval x))=parts.map fun x=>(x.1,a.eval x.2):=rfl
  rw [e,this]
  rfl
 have hvi:(parts.toList.map fun x=>(x.1,a.eval x.2)).map (·.1)=((parts.toList.map (·.1)).zip us).map (·.1):=by rw [hzip1]; simp
 have hvc:CVt w (okOf C w S θ) θ (((parts.toList.map (·.1)).zip us).map (·.2)) ((parts.toList.map fun x=>(x.1,a.eval x.2)).map (·.2)):=by
  rw [hzip2]
  rw [List.map_map] at hu ⊢
  exact hu
 unfold opBuild at hh
 split at hh <;> first | exact (exe_fail hh).elim | skip
 rename_i it z hit hz
 split at hh <;> first | exact (exe_fail hh).elim | skip
 rename_i vz hvz
 obtain ⟨hc,hh1⟩:=exe_must hh
 simp only [Bool.and_eq_true] at hc
 have hcz:=cvB_ok (w:=w) (ok:=okOf C w S θ) (θ:=θ) z vz hc.1
 split at hh1 <;> first | exact (exe_fail hh1).elim | skip
 ·rename_i fs cs hfs
  obtain ⟨hl,hh2⟩:=exe_must hh1
  split at hh2 <;> first | exact (exe_fail hh2).elim | skip
  rename_i cs' hcs'
  obtain ⟨places,hp,hq⟩:=laidOut_places fs.toList cs 0 hl
  obtain ⟨vs,rfl,hcc⟩:=hcz
  obtain ⟨cells',q1,q2⟩:=setParts_fill (place:=(places.toArray[·]?)) _ _ hcc (fun i c hi=>by simpa using hq i c hi) hcs' hvi hvc
  refine fin cells' (.agg cs') ?_ ⟨cells',rfl,q2⟩ hh2
  simp only [Program.built,hit,hfs,hvz,hp]
  simpa [Value.cells] using q1
 ·rename_i m e k n' xs hfs
  obtain ⟨hl,hh2⟩:=exe_must hh1
  simp only [Bool.and_eq_true] at hl
  obtain ⟨he,hsz⟩:=szIs_ok hl.1
  obtain ⟨ie,ue,hie,hue⟩:=typOk_info he
  have hs1:ie.size=1:=by simpa [sizeT,hie] using hsz
  split at hh2 <;> first | exact (exe_fail hh2).elim | skip
  rename_i xs' hxs'
  obtain ⟨hxl,rfl⟩:=hcz
  obtain ⟨q1,q2⟩:=setInts_fill (w:=w) (ok:=okOf C w S θ) (θ:=θ) _ _ hxs' hvi hvc
  refine fin (ints k xs').toArray (.arr k n' xs') ?_ ⟨by omega,rfl⟩ hh2
  simp only [Program.built,hit,hfs,hvz,hie,hs1]
  simpa [Value.cells] using q1
 ·rename_i m e cs hfs
  obtain ⟨hl,hh2⟩:=exe_must hh1
  split at hh2 <;> first | exact (exe_fail hh2).elim | skip
  rename_i cs' hcs'
  obtain ⟨vs,rfl,hcc⟩:=hcz
  simp only [Bool.and_eq_true] at hl
  obtain ⟨hl,hne⟩:=hl
  cases hcs:cs with
  | nil=>
   rw [hcs] at hne
   cases hne
  | cons c0 cr=>
   have hw0:∀ c∈cs,szIs P e c.width=true:=by simpa using hl
   have hww:∀ c∈cs,c.width=sizeT P e:=fun c hc'=>(szIs_ok (hw0 c hc')).2.symm
   have he:typOk P e=true:=(szIs_ok (hw0 c0 (by rw [hcs]; simp))).1
   obtain ⟨ie,ue,hie,hue⟩:=typOk_info he
   have hs1:sizeT P e=ie.size:=by simp [sizeT,hie]
   have hwid:∀ (l:List AV),(∀ c∈l,c.width=ie.size)→AV.widths l=l.length * ie.size:=by
    intro l
    induction l with
    | nil=>intro _; simp [AV.widths]
    | cons x l ih=>
     intro hx
     simp only [AV.widths,ih (fun c hc=>hx c (by simp [hc])),hx x (by simp),List.length_cons,Nat.add_mul,Nat.one_mul]
     omega
   obtain ⟨cells',q1,q2⟩:=setParts_fill (place:=fun i=>some (i * ie.size,ie.size)) _ _ hcc (fun i c hi=>by
    have hm:=List.mem_of_getElem? hi
    have hlt:=(List.getElem?_eq_some_iff.1 hi).1
    rw [hww c hm,hs1,hwid _ (fun c hc=>by rw [hww c (List.mem_of_mem_take hc),hs1]),List.length_take,Nat.min_eq_left (by omega)]) hcs' hvi hvc
   refine fin cells' (.agg cs') ?_ ⟨cells',rfl,q2⟩ hh2
   simp only [Program.built,hit,hfs,hvz,hie]
   simpa [Value.cells] using q1
end
end Go.Am
end
section
set_option linter.unusedVariables false
set_option linter.unusedSimpArgs false
namespace Go.Am
open Go.RowKit
section
variable {C:Ctx} {S S' : St} {θ θ' : Nm→Option Value} {a:Act} {w w' : World} {n:Rp} {ok:Nat→Prop} {P:Program} {o:Oper}
theorem CVt_length:∀ {us:List AV} {vs:List Value},CVt w ok θ us vs→us.length=vs.length
 | [],vs,h=>by simp only [CVt] at h; subst h; rfl
 | x::us,vs,h=>by obtain ⟨v,rest,rfl,_,h2⟩:=h; simp [CVt_length h2]
theorem allInts_ok {k:IntKind}:∀ {us:List AV} {vs:List Value} {xs:List Int},allInts k us=some xs→CVt w ok θ us vs→vs=ints k xs
 | [],vs,xs,h,hv=>by cases h; simp only [CVt] at hv; subst hv; rfl
 | u::us,vs,xs,h,hv=>by
  cases u <;> first | (simp [allInts] at h; done) | skip
  rename_i k' m
  simp only [allInts] at h
  split at h <;> first | (cases h; done) | skip
  rename_i hk
  have:=eq_of_beq hk
  subst this
  obtain ⟨v,rest,rfl,h1,h2⟩:=hv
  cases hr:allInts k us with
  | none=>rw [hr] at h; cases h
  | some ys=>
   rw [hr] at h
   cases h
   have hv:v=.int k m:=h1
   rw [hv,allInts_ok hr h2]
   rfl
theorem fill_all {size:Nat}:∀ (vs:List Value) (j:Nat) (us old:List Value),(∀ v∈vs,v.cells.size=size)→us.length=j * size→old.length=vs.length * size→
  Instr.fill (fun i=>some (i * size,size)) (us++old).toArray ((List.range' j vs.length).zip vs)=some (us++vs.flatMap (·.cells.toList)).toArray
 | [],j,us,old,h1,h2,h3=>by
  have:old=[]:=List.eq_nil_of_length_eq_zero (by simpa using h3)
  subst this
  simp [Instr.fill]
 | v::vs,j,us,old,h1,h2,h3=>by
  have hv:=h1 v (by simp)
  have hlo:size≤old.length:=by rw [h3,List.length_cons,Nat.add_mul]; omega
  simp only [List.length_cons,List.range'_succ,List.zip_cons_cons,Instr.fill]
  have hfit:¬ (v.cells.size≠size || decide (j * size+v.cells.size >(us++old).toArray.size))=true:=by
   simp only [Bool.or_eq_true,decide_eq_true_eq,not_or]
   refine ⟨by simp [hv],?_⟩
   simp only [List.size_toArray,List.length_append]
   omega
  rw [if_neg (by simpa using hfit)]
  have hz:∀ (init:Array Value),v.cells.zipIdx.foldl (fun cs (x:Value × Nat)=>cs.setIfInBounds (j * size+x.2) x.1) init=(v.cells.toList.zipIdx 0).foldl (fun cs (x:Value × Nat)=>cs.setIfInBounds (j * size+x.2) x.1) init:=by
   intro init
   rw [←Array.foldl_toList,Array.toList_zipIdx]
  have e:(us++old).toArray=(us++(old.take size++old.drop size)).toArray:=by rw [List.take_append_drop]
  have e2:v.cells.zipIdx.foldl (fun cs (x:Value × Nat)=>match x with | (c,i)=>cs.setIfInBounds (j * size+i) c) (us++old).toArray=((us++v.cells.toList)++old.drop size).toArray:=by
   have:=hz (us++old).toArray
   rw [e,foldSet (j * size) v.cells.toList us (old.take size) (old.drop size) 0 (by simp [h2]) (by rw [List.length_take,Nat.min_eq_left hlo,Array.length_toList,hv])] at this
   rw [←e] at this
   rw [List.append_assoc]
   exact this
  rw [e2]
  rw [fill_all vs (j+1) (us++v.cells.toList) (old.drop size) (fun x hx=>h1 x (by simp [hx])) (by rw [List.length_append,h2,Array.length_toList,hv,Nat.add_mul]; omega) (by rw [List.length_drop,h3,List.length_cons,Nat.add_mul]; omega)]
  simp
theorem run_buildSlice {t e:TypeId} {i:TypeInfo} {z:Value} {vs:List Value} {size:Nat} (ht:P.underlying t=some (.slice e)) (hi:P.info? e=some i) (hz:i.zero=some z) (hs:i.size=size)
  (hle:vs.length * size≤16777216) (hv:∀ v∈vs,v.cells.size=size) :
  (Instr.buildSlice t vs.length ((List.range vs.length).zip vs).toArray).run P w =
   .ok (.slice (some ⟨w.heap.size,0,none⟩) vs.length vs.length) (w.alloc (.cells (vs.flatMap (·.cells.toList)).toArray e)):=by
 subst hs
 have hf:∀ (init:Array Value),init.size=vs.length * i.size→Instr.fill (fun j=>some (j * i.size,i.size)) init ((List.range vs.length).zip vs)=some (vs.flatMap (·.cells.toList)).toArray:=by
  intro init hin
  have:=fill_all vs 0 [] init.toList hv (by simp) (by simpa using hin)
  simpa [List.range_eq_range'] using this
 have hno:¬ vs.length * i.size > 2 ^ 24:=by omega
 by_cases h0:vs.length * i.size=0
 ·simp only [Instr.buildSlice,Sem.run_bind,run_underlying ht,Result.andThen_ok,sizeOf,typeInfo,run_program,hi,Sem.run_pure,hno,if_false]
  simp only [h0,if_true,Sem.run_bind,Sem.run_pure,Result.andThen_ok]
  split
  ·rename_i hc
   rw [hf _ (by simp [h0])] at hc
   cases hc
   rfl
  ·rename_i hc
   rw [hf _ (by simp [h0])] at hc
   exact (hc _ rfl).elim
 ·simp only [Instr.buildSlice,Sem.run_bind,run_underlying ht,Result.andThen_ok,sizeOf,typeInfo,run_program,hi,Sem.run_pure,hno,if_false,h0,zeroValue,hz]
  rw [hf _ (by simp)]
  rfl
theorem ints_flatMap (k:IntKind) (xs:List Int):(ints k xs).flatMap (·.cells.toList)=ints k xs:=by
 induction xs with
 | nil=>rfl
 | cons x xs ih=>simp only [ints,List.map_cons,List.flatMap_cons] at ih ⊢; rw [ih]; rfl
theorem flatMap_len {vs:List Value} {size:Nat} (h:∀ v∈vs,v.cells.size=size):(vs.flatMap (·.cells.toList)).length=vs.length * size:=by
 induction vs with
 | nil=>simp
 | cons v vs ih=>
  rw [List.flatMap_cons,List.length_append,ih (fun x hx=>h x (by simp [hx])),Array.length_toList,h v (by simp),List.length_cons,Nat.add_mul]
  omega
theorem CVs_flatMap {s:Nat}:∀ {us:List AV} {vs:List Value},CVt w ok θ us vs→(∀ u∈us,u.stor=true)→CVs w ok θ us (vs.flatMap (·.cells.toList))
 | [],vs,h,_=>by simp only [CVt] at h; subst h; rfl
 | u::us,vs,h,hs=>by
  obtain ⟨v,rest,rfl,h1,h2⟩:=h
  exact ⟨v,_,by rw [List.flatMap_cons],CV_size (hs u (by simp)) h1,h1,CVs_flatMap (s:=s) h2 (fun x hx=>hs x (by simp [hx]))⟩
theorem zip_map_parts (parts:List (Nat × Operand)) (f:Operand→Value):parts.map (fun x=>(x.1,f x.2))=(parts.map (·.1)).zip ((parts.map (·.2)).map f):=by
 induction parts with
 | nil=>rfl
 | cons x r ih=>simp [ih]
theorem opBuildSlice_ok {t:TypeId} {len:Nat} {parts:Array (Nat × Operand)} {us:List AV} (ho:o.op=.buildSlice t len parts) (h:Rel C S θ a w)
  (hu:CVt w (okOf C w S θ) θ us ((parts.toList.map (·.2)).map a.eval)) (hh:(opBuildSlice P C.E o t len (parts.toList.map (·.1)) us).exe n S=some S'):Does P C S' o a w:=by
 unfold opBuildSlice at hh
 split at hh <;> first | exact (exe_fail hh).elim | skip
 rename_i e he
 have ht:=elemT_ok he
 obtain ⟨hm,hh1⟩:=exe_must hh
 simp only [Bool.and_eq_true,beq_iff_eq] at hm
 obtain ⟨hidx,hle⟩:=hm
 have hle:=Nat.le_of_ble_eq_true hle
 have hvl:((parts.toList.map (·.2)).map a.eval).length=len:=by
  have:=congrArg List.length hidx
  simpa using this
 have run:∀ (i:TypeInfo) (z:Value) (size:Nat),P.info? e=some i→i.zero=some z→i.size=size→(∀ v∈(parts.toList.map (·.2)).map a.eval,v.cells.size=size)→
   (execOp a.eval o).run P w=.ok (.value (.slice (some ⟨w.heap.size,0,none⟩) len len)) (w.alloc (.cells (((parts.toList.map (·.2)).map a.eval).flatMap (·.cells.toList)).toArray e)):=by
  intro i z size hi hz hs hv
  have hsz:sizeT P e=size:=by simp [sizeT,hi,hs]
  have:=run_buildSlice (P:=P) (w:=w) ht hi hz hs (vs:=(parts.toList.map (·.2)).map a.eval) (by rw [hvl,←hsz]; exact hle) hv
  rw [hvl,←hidx,←zip_map_parts] at this
  simp only [execOp,ho,Sem.run_bind]
  have e:(parts.map fun (x:Nat × Operand)=>match x with | (i,x)=>(i,a.eval x))=(parts.toList.map fun x=>(x.1,a.eval x.2)).toArray:=by apply Array.ext'; simp
  rw [e,this]
  rfl
 split at hh1 <;> first | exact (exe_fail hh1).elim | skip
 ·rename_i k i hk hi
  split at hh1 <;> first | exact (exe_fail hh1).elim | skip
  rename_i xs z hxs hz
  obtain ⟨hm,hh2⟩:=exe_must hh1
  simp only [Bool.and_eq_true] at hm
  have hs1:=Nat.eq_of_beq_eq_true hm.1
  have hvs:=allInts_ok hxs hu
  have hxl:xs.length=len:=by rw [←hvl,hvs,ints_length]
  have hone:∀ v∈(parts.toList.map (·.2)).map a.eval,v.cells.size=1:=by
   rw [hvs]
   intro v hv
   simp only [ints,List.mem_map] at hv
   obtain ⟨_,_,rfl⟩:=hv
   rfl
  have hfl:((parts.toList.map (·.2)).map a.eval).flatMap (·.cells.toList)=ints k xs:=by
   rw [hvs]
   exact ints_flatMap k xs
  have hr:=run i z 1 hi hz hs1 hone
  rw [hfl] at hr
  have hlm:len≤maxLen:=by
   have:sizeT P e=1:=by simp [sizeT,hi,hs1]
   rw [this] at hle
   unfold maxLen
   omega
  obtain ⟨θ',hrel⟩:=newOb_ok (v:=.slice (some ⟨w.heap.size,0,none⟩) len len) h hh2 (Below.new w (.cells (ints k xs).toArray e)) (by rintro g hg; cases hg; exact Nat.le_refl _) (base0_row _ _ _)
   (by
    intro d ok' θ' hk hd
    refine ⟨_,hd,fun _=>⟨by simp [ints],.inr ⟨w.heap.size,len,_,(0,0),by rw [hxl],.inl h.size,heap_alloc_new w _,free00 _,by omega,hlm,by simp [ints,hxl],?_⟩⟩,fun h=>by cases h⟩
    simp [List.take_of_length_le,ints])
   (by intro d ok' θ' hd; exact ⟨hd,_,_,_,rfl⟩)
  exact Does.value hr hrel
 ·rename_i i hk hi
  split at hh1 <;> first | exact (exe_fail hh1).elim | skip
  rename_i s z hs hz
  obtain ⟨hm,hh2⟩:=exe_must hh1
  simp only [Bool.and_eq_true] at hm
  obtain ⟨⟨hs1,hs2⟩,hs3,hs4⟩:=hm
  have hs1:=Nat.eq_of_beq_eq_true hs1
  have hs2:=Nat.le_of_ble_eq_true hs2
  have hall:∀ u∈us,u.width=s.width∧u.stor=true:=by
   intro u hu
   have:=List.all_eq_true.1 hs4 u hu
   simp only [Bool.and_eq_true] at this
   exact ⟨Nat.eq_of_beq_eq_true this.1,this.2⟩
  have hone:∀ v∈(parts.toList.map (·.2)).map a.eval,v.cells.size=s.width:=by
   clear run hvl
   generalize (parts.toList.map (·.2)).map a.eval=vs at hu
   clear hh hh1 hh2 hs4
   induction us generalizing vs with
   | nil=>simp only [CVt] at hu; subst hu; intro v hv; cases hv
   | cons u us ih=>
    obtain ⟨v,rest,rfl,h1,h2⟩:=hu
    intro x hx
    rcases List.mem_cons.1 hx with rfl | hx
    ·rw [CV_size (hall u (by simp)).2 h1,(hall u (by simp)).1]
    ·exact ih (fun u hu=>hall u (by simp [hu])) rest h2 x hx
  have hr:=run i z s.width hi hz hs1 hone
  have hul:us.length=len:=by rw [CVt_length hu,hvl]
  have hfl:=flatMap_len hone
  rw [hvl] at hfl
  have hwid:AV.widths us=us.length * s.width:=by
   clear hh hh1 hh2 hs4 hu run hul
   induction us with
   | nil=>simp [AV.widths]
   | cons u us ih=>
    simp only [AV.widths,ih (fun u hu=>hall u (by simp [hu])),(hall u (by simp)).1,List.length_cons,Nat.add_mul,Nat.one_mul]
    omega
  have hlm:len≤maxLen:=by
   have:sizeT P e=s.width:=by simp [sizeT,hi,hs1]
   rw [this] at hle
   have:len * 1≤len * s.width:=Nat.mul_le_mul_left _ hs2
   unfold maxLen
   omega
  obtain ⟨θ',hrel⟩:=newOb_ok (v:=.slice (some ⟨w.heap.size,0,none⟩) len len) h hh2 (Below.new w (.cells (((parts.toList.map (·.2)).map a.eval).flatMap (·.cells.toList)).toArray e)) (by rintro g hg; cases hg; exact Nat.le_refl _) (base0_row _ _ _)
   (by
    intro d ok' θ' hk hd
    refine ⟨_,_,hd,CVs_mono hk _ _ (CVs_flatMap (s:=0) hu (fun u hu=>(hall u hu).2)),hwid,by rw [hul]; exact hfl,.inr ⟨w.heap.size,len,_,(0,0),by rw [hul],.inl h.size,heap_alloc_new w _,free00 _,by omega,hlm,?_,?_⟩⟩
    ·rw [List.size_toArray,hfl]
    ·rw [List.toList_toArray,List.take_of_length_le (by rw [hfl,hul]; exact Nat.le_refl _)])
   (by intro d ok' θ' hd; exact ⟨hd,_,_,_,rfl⟩)
  exact Does.value hr hrel
end
end Go.Am
end
section
set_option linter.unusedVariables false
set_option linter.unusedSimpArgs false
namespace Go.Am
open Go.RowKit
section
variable {C:Ctx} {S S' : St} {θ θ' : Nm→Option Value} {a:Act} {w w' : World} {n:Rp} {ok:Nat→Prop} {P:Program} {o:Oper}
theorem madeCells_ints (k:IntKind) (m:Nat):(madeCells (#[.int k 0]:Array Value) m).toList=ints k (List.replicate m 0):=by
 apply List.ext_getElem?
 intro i
 simp only [madeCells,Array.toList_map,Array.toList_range,ints,List.getElem?_map,List.getElem?_range,List.getElem?_replicate]
 by_cases h:i<m
 ·simp [h,Nat.mod_one]
 ·simp [h]
theorem opMake_ok {t:TypeId} {l c:Operand} {ul uc:AV} (ho:o.op=.makeSlice t l c) (h:Rel C S θ a w) (hl:CV w (okOf C w S θ) θ ul (a.eval l)) (hc:CV w (okOf C w S θ) θ uc (a.eval c))
  (hh:(opMake P o t ul uc).exe n S=some S'):Does P C S' o a w:=by
 unfold opMake at hh
 split at hh <;> first | exact (exe_fail hh).elim | skip
 rename_i k1 p k2 q e he
 have hl' : a.eval l=.int k1 p:=hl
 have hc' : a.eval c=.int k2 q:=hc
 have ht:=elemT_ok he
 split at hh <;> first | exact (exe_fail hh).elim | skip
 rename_i k i hk hi
 split at hh <;> first | exact (exe_fail hh).elim | skip
 rename_i z hz
 obtain ⟨hm,hh1⟩:=exe_must hh
 obtain ⟨hb,hh2⟩:=exe_chk hh1
 simp only [Bool.and_eq_true,beq_iff_eq,decide_eq_true_eq] at hm hb
 obtain ⟨hz0,hs1,hs2⟩:=hm
 obtain ⟨hb0,rfl,hb2⟩:=hb
 have hs1:=Nat.eq_of_beq_eq_true hs1
 have hs2:=Nat.le_of_ble_eq_true hs2
 have hzv:z=.int k 0:=cvB_ok (w:=w) (ok:=okOf C w S θ) (θ:=θ) (.int k 0) z hz0
 subst hzv
 have hp:p≤140737488355328:=by
  have:p * 1≤p * (i.bytes:Int):=Int.mul_le_mul_of_nonneg_left (by omega) hb0
  omega
 have hrun:=run_make (P:=P) w t e i _ ht hi hz k1 k2 p p hb0 (Int.le_refl _) (by rw [Int.mul_comm]; omega) (by omega)
 obtain ⟨θ',hrel⟩:=newOb_ok (v:=.slice (some ⟨w.heap.size,0,none⟩) p.toNat p.toNat) h hh2 (Below.new w (.cells (madeCells (Value.int k 0).cells (p.toNat * i.size)) e)) (by rintro g hg; cases hg; exact Nat.le_refl _) (base0_row _ _ _)
  (by
   intro d ok' θ' hk hd
   refine ⟨_,hd,fun _=>⟨by simp [ints],.inr ⟨w.heap.size,p.toNat,_,(0,0),by simp,.inl h.size,heap_alloc_new w _,free00 _,by simp,by unfold maxLen; omega,?_,?_⟩⟩,fun h=>by cases h⟩
   ·rw [size_madeCells,hs1]
   ·rw [hs1,Nat.mul_one,Nat.mul_one]
    have:=madeCells_ints k p.toNat
    rw [show (Value.int k 0).cells = #[Value.int k 0] from rfl,this,List.take_of_length_le (by simp [ints])])
  (by intro d ok' θ' hd; exact ⟨hd,_,_,_,rfl⟩)
 refine Does.value ?_ hrel
 simp only [execOp,ho,hl',hc',Sem.run_bind,hrun,Result.andThen_ok,Sem.run_pure]
theorem run_append_row {M:Nat→Prop} {t ty e:TypeId} {i:TypeInfo} {z:Value} {size bytes:Nat} (ht:P.underlying t=some (.slice e)) (hi:P.info? e=some i) (hz:i.zero=some z)
  (hsize:i.size=size) (hby:i.bytes=bytes) (hzs:z.cells.size=size) (hsz:0<size)
  {v x:Value} {m k:Nat} {xs news:List Value} (hown:OwnRow w M e size v m xs) (hB:M w.heap.size)
  (hx1:∀ W,(Builtin.lenOf x).run P W=.ok k W) (hx2:∀ W:World,W.heap=w.heap→(Builtin.firstCells size k x).run P W=.ok news.toArray W) (hl:news.length=k * size) (h1:∀ u∈news,u.oneCell' = true)
  (h63:m+k≤maxLen) (hbytes:(m+k) * bytes≤140737488355328) :
  ∃ v' w',(Builtin.append_ #[t,t] ty #[v,x]).run P w=.ok v' w'∧OwnRow w' M e size v' (m+k) (xs++news)∧(∀ b,b<w.heap.size→blk v≠some b→w'.heap[b]? = w.heap[b]?)∧
   w.heap.size≤w'.heap.size∧w'.os=w.os∧w'.tape=w.tape∧Out w w'∧(∀ b,blk v' = some b→blk v=some b∨w.heap.size≤b)∧base0 v'∧∃ A c,v' = .slice A (m+k) c:=by
 subst hsize
 subst hby
 have hsmall:m+k≤9223372036854775807:=by simp only [maxLen] at h63; omega
 have hlen:(xs++news).length=(m+k) * i.size:=by rw [List.length_append,hown.1,hl,Nat.add_mul]
 have grown:∀ (old:Nat),old<m+k→
   OwnRow (w.drew.alloc (.cells (xs.toArray++news.toArray++Builtin.zeroCells z.cells (grownCap w (m+k) old e - (m+k))) e)) M e i.size
    (.slice (some ⟨w.heap.size,0,none⟩) (m+k) (grownCap w (m+k) old e)) (m+k) (xs++news):=by
  intro old ho
  have hge:=grownCap_ge w (m+k) old e
  have hcm:=grownCap_le_maxLen w (m+k) old e h63
  refine ⟨hlen,.inr ⟨w.heap.size,_,_,(0,0),rfl,hB,heap_alloc_new w.drew _,free00 _,hge,hcm,?_,?_⟩⟩
  ·simp only [Array.size_append,List.size_toArray,size_zeroCells,hzs,hown.1,hl,←Nat.add_mul]
   congr 1
   omega
  ·simp only [Array.toList_append,List.append_assoc]
   rw [←List.append_assoc,←hlen]
   exact List.take_left
 have grow:∀ (base:Option Addr) (cap:Nat),v=.slice base m cap→cap<m+k→(∀ W:World,W.heap=w.heap→(Builtin.firstCells i.size m v).run P W=.ok xs.toArray W)→
   (Builtin.append_ #[t,t] ty #[v,x]).run P w=.ok (.slice (some ⟨w.heap.size,0,none⟩) (m+k) (grownCap w (m+k) cap e))
    (w.drew.alloc (.cells (xs.toArray++news.toArray++Builtin.zeroCells z.cells (grownCap w (m+k) cap e - (m+k))) e)):=by
  intro base cap hv hlt hold
  have hno:¬ (m+k≤cap):=by omega
  have h63' : ¬ ((m+k:Nat):Int) > IntKind.i64.max:=by
   have:IntKind.i64.max=9223372036854775807:=by decide
   rw [this]
   omega
  have hfit:¬ Builtin.nextslicecap (m+k) cap * i.bytes > 2 ^ 48:=by
   have:=growslice_fits hlt hbytes
   omega
  subst hv
  unfold Builtin.append_
  simp only [List.getElem?_toArray,List.getElem?_cons_zero,List.getElem?_cons_succ,Sem.run_bind,run_underlying ht,Result.andThen_ok,sizeOf,typeInfo,run_program,hi,Sem.run_pure]
  simp only [Result.andThen_ok,Bool.false_eq_true,if_false,Sem.run_bind,hx1,hno,h63',false_and,run_underlying ht,typeInfo,run_program,hi,Sem.run_pure,hfit]
  simp only [run_choose,Question.forced,Bool.false_eq_true,if_false,Result.andThen_ok,run_askRoom,Sem.run_bind,Bool.not_false,if_true]
  have hW:({ w with drawn:=w.drawn+1 }:World).heap=w.heap:=rfl
  rw [hold _ hW]
  simp only [Result.andThen_ok]
  rw [hx2 _ hW]
  simp only [Result.andThen_ok,zeroValue,Sem.run_bind,typeInfo,run_program,hi,hz,Sem.run_pure]
  rfl
 rcases hown.2 with ⟨rfl,rfl⟩ | ⟨g,cap,cur,fr,rfl,hbg,hg,hfree,hnc,hcm,hcs,htake⟩
 ·have hx:xs=[]:=List.eq_nil_of_length_eq_zero (by simpa using hown.1)
  subst hx
  by_cases hm:k=0
  ·subst hm
   have hn:news=[]:=List.eq_nil_of_length_eq_zero (by simpa using hl)
   subst hn
   refine ⟨.slice none 0 0,w,?_,⟨by simp,.inl ⟨rfl,rfl⟩⟩,fun _ _ _=>rfl,Nat.le_refl _,rfl,rfl,⟨rfl,.inr trivial⟩,(by intro b hb; cases hb),base0_nil,none,0,rfl⟩
   unfold Builtin.append_
   simp only [List.getElem?_toArray,List.getElem?_cons_zero,List.getElem?_cons_succ,Sem.run_bind,run_underlying ht,Result.andThen_ok,sizeOf,typeInfo,run_program,hi,Sem.run_pure]
   simp only [Result.andThen_ok,Bool.false_eq_true,if_false,Sem.run_bind,hx1,Nat.add_zero,Nat.le_refl,if_true,Bool.not_false]
   rw [hx2 _ rfl]
   rfl
  ·have hr:=grow none 0 rfl (by omega) (fun W _=>by simp [Builtin.firstCells])
   exact ⟨_,_,hr,grown 0 (by omega),(fun b hb _=>heap_alloc_old w.drew _ b hb),by simp,rfl,rfl,⟨rfl,.inr trivial⟩,(by intro b hb; cases hb; exact .inr (Nat.le_refl _)),base0_row _ _ _,_,_,rfl⟩
 ·by_cases hroom:m+k≤cap
  ·have hfit:m * i.size+k * i.size≤cur.size:=by rw [hcs,←Nat.add_mul]; exact Nat.mul_le_mul_right _ hroom
   have hcl:cur.toList.length=cap * i.size:=by rw [Array.length_toList,hcs]
   have hsp:cur.toList=xs++((cur.toList.drop (m * i.size)).take (k * i.size)++cur.toList.drop (m * i.size+k * i.size)):=by
    conv=>lhs; rw [←List.take_append_drop (m * i.size) cur.toList,htake,←List.take_append_drop (k * i.size) (cur.toList.drop (m * i.size)),List.drop_drop]
   have hheap:w.heap[g]? = some (.cells (xs++((cur.toList.drop (m * i.size)).take (k * i.size)++cur.toList.drop (m * i.size+k * i.size))).toArray e fr):=by rw [←hsp,toArray_toList']; exact hg
   obtain ⟨w',q1,q2,q3,q4,q5,q6,q7⟩:=storeCells_ok P news xs (cur.toList.drop (m * i.size+k * i.size)) ((cur.toList.drop (m * i.size)).take (k * i.size)) 0 (m * i.size) w hheap
    (by rw [List.length_take,List.length_drop,hl,Nat.min_eq_left (by rw [Array.length_toList]; omega)]) (by rw [hown.1]; rfl) (by rw [←hsp,toArray_toList']; exact hfree) h1
   refine ⟨.slice (some ⟨g,0,none⟩) (m+k) cap,w',?_,⟨hlen,.inr ⟨g,cap,_,fr,rfl,hbg,q2,hfree.same ?_,hroom,hcm,?_,?_⟩⟩,fun b _ hb=>q3 b (fun e=>hb (by rw [e]; rfl)),by rw [q4]; exact Nat.le_refl _,q5,q6,q7,(by intro b hb; exact .inl hb),base0_row _ _ _,_,_,rfl⟩
   ·unfold Builtin.append_
    simp only [List.getElem?_toArray,List.getElem?_cons_zero,List.getElem?_cons_succ,Sem.run_bind,run_underlying ht,Result.andThen_ok,sizeOf,typeInfo,run_program,hi,Sem.run_pure]
    simp only [Result.andThen_ok,Bool.false_eq_true,if_false,Sem.run_bind,hx1,hroom,if_true,Bool.not_false]
    rw [hx2 _ rfl]
    simp only [Result.andThen_ok,add_lit,Nat.zero_add,q1,Sem.run_pure,Sem.run_bind]
   ·rw [List.size_toArray,←Array.length_toList]
    conv=>rhs; rw [hsp]
    simp only [List.length_append,hl,List.length_take,List.length_drop]
    rw [Nat.min_eq_left (by rw [Array.length_toList]; omega)]
   ·rw [List.size_toArray,←hcl]
    conv=>rhs; rw [hsp]
    simp only [List.length_append,hl,List.length_take,List.length_drop]
    rw [Nat.min_eq_left (by rw [Array.length_toList]; omega)]
   ·rw [List.toList_toArray,←List.append_assoc,←hlen,List.take_left]
  ·have holds:=hown.cells.1
   have hr:=grow (some ⟨g,0,none⟩) cap rfl (by omega) (fun W hW=>by
    simp only [Builtin.firstCells]
    have hc:cellsAt W ⟨g,0,none⟩ xs:=fun j u hj=>by
     have:=holds j u hj
     simpa [World.cell?,hW] using this
    have:=run_loadCells' (P:=P) hc
    rwa [hown.1] at this)
   exact ⟨_,_,hr,grown cap (by omega),(fun b hb _=>heap_alloc_old w.drew _ b hb),by simp,rfl,rfl,⟨rfl,.inr trivial⟩,(by intro b hb; cases hb; exact .inr (Nat.le_refl _)),base0_row _ _ _,_,_,rfl⟩
end
end Go.Am
end
section
set_option linter.unusedVariables false
set_option linter.unusedSimpArgs false
namespace Go.Am
open Go.RowKit
section
variable {C:Ctx} {S S' : St} {θ θ' : Nm→Option Value} {a:Act} {w w' : World} {n:Rp} {ok:Nat→Prop} {P:Program} {o:Oper}
theorem WT_flat:∀ {s:Sh} {x:AV},WT s x→x.flat=true:=by
 intro s
 exact Sh.rec (motive_1:=fun s=>∀ x,WT s x→x.flat=true) (motive_2:=fun l=>∀ cs,WTs l cs→AV.flats cs=true)
  (fun k x h=>by obtain ⟨_,rfl⟩:=h; rfl) (fun x h=>by obtain ⟨_,rfl⟩:=h; rfl) (fun x h=>by obtain ⟨_,rfl⟩:=h; rfl)
  (fun k n x h=>by obtain ⟨_,rfl⟩:=h; rfl)
  (fun l ih x h=>by obtain ⟨cs,rfl,h2⟩:=h; exact ih cs h2)
  (fun k x h=>by obtain ⟨_,rfl⟩:=h; rfl) (fun k x h=>by rcases h with rfl | ⟨_,rfl⟩ <;> rfl) (fun s _ x h=>by obtain ⟨_,rfl⟩:=h; rfl)
  (fun f x h=>by obtain ⟨_,rfl⟩:=h; rfl) (fun f x h=>by obtain ⟨_,rfl⟩:=h; rfl)
  (fun cs h=>by simp only [WTs] at h; subst h; rfl)
  (fun s l ih1 ih2 cs h=>by
   obtain ⟨c,r,rfl,h1,h2⟩:=h
   simp only [AV.flats,ih1 c h1,ih2 r h2,Bool.and_self])
  s _
theorem WT_flats {s:Sh}:∀ {xs:List AV},(∀ x∈xs,WT s x)→AV.flats xs=true
 | [],_=>rfl
 | x::xs,h=>by
  simp only [AV.flats,WT_flat (h x (by simp)),WT_flats (xs:=xs) (fun y hy=>h y (by simp [hy])),Bool.and_self]
structure Grew (v v' : Value) (w w' : World):Prop where
 far:∀ b,b<w.heap.size→blk v≠some b→w'.heap[b]? = w.heap[b]?
 size:w.heap.size≤w'.heap.size
 os:w'.os=w.os
 tape:w'.tape=w.tape
 output:Out w w'
 blk:∀ b,Am.blk v' = some b→Am.blk v=some b∨w.heap.size≤b
 base:base0 v'
theorem Rel.moved (h:Rel C S θ a w) {d dd:Nat} {o' ob:Ob} {v v' : Value} (ho:S.obj (.top d)=some o') (hown:o'.isOwn=true) (hv:θ (.top d)=some v) (hd:S.obj (.top dd)=none) (hw:Grew v v' w w')
  (hob:∀ ok',Keeps w w' (okOf C w S θ) ok' θ (upd θ (.top dd) v')→OV C w' ok' (upd θ (.top dd) v') (.top dd) ob):Rel C ((S.setObj d .dead).setObj dd ob) (upd θ (.top dd) v') a w':=by
 have hne:Nm.top d≠Nm.top dd:=fun e=>by rw [e,hd] at ho; cases ho
 have hnh:¬ S.has (.top dd):=fun hh=>hh hd
 have hnm:∀ i x,θ i=some x→upd θ (.top dd) v' i=some x:=by
  intro i x hi
  by_cases e:i=.top dd
  ·subst e; rw [h.fresh _ hnh] at hi; cases hi
  ·rw [upd_ne _ _ e]; exact hi
 refine h.turn (fun i=>i=.top d∨i=.top dd) (fun b=>blk v=some b) rfl ?_ ?_ hnm hw.os hw.tape hw.output hw.size hw.far ?_ ?_ ?_ ?_ ?_ ?_
 ·intro i hi
  simp only [not_or] at hi
  exact ⟨by rw [obj_setObj_other _ _ _ _ hi.2,obj_setObj_other _ _ _ _ hi.1],upd_ne _ _ hi.2⟩
 ·intro i hi
  simp only [not_or] at hi
  exact (has_setObj_other _ _ _ _ hi.2).trans (has_setObj_other _ _ _ _ hi.1)
 ·intro b hb
  exact ⟨.top d,o',v,.inl rfl,ho,hown,hv,hb⟩
 ·rintro i o₁ u b hi h1 h2 h3 h4
  rcases hi with rfl | rfl
  ·rw [obj_setObj_other _ _ _ _ hne,obj_setObj_same] at h1
   cases h1
   cases h2
  ·rw [upd_self] at h3
   cases h3
   rcases hw.blk b h4 with h5 | h5
   ·exact .inr ⟨.top d,o',v,.inl rfl,ho,hown,hv,h5⟩
   ·exact .inl h5
 ·rintro i j o₁ o₂ u u' b hi hj h1 h2 h3 h4 hij
  rcases hi with rfl | rfl
  ·rw [obj_setObj_other _ _ _ _ hne,obj_setObj_same] at h1
   cases h1
   cases h3
  ·rcases hj with rfl | rfl
   ·rw [obj_setObj_other _ _ _ _ hne,obj_setObj_same] at h2
    cases h2
    cases h4
   ·exact (hij rfl).elim
 ·rintro i hi hn
  rcases hi with rfl | rfl
  ·exact (hn ((has_setObj_other _ _ _ _ hne).2 (has_setObj_same _ _ _))).elim
  ·exact (hn (has_setObj_same _ _ _)).elim
 ·rintro i u hi hu
  rcases hi with rfl | rfl
  ·rw [upd_ne _ _ hne] at hu
   exact h.base _ _ hu
  ·rw [upd_self] at hu
   cases hu
   exact hw.base
 ·rintro hk i o₁ hi _ h1
  rcases hi with rfl | rfl
  ·rw [obj_setObj_other _ _ _ _ hne,obj_setObj_same] at h1
   cases h1
   trivial
  ·rw [obj_setObj_same] at h1
   cases h1
   exact hob _ hk
theorem firstCells_ok {A:Option Addr} {m c size:Nat} {cs:List Value} (hl:cs.length=m * size) (hc:0<m→∃ ad,A=some ad∧cellsAt w ad cs) (hz:m=0→cs=[]) :
  ∀ W:World,W.heap=w.heap→(Builtin.firstCells size m (.slice A m c)).run P W=.ok cs.toArray W:=by
 intro W hW
 cases A with
 | none=>
  have hm:m=0:=by
   rcases Nat.eq_zero_or_pos m with h | h
   ·exact h
   ·obtain ⟨ad,h1,_⟩:=hc h; cases h1
  rw [hz hm,hm]
  rfl
 | some ad=>
  have hcc:∀ j u,cs[j]? = some u→W.cell? (ad.add j)=some u:=by
   intro j u hj
   rcases Nat.eq_zero_or_pos m with h | h
   ·rw [hz h] at hj; cases hj
   ·obtain ⟨ad',h1,h2⟩:=hc h
    cases h1
    have:=h2 j u hj
    simpa [World.cell?,hW] using this
  exact run_firstCells_some (P:=P) W size m ad m c cs hl hcc
theorem opAppend_ok {ts tx:TypeId} {s x:Operand} {us ux:AV} (ho:o.op=.call { callee:=.builtin .append,args:=#[s,x],argTypes:=#[ts,tx] }) (h:Rel C S θ a w)
  (hs:CV w (okOf C w S θ) θ us (a.eval s)) (hx:CV w (okOf C w S θ) θ ux (a.eval x)) (hh:(opAppend P C.E o tx ts us ux).exe n S=some S'):Does P C S' o a w:=by
 unfold opAppend at hh
 split at hh <;> first | exact (exe_fail hh).elim | skip
 rename_i e dd he hdd
 have ht:=elemT_ok he
 split at hh <;> first | exact (exe_fail hh).elim | skip
 rename_i i hi
 split at hh <;> first | exact (exe_fail hh).elim | skip
 rename_i z hz
 simp only at hh
 obtain ⟨hm,hh1⟩:=exe_must hh
 clear hh
 simp only [Bool.and_eq_true] at hm
 have hzs:=Nat.eq_of_beq_eq_true hm.1
 have htt:=Nat.eq_of_beq_eq_true hm.2
 subst htt
 have run:∀ (v' : Value) (w' : World),(Builtin.append_ #[ts,ts] o.type #[a.eval s,a.eval x]).run P w=.ok v' w'→(execOp a.eval o).run P w=.ok (.value v') w':=by
  intro v' w' hr
  simp only [execOp,ho,resolve,invoke,builtin,Sem.run_bind,Sem.run_pure,Result.andThen_ok,List.map_toArray,List.map_cons,List.map_nil,hr]
 split at hh1
 ·
  rename_i k hk
  obtain ⟨hm2,hh2⟩:=exe_must hh1
  clear hh1
  simp only [Bool.and_eq_true] at hm2
  have hs1:=Nat.eq_of_beq_eq_true hm2.1
  have hby:=Nat.le_of_ble_eq_true hm2.2
  obtain ⟨x',l,hh3,hwt,hcv⟩:=snap_ok h 2 (.fs k) ux _ _ hx hh2
  obtain ⟨ys,rfl⟩:=hwt
  obtain ⟨A,c,hxv,hlc,hcl⟩:=hcv
  simp only at hh3
  have hlen:∀ W,(Builtin.lenOf (a.eval x)).run P W=.ok ys.length W:=by intro W; rw [hxv]; rfl
  have hfc:∀ W:World,W.heap=w.heap→(Builtin.firstCells 1 ys.length (a.eval x)).run P W=.ok (ints k ys).toArray W:=by
   rw [hxv]
   exact firstCells_ok (by simp [ints]) (fun h0=>by obtain ⟨ad,q1,_,q2⟩:=hcl h0; exact ⟨ad,q1,q2⟩) (fun h0=>by rw [List.eq_nil_of_length_eq_zero h0]; rfl)
  have hone:∀ u∈ints k ys,u.oneCell' = true:=by
   intro u hu
   simp only [ints,List.mem_map] at hu
   obtain ⟨_,_,rfl⟩:=hu
   rfl
  have big:∀ m:Nat,Nat.ble ((m+ys.length) * i.bytes) 140737488355328=true→m+ys.length≤maxLen∧(m+ys.length) * i.bytes≤140737488355328:=by
   intro m hb
   have hb:=Nat.le_of_ble_eq_true hb
   have h1:(m+ys.length) * 1≤(m+ys.length) * i.bytes:=Nat.mul_le_mul_left _ hby
   exact ⟨by unfold maxLen; omega,hb⟩
  split at hh3 <;> first | exact (exe_fail hh3).elim | skip
  ·
   have hsv:a.eval s=.slice none 0 0:=hs
   obtain ⟨hb,hh4⟩:=exe_chk hh3
   obtain ⟨hb1,hb2⟩:=big 0 hb
   have hh5:=exe_obj hh4
   cases hq:S.obj (.top dd) with
   | some q=>rw [hq] at hh5; exact (exe_fail hh5).elim
   | none=>
    rw [hq] at hh5
    have hS:=exe_done (exe_setSlot (exe_setObj hh5))
    obtain ⟨v',w',r1,r2,r3,r4,r5,r6,r7,r8,r9,A',c',r10⟩:=run_append_row (P:=P) (ty:=o.type) ht hi hz hs1 rfl (by rw [hzs,hs1]) (by omega) (M:=C.M) (v:=.slice none 0 0) (m:=0) (xs:=[]) ⟨by simp,.inl ⟨rfl,rfl⟩⟩ (.inl h.size) hlen hfc (by simp [ints]) hone hb1 hb2
    rw [←hsv] at r1
    have hw:Later w w':=⟨⟨r5,r6,r7.1,r4,fun b hb=>r3 b hb (by simp [blk])⟩,r7.2⟩
    rw [hS]
    have hrel:=h.born (b:=.row true e k ys) (v:=v') hq hw (fun g hg=>by rcases r8 g hg with hh | hh; exact (by cases hh); exact hh) r9
     (fun ok' hk=>⟨v',upd_self _ _ _,fun _=>by simpa using r2,fun h=>by cases h⟩)
    refine Does.value (run v' w' r1) (θ':=upd θ (.top dd) v') ?_
    rw [hdd]
    exact hrel.put ⟨upd_self _ _ _,A',_,c',r10⟩
  ·
   rename_i d
   obtain ⟨hd,A0,m0,c0,hsv⟩:=hs
   have hh4:=exe_obj hh3
   clear hh3
   split at hh4 <;> first | exact (exe_fail hh4).elim | skip
   rename_i oq hob
   split at hh4 <;> first | exact (exe_fail hh4).elim | skip
   rename_i e' xs has
   obtain ⟨hm3,hh5⟩:=exe_must hh4
   simp only [Bool.and_eq_true] at hm3
   have he':=Nat.eq_of_beq_eq_true hm3.1
   subst he'
   obtain ⟨hb,hh6⟩:=exe_chk hh5
   obtain ⟨hb1,hb2⟩:=big xs.length hb
   have hh7:=exe_obj hh6
   cases hq:S.obj (.top dd) with
   | some q=>rw [hq] at hh7; exact (exe_fail hh7).elim
   | none=>
    rw [hq] at hh7
    obtain ⟨hisO,v,v1,v2⟩:=asRow_ok h hob (h.has_of hd) has
    obtain ⟨dt,rfl,hh8⟩:=wrT_top hh7
    have hS:=exe_done (exe_setSlot (exe_setObj hh8))
    rw [hd] at v1
    cases v1
    obtain ⟨v',w',r1,r2,r3,r4,r5,r6,r7,r8,r9,A',c',r10⟩:=run_append_row (P:=P) (ty:=o.type) ht hi hz hs1 rfl (by rw [hzs,hs1]) (by omega) v2 (.inl h.size) hlen hfc (by simp [ints]) hone hb1 hb2
    rw [hS]
    have hrel:=h.moved (ob:=.row true e k (xs++ys)) hob hisO hd hq ⟨r3,r4,r5,r6,r7,r8,r9⟩
     (fun ok' hk=>⟨v',upd_self _ _ _,fun _=>by rw [List.length_append]; simpa [ints] using r2,fun h=>by cases h⟩)
    refine Does.value (run v' w' r1) (θ':=upd θ (.top dd) v') ?_
    rw [hdd]
    exact hrel.put ⟨upd_self _ _ _,A',_,c',r10⟩
 ·
  split at hh1 <;> first | exact (exe_fail hh1).elim | skip
  rename_i sh hsh
  obtain ⟨hm2,hh2⟩:=exe_must hh1
  clear hh1
  simp only [Bool.and_eq_true] at hm2
  have hs1:=Nat.eq_of_beq_eq_true hm2.1
  have hs2:=Nat.le_of_ble_eq_true hm2.2.1
  have hby:=Nat.le_of_ble_eq_true hm2.2.2
  obtain ⟨S1,x',h1,hwt,hcv,hh3,hok1,hnone⟩:=frz_ok h hx hh2
  obtain ⟨ys,rfl⟩:=hwt
  obtain ⟨A,c,cs,hxv,hlc,hwy,hcs,hcl⟩:=hcv
  simp only at hh3
  have hcsl:cs.length=ys.length * sh.width:=by rw [CVs_length hcs,WT_widths hwy]
  have hlen:∀ W,(Builtin.lenOf (a.eval x)).run P W=.ok ys.length W:=by intro W; rw [hxv]; rfl
  have hfc:∀ W:World,W.heap=w.heap→(Builtin.firstCells sh.width ys.length (a.eval x)).run P W=.ok cs.toArray W:=by
   rw [hxv]
   exact firstCells_ok hcsl (fun h0=>by obtain ⟨ad,q1,_,q2⟩:=hcl h0; exact ⟨ad,q1,q2⟩) (fun h0=>by apply List.eq_nil_of_length_eq_zero; rw [hcsl,h0]; simp)
  have hone:∀ u∈cs,u.oneCell' = true:=CVs_cells (WT_flats hwy) hcs
  have big:∀ m:Nat,Nat.ble ((m+ys.length) * i.bytes) 140737488355328=true→m+ys.length≤maxLen∧(m+ys.length) * i.bytes≤140737488355328:=by
   intro m hb
   have hb:=Nat.le_of_ble_eq_true hb
   have h1:(m+ys.length) * 1≤(m+ys.length) * i.bytes:=Nat.mul_le_mul_left _ hby
   exact ⟨by unfold maxLen; omega,hb⟩
  split at hh3 <;> first | exact (exe_fail hh3).elim | skip
  ·have hsv:a.eval s=.slice none 0 0:=hs
   obtain ⟨hb,hh4⟩:=exe_chk hh3
   obtain ⟨hb1,hb2⟩:=big 0 hb
   have hh5:=exe_obj hh4
   cases hq:S1.obj (.top dd) with
   | some q=>rw [hq] at hh5; exact (exe_fail hh5).elim
   | none=>
    rw [hq] at hh5
    have hS:=exe_done (exe_setSlot (exe_setObj hh5))
    obtain ⟨v',w',r1,r2,r3,r4,r5,r6,r7,r8,r9,A',c',r10⟩:=run_append_row (P:=P) (ty:=o.type) ht hi hz hs1 rfl (by rw [hzs,hs1]) (by omega) (M:=C.M) (v:=.slice none 0 0) (m:=0) (xs:=[]) ⟨by simp,.inl ⟨rfl,rfl⟩⟩ (.inl h.size) hlen hfc hcsl hone hb1 hb2
    rw [←hsv] at r1
    have hw:Later w w':=⟨⟨r5,r6,r7.1,r4,fun b hb=>r3 b hb (by simp [blk])⟩,r7.2⟩
    rw [hS]
    have hrel:=h1.born (b:=.rows true e sh ys) (v:=v') hq hw (fun g hg=>by rcases r8 g hg with hh | hh; exact (by cases hh); exact hh) r9
     (fun ok' hk=>⟨v',upd_self _ _ _,hwy,fun _=>⟨cs,CVs_mono hk _ _ hcs,by simpa using r2⟩,fun h=>by cases h⟩)
    refine Does.value (run v' w' r1) (θ':=upd θ (.top dd) v') ?_
    rw [hdd]
    exact hrel.put ⟨upd_self _ _ _,A',_,c',r10⟩
  ·rename_i d
   obtain ⟨hd,A0,m0,c0,hsv⟩:=hs
   have hh4:=exe_obj hh3
   clear hh3
   split at hh4 <;> first | exact (exe_fail hh4).elim | skip
   rename_i oq hob
   split at hh4 <;> first | exact (exe_fail hh4).elim | skip
   rename_i e' xs has
   obtain ⟨hm3,hh5⟩:=exe_must hh4
   have he':=Nat.eq_of_beq_eq_true hm3
   subst he'
   obtain ⟨hb,hh6⟩:=exe_chk hh5
   obtain ⟨hb1,hb2⟩:=big xs.length hb
   have hh7:=exe_obj hh6
   cases hq:S1.obj (.top dd) with
   | some q=>rw [hq] at hh7; exact (exe_fail hh7).elim
   | none=>
    rw [hq] at hh7
    obtain ⟨hisO,v,cx,v1,hwx,hcx,hrow⟩:=asRows_ok h1 hob (h1.has_of hd) has
    obtain ⟨dt,rfl,hh8⟩:=wrT_top hh7
    have hS:=exe_done (exe_setSlot (exe_setObj hh8))
    rw [hd] at v1
    cases v1
    obtain ⟨v',w',r1,r2,r3,r4,r5,r6,r7,r8,r9,A',c',r10⟩:=run_append_row (P:=P) (ty:=o.type) ht hi hz hs1 rfl (by rw [hzs,hs1]) (by omega) hrow (.inl h.size) hlen hfc hcsl hone hb1 hb2
    rw [hS]
    have hrel:=h1.moved (ob:=.rows true e sh (xs++ys)) hob hisO hd hq ⟨r3,r4,r5,r6,r7,r8,r9⟩
     (fun ok' hk=>⟨v',upd_self _ _ _,(fun y hy=>by
      rcases List.mem_append.1 hy with hy | hy
      ·exact hwx y hy
      ·exact hwy y hy),fun _=>⟨cx++cs,CVs_append (CVs_mono hk _ _ hcx) (CVs_mono hk _ _ hcs),by rw [List.length_append]; exact r2⟩,fun h=>by cases h⟩)
    refine Does.value (run v' w' r1) (θ':=upd θ (.top dd) v') ?_
    rw [hdd]
    exact hrel.put ⟨upd_self _ _ _,A',_,c',r10⟩
end
end Go.Am
end
