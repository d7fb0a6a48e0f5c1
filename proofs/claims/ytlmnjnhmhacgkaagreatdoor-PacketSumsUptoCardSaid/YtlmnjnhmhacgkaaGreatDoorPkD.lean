/-
  The functions' runs, and the joining of parts.
-/
import Derived.Test.YtlmnjnhmhacgkaaGreatDoorPkB
import Derived.KernelRfl
import Derived.Test.YtlmnjnhmhacgkaaGreatDoorAmF
import Derived.Shelf.Bytes.SlJoin
import Derived.Test.YtlmnjnhmhacgkaaGreatDoorProg
import Derived.Test.YtlmnjnhmhacgkaaGreatDoorPkC
section
set_option linter.unusedVariables false
set_option maxRecDepth 100000
namespace Go.Proofs.YtlmnjnhmhacgkaaGreatDoor.Am
open Go Go.Am Go.Proofs
theorem eqp126 (n:Nat) (x0:List Int) (x1:Int):runp126 n x0 x1 =
 jn
  (jn
   (brO (decide (x1<0))
    (inl (some [(.fs .u8 x0),(.int .i64 x1),(.bool true)]))
    (inl (some [(.fs .u8 x0),(.int .i64 x1),(.bool (decide (x1 ≥ (Int.ofNat (List.length x0)))))]))) fun d0=>
  brO (AV.toBool (getE d0 2))
   (inr (some (Unit.unit)))
   (inl (some [(.fs .u8 (AV.toInts (getE d0 0))),(.int .i64 (AV.toInt (getE d0 1)))]))) fun d1=>
 brO (inR (AV.toInt (getE d1 1)) (List.length (AV.toInts (getE d1 0))))
  (none)
  (none):=by kernel_rfl
theorem eqp125 (n:Nat) (x0:List Int) (x1:Int) (x2:Int):runp125 n x0 x1 x2 =
 jn
  (jn
   (brO (decide (x1<0))
    (inl (some [(.fs .u8 x0),(.int .i64 x1),(.int .i64 x2),(.bool true)]))
    (brO (decide (x1 >(Int.ofNat (List.length x0))))
     (inl (some [(.fs .u8 x0),(.int .i64 x1),(.int .i64 x2),(.bool true)]))
     (inl (let v2:Int:=(IntKind.wrap .i64 ((Int.ofNat (List.length x0)) - x1))
     some [(.fs .u8 x0),(.int .i64 x1),(.int .i64 x2),(.bool (decide (x2 > v2)))])))) fun d0=>
  brO (AV.toBool (getE d0 3))
   (inr (some (Unit.unit)))
   (inl (some [(.fs .u8 (AV.toInts (getE d0 0))),(.int .i64 (AV.toInt (getE d0 1))),(.int .i64 (AV.toInt (getE d0 2)))]))) fun d1=>
 let v3:Int:=(IntKind.wrap .i64 ((AV.toInt (getE d1 1))+(AV.toInt (getE d1 2))))
 brO ((decide (0≤(AV.toInt (getE d1 1)))) && ((decide ((AV.toInt (getE d1 1))≤v3)) && ((decide (v3≤v3)) && (decide (v3≤(Int.ofNat (List.length (AV.toInts (getE d1 0)))))))))
  (none)
  (none):=by kernel_rfl
theorem brO_t {R:Type} {b:Bool} {x y:Option R} (h:b=true):brO b x y=x:=by rw [h]; rfl
theorem brO_f {R:Type} {b:Bool} {x y:Option R} (h:b=false):brO b x y=y:=by rw [h]; rfl
theorem W_id {x:Int} (h : -9223372036854775808≤x) (h' : x<9223372036854775808):IntKind.wrap .i64 x=x:=by
 show (if (true && decide (x % 18446744073709551616 ≥ 9223372036854775808))=true then x % 18446744073709551616 - 18446744073709551616 else x % 18446744073709551616)=x
 by_cases hc:x % 18446744073709551616 ≥ 9223372036854775808
 ·rw [if_pos (by simpa using hc)]
  omega
 ·rw [if_neg (by simpa using hc)]
  omega
theorem W8 (x:Int):IntKind.wrap .u8 x=x % 256:=by simp [IntKind.wrap,IntKind.signed,IntKind.bits]
theorem W64 (x:Int):IntKind.wrap .u64 x=x % 18446744073709551616:=by simp [IntKind.wrap,IntKind.signed,IntKind.bits]
theorem wrap_id {x:Int} (h1:0≤x) (h2:x<2 ^ 62):IntKind.wrap .i64 x=x:=W_id (by omega) (by omega)
theorem wrap_u {x:Int} (h1:0≤x) (h2:x<2 ^ 64):IntKind.wrap .u64 x=x:=by rw [W64]; omega
theorem wt_fs {e:IntKind} {a:AV} (h:WT (.fs e) a):∃ l,a=.fs e l:=h
theorem wt_int {e:IntKind} {a:AV} (h:WT (.int e) a):∃ l,a=.int e l:=h
theorem wt2 {xs:List AV} (h:WTl [.fs .u8,.int .i64] xs):∃ x y,xs=[.fs .u8 x,.int .i64 y]:=by
 obtain ⟨a,r,rfl,h1,b,r',rfl,h2,h3⟩:=h
 cases h3
 obtain ⟨x,rfl⟩:=wt_fs h1
 obtain ⟨y,rfl⟩:=wt_int h2
 exact ⟨x,y,rfl⟩
theorem wt3 {xs:List AV} (h:WTl [.fs .u8,.int .i64,.int .i64] xs):∃ x y z,xs=[.fs .u8 x,.int .i64 y,.int .i64 z]:=by
 obtain ⟨a,r,rfl,h1,b,r',rfl,h2,c,r'',rfl,h3,h4⟩:=h
 cases h4
 obtain ⟨x,rfl⟩:=wt_fs h1
 obtain ⟨y,rfl⟩:=wt_int h2
 obtain ⟨z,rfl⟩:=wt_int h3
 exact ⟨x,y,z,rfl⟩
theorem rp126 (x:List Int) (y:Int) (h:B126 [.fs .u8 x,.int .i64 y]=true):runp126 0 x y=some ():=by
 rw [eqp126]
 unfold B126 at h
 have h:(decide (y<0) || decide (y ≥ (x.length:Nat)))=true:=h
 cases h1:decide (y<0) with
 | true=>rfl
 | false=>
  rw [h1,Bool.false_or] at h
  show jn (jn (some (.inl [(.fs .u8 x),(.int .i64 y),(.bool (decide (y ≥ (Int.ofNat (List.length x)))))])) _) _=_
  rw [show decide (y ≥ (Int.ofNat (List.length x)))=true from h]
  rfl
theorem sp126:SoundPan Tryz.prog env 126 [.fs .u8,.int .i64] B126:=
 soundPan (cal:=cal126) (H:=H126) (body:=D126.body) (fun f c hf=>by cases hf) mix Tryz.func126 rfl (by decide) rfl (fun C _=>OvOk.none (by intro id; rfl)) (fun C hC=>pan126 C hC)
  (fun xs hB hw=>by
   obtain ⟨x,y,rfl⟩:=wt2 hw
   exact ⟨0,rp126 x y hB⟩)
theorem rp125 (x:List Int) (y z:Int) (h:B125 [.fs .u8 x,.int .i64 y,.int .i64 z]=true):runp125 0 x y z=some ():=by
 rw [eqp125]
 unfold B125 at h
 have h:(decide (y<0) || (decide (y >(x.length:Nat)) || decide (z > IntKind.i64.wrap ((x.length:Nat) - y))))=true:=h
 cases h1:decide (y<0) with
 | true=>rfl
 | false=>
  rw [h1,Bool.false_or] at h
  cases h2:decide (y >(x.length:Nat)) with
  | true=>
   rfl
  | false=>
   rw [h2,Bool.false_or] at h
   show jn (jn (some (.inl [(.fs .u8 x),(.int .i64 y),(.int .i64 z),(.bool (decide (z > IntKind.i64.wrap ((x.length:Nat) - y))))])) _) _=_
   rw [h]
   rfl
theorem sp125:SoundPan Tryz.prog env 125 [.fs .u8,.int .i64,.int .i64] B125:=
 soundPan (cal:=cal125) (H:=H125) (body:=D125.body) (fun f c hf=>by cases hf) mix Tryz.func125 rfl (by decide) rfl (fun C _=>OvOk.none (by intro id; rfl)) (fun C hC=>pan125 C hC)
  (fun xs hB hw=>by
   obtain ⟨x,y,z,rfl⟩:=wt3 hw
   exact ⟨0,rp125 x y z hB⟩)
end Go.Proofs.YtlmnjnhmhacgkaaGreatDoor.Am
end
section
set_option linter.unusedVariables false
set_option maxRecDepth 100000
namespace Go.Proofs.YtlmnjnhmhacgkaaGreatDoor.Am
open Go Go.Am Go.Proofs Go.Lib Go.RowKit
def fsOk:AV→Bool
 | .fs .u8 l=>l.all fun x=>decide (0≤x) && decide (x≤255)
 | _=>false
def G207:Fun:=fun _ xs=>match xs with
 | [.fv (.fs .u8) ps,.fs .u8 []]=>if 2≤ps.length∧ps.length≤140737488355328∧ps.all fsOk=true∧(ps.flatMap AV.toInts).length≤140737488355328 then some [.fs .u8 (ps.flatMap AV.toInts)] else none
 | _=>none
def bU8 (xs:List Int):List UInt8:=xs.map fun x=>UInt8.ofNat x.toNat
theorem bU8_nums {xs:List Int} (h:∀ x∈xs,0≤x∧x≤255):numsL (bU8 xs)=xs:=by
 unfold numsL bU8
 rw [List.map_map]
 conv=>rhs; rw [←List.map_id xs]
 apply List.map_congr_left
 intro x hx
 have:=h x hx
 show ((UInt8.ofNat x.toNat).toNat:Int)=x
 rw [UInt8.toNat_ofNat_of_lt' (by show x.toNat<256; omega)]
 omega
theorem fsOk_ok {a:AV} (h:fsOk a=true):∃ l,a=.fs .u8 l∧∀ x∈l,0≤x∧x≤255:=by
 unfold fsOk at h
 split at h
 ·rename_i l
  exact ⟨l,rfl,fun x hx=>by have:=List.all_eq_true.1 h x hx; simpa using this⟩
 ·cases h
theorem parts_at {w:World} {ok:Nat→Prop} {θ:Nm→Option Value}:∀ {ps:List AV} {cs:List Value},ps.all fsOk=true→CVs w ok θ ps cs→
  cs.length=ps.length∧∀ (i:Nat) v l,cs[i]? = some v→(ps.map fun a=>bU8 a.toInts)[i]? = some l→HoldsBytes w v l
 | [],cs,_,h=>by
  have h:cs=[]:=h
  subst h
  exact ⟨rfl,fun i v l hv=>by simp at hv⟩
 | a::ps,cs,hf,h=>by
  obtain ⟨v,rest,rfl,hw,hv,hr⟩:=h
  rw [List.all_cons,Bool.and_eq_true] at hf
  obtain ⟨l,rfl,hl⟩:=fsOk_ok hf.1
  obtain ⟨A,c,rfl,hlc,hc⟩:=hv
  obtain ⟨h1,h2⟩:=parts_at hf.2 hr
  have e:(Value.slice A l.length c).cells.toList=[Value.slice A l.length c]:=rfl
  rw [e]
  refine ⟨by simp [h1],fun i u m hu hm=>?_⟩
  cases i with
  | zero=>
   simp only [List.cons_append,List.nil_append,List.getElem?_cons_zero,Option.some.injEq,List.map_cons] at hu hm
   subst hu
   subst hm
   have hlen:(bU8 l).length=l.length:=by simp [bU8]
   refine ⟨A,c,by show _=Value.slice A (bU8 l).length c; rw [hlen],fun hA=>?_,fun a ha j x hx=>?_⟩
   ·match l,hc with
    | [],_=>rfl
    | y::l',hc=>
     obtain ⟨ad,h3,_⟩:=hc (by simp)
     rw [hA] at h3; cases h3
   ·have hj:j<l.length:=by
     have:=(List.getElem?_eq_some_iff.1 hx).1
     rw [←hlen]; exact this
    obtain ⟨ad,h3,_,h4⟩:=hc (by omega)
    rw [ha] at h3
    cases h3
    have h5:=h4 j (.int .u8 l[j]) (by unfold ints; simp [hj])
    rw [h5]
    have hx:(bU8 l)[j]? = some x:=hx
    have h6:(numsL (bU8 l))[j]? = l[j]?:=by rw [bU8_nums hl]
    unfold numsL at h6
    rw [List.getElem?_map,hx,List.getElem?_eq_getElem hj] at h6
    simp only [Option.map_some,Option.some.injEq] at h6
    rw [h6]
  | succ i=>
   simp only [List.cons_append,List.nil_append,List.getElem?_cons_succ,List.map_cons] at hu hm
   exact h2 i u m hu hm
theorem numsB (ys:List Int) (h:∀ y∈ys,0≤y∧y<256):numsL (bytesOf ys)=ys:=by
 unfold numsL bytesOf
 rw [List.map_map]
 conv=>rhs; rw [←List.map_id ys]
 apply List.map_congr_left
 intro y hy
 have:=h y hy
 have h2:y.toNat<256:=by omega
 simp [Nat.mod_eq_of_lt h2]
 omega
def ren207:Go.Shelf.Ren:=⟨fun | 14=>207 | 15=>246 | n=>n,fun | 22=>31 | 26=>127 | n=>n,fun n=>n⟩
theorem lay207:SlLaysJ.n14 Tryz.prog ren207:={
 mixed:=by kernel_rfl
 f14:=Tryz.func207.trans (congrArg some (by kernel_rfl))
 f15:=Tryz.func246.trans (congrArg some (by kernel_rfl))
 t0:=Tryz.underlying0
 a0:=Tryz.isAgg0
 z0:=Tryz.sizeOf0
 v0:=Tryz.zeroValue0
 t3:=Tryz.underlying3
 a3:=Tryz.isAgg3
 z3:=Tryz.sizeOf3
 v3:=Tryz.zeroValue3
 t4:=Tryz.underlying4
 a4:=Tryz.isAgg4
 z4:=Tryz.sizeOf4
 v4:=Tryz.zeroValue4
 t9:=Tryz.underlying9
 a9:=Tryz.isAgg9
 z9:=Tryz.sizeOf9
 v9:=Tryz.zeroValue9
 t20:=Tryz.underlying20
 a20:=Tryz.isAgg20
 z20:=Tryz.sizeOf20
 v20:=Tryz.zeroValue20
 t22:=Tryz.underlying31
 a22:=Tryz.isAgg31
 z22:=Tryz.sizeOf31
 v22:=Tryz.zeroValue31
 t26:=Tryz.underlying127
 a26:=Tryz.isAgg127
 z26:=Tryz.sizeOf127
 v26:=Tryz.zeroValue127
 t5:=Tryz.underlying5
 z5:=Tryz.sizeOf5
 i5:=by kernel_rfl }
theorem flat_nums {ps:List AV} (h:ps.all fsOk=true):numsL ((ps.map fun a=>bU8 a.toInts).flatten)=ps.flatMap AV.toInts:=by
 induction ps with
 | nil=>rfl
 | cons a ps ih=>
  rw [List.all_cons,Bool.and_eq_true] at h
  obtain ⟨l,rfl,hl⟩:=fsOk_ok h.1
  have e:∀ a b:List UInt8,numsL (a++b)=numsL a++numsL b:=fun a b=>by unfold numsL; rw [List.map_append]
  rw [List.map_cons,List.flatten_cons,e,ih h.2,List.flatMap_cons]
  show numsL (bU8 l)++_=_
  rw [bU8_nums hl]
  rfl
theorem lens_flat (ls:List (List UInt8)):lens ls=ls.flatten.length:=by
 unfold lens
 rw [List.length_flatten]
theorem join_flat (ls:List (List UInt8)):join ls []=ls.flatten:=by
 cases ls with
 | nil=>rfl
 | cons x r=>
  rw [join_cons]
  unfold joinTail
  simp
theorem sG207:SoundCal Tryz.prog env 207 (mkCal D207 G207):=by
 show SoundCal0 Tryz.prog env 207 (mkCal D207 G207)
 refine ⟨⟨_,Tryz.func207,by kernel_rfl,by decide⟩,.inr rfl,fun n xs r hF C args θ0 hE hI hH hA hG=>?_⟩
 have hF:G207 n xs=some r:=hF
 unfold G207 at hF
 split at hF
 ·rename_i ps _
  split at hF
  ·rename_i hc
   obtain ⟨g1,g2,g3,g4⟩:=hc
   injection hF with hF
   subst hF
   obtain ⟨v0,rest0,e0,hv0,hr0⟩:=hA
   obtain ⟨v1,rest1,e1,hv1,hr1⟩:=hr0
   have hr1:rest1=[]:=hr1
   subst hr1 e1
   obtain ⟨A,c,cs,rfl,hcap,hwt,hcs,hcell⟩:=hv0
   obtain ⟨A1,c1,rfl,hcap1,_⟩:=hv1
   obtain ⟨ad,rfl,hok,hat⟩:=hcell (by omega)
   obtain ⟨p1,p2⟩:=parts_at g3 hcs
   have hspot:ad.spot=none:=by
    obtain ⟨u,hu⟩ : ∃ u,cs[0]? = some u:=⟨cs[0],List.getElem?_eq_getElem (by omega)⟩
    have h:=hat 0 u hu
    cases hs:ad.spot with
    | none=>rfl
    | some s=>
     have ea:ad.add 0=ad:=by unfold Addr.add; rw [if_pos rfl]
     rw [ea] at h
     unfold World.cell? at h
     rw [hs] at h
     split at h
     ·simp at h
     ·cases h
   obtain ⟨b,o,sp⟩:=ad
   have hspot:sp=none:=hspot
   subst hspot
   have hargs:args = #[.slice (some ⟨b,o,none⟩) ps.length c,.slice A1 0 c1]:=by
    cases args; simp_all
   subst hargs
   have hJ:=Any.bytes_Join_many lay207 b o ps.length c cs (ps.map fun a=>bU8 a.toInts) (.slice A1 0 c1) [] C.w0 (by simp) g1
    ⟨by simp [p1],hat,p2⟩ hcap ⟨A1,c1,rfl,fun _=>rfl,fun a _ i x hx=>by simp at hx⟩ g2
    (by
     have:=flat_nums g3
     have hl:=congrArg List.length this
     rw [numsL_length] at hl
     rw [lens_flat,hl]
     show _+0 * _≤_
     omega)
   have hJ:Calls Tryz.prog 207 _ _ _:=hJ
   refine hJ.mono fun e w' h=>?_
   obtain ⟨v',rfl,hfr,hb⟩:=h
   refine ⟨v',θ0,rfl,fun _ _ h=>h,?_⟩
   rw [join_flat] at hfr
   obtain ⟨g,cap,zs,rfl,hg,hlc,hmx,hzl,hzr,hzb,hzc,_⟩:=hfr
   have hlen:((ps.map fun a=>bU8 a.toInts).flatten).length=(ps.flatMap AV.toInts).length:=by
    have hl:=congrArg List.length (flat_nums g3)
    rw [numsL_length] at hl
    exact hl
   have hzt:zs.take ((ps.map fun a=>bU8 a.toInts).flatten).length=ps.flatMap AV.toInts:=by
    have:=numsB _ (fun y hy=>hzr y (List.mem_of_mem_take (i:=((ps.map fun a=>bU8 a.toInts).flatten).length) hy))
    rw [hzb,flat_nums g3] at this
    exact this.symm
   have hS:(mkCal D207 G207).hq ((mkCal D207 G207).full [.fv (.fs .u8) ps,.fs .u8 []] [.fs .u8 (ps.flatMap AV.toInts)])=(mkCal D207 G207).hp [.fv (.fs .u8) ps,.fs .u8 []]:=rfl
   rw [hS]
   have hno:∀ d,((mkCal D207 G207).hp [.fv (.fs .u8) ps,.fs .u8 []]).obj d=none:=fun d=>by cases d <;> rfl
   have hOwn:∀ b,¬ OwnB ((mkCal D207 G207).hp [.fv (.fs .u8) ps,.fs .u8 []]) θ0 b:=fun b ⟨d,o,v,h1,_⟩=>by rw [hno] at h1; cases h1
   refine ⟨rfl,[_],.inl ⟨rfl,rfl⟩,?_⟩
   show HRel _ _ _ _ _∧CVt _ _ _ _ _∧_
   refine ⟨⟨fun d ob _ ho=>(by rw [hno] at ho; cases ho),hH.fresh,fun d d' ob ob' v v' bb h1=>(by rw [hno] at h1; cases h1),hb.os.trans hH.os,hb.tape.trans hH.tape,⟨hb.output.trans hH.output.1,.inr trivial⟩,Nat.le_trans hH.size hb.size,fun bb hbb hIb=>?_,hH.base⟩,?_,?_⟩
   ·rw [hb.block bb hbb]
   ·refine ⟨_,[],rfl,?_,rfl⟩
    show CV _ _ _ (.fs .u8 (ps.flatMap AV.toInts)) _
    refine ⟨some ⟨g,0,none⟩,cap,by rw [hlen],by omega,fun hpos=>⟨⟨g,0,none⟩,rfl,⟨?_,fun hf=>?_,hOwn g,by simp,fun _=>hg⟩,fun j u hu=>?_⟩⟩
    ·have:=hzc 0 (by omega)
     unfold World.cell? at this
     rcases Nat.lt_or_ge g w'.heap.size with h | h
     ·exact h
     ·rw [Array.getElem?_eq_none h] at this; cases this
    ·have:=C.fb g hf; omega
    ·have hj:j<(ps.flatMap AV.toInts).length:=by
      have:=(List.getElem?_eq_some_iff.1 hu).1
      unfold ints at this
      simpa using this
     have h1:=hzc j (by omega)
     have ea:(⟨g,0,none⟩ : Addr).add j=⟨g,j,none⟩:=by rw [Lib.add_plain2]; simp
     rw [ea,h1]
     unfold ints at hu
     rw [List.getElem?_map] at hu
     have h2:(ps.flatMap AV.toInts)[j]? = some (zs.getD j 0):=by
      rw [←hzt,List.getElem?_take_of_lt (by omega)]
      have:j<zs.length:=by omega
      simp [List.getD_eq_getElem?_getD,this]
     rw [h2] at hu
     exact hu
   ·intro a ha
    have ha:a∈[AV.fs .u8 (ps.flatMap AV.toInts)]:=ha
    rw [List.mem_singleton.1 ha]
    exact ⟨.fs .u8,⟨_,rfl⟩,rfl⟩
  ·cases hF
 ·cases hF
end Go.Proofs.YtlmnjnhmhacgkaaGreatDoor.Am
end
section
set_option linter.unusedVariables false
set_option maxRecDepth 100000
namespace Go.Proofs.YtlmnjnhmhacgkaaGreatDoor.Am
open Go Go.Am Go.Proofs
noncomputable section
def A77:Fun:=fun n xs=>D77.run Tryz.prog env cal77 H77 n xs
theorem S77:SC 77 (mkCal D77 A77):=snd77
def A79:Fun:=fun n xs=>D79.run Tryz.prog env cal79 H79 n xs
theorem S79:SC 79 (mkCal D79 A79):=snd79
def A63:Fun:=fun n xs=>D63.run Tryz.prog env (cal63 A77 A79) H63 n xs
theorem S63:SC 63 (mkCal D63 A63):=snd63 _ _ S77 S79
def A34:Fun:=fun n xs=>D34.run Tryz.prog env cal34 H34 n xs
theorem S34:SC 34 (mkCal D34 A34):=snd34
def A70:Fun:=fun n xs=>D70.run Tryz.prog env cal70 H70 n xs
theorem S70:SC 70 (mkCal D70 A70):=snd70
def A113:Fun:=fun n xs=>D113.run Tryz.prog env (cal113 A70) H113 n xs
theorem S113:SC 113 (mkCal D113 A113):=snd113 _ S70
def A112:Fun:=fun n xs=>D112.run Tryz.prog env (cal112 A113) H112 n xs
theorem S112:SC 112 (mkCal D112 A112):=snd112 _ S113
def A69:Fun:=fun n xs=>D69.run Tryz.prog env (cal69 A112) H69 n xs
theorem S69:SC 69 (mkCal D69 A69):=snd69 _ S112
def A35:Fun:=fun n xs=>D35.run Tryz.prog env (cal35 A69 A70) H35 n xs
theorem S35:SC 35 (mkCal D35 A35):=snd35 _ _ S69 S70
def A72:Fun:=fun n xs=>D72.run Tryz.prog env (cal72 A69 A70) H72 n xs
theorem S72:SC 72 (mkCal D72 A72):=snd72 _ _ S69 S70
def A71:Fun:=fun n xs=>D71.run Tryz.prog env (cal71 A72) H71 n xs
theorem S71:SC 71 (mkCal D71 A71):=snd71 _ S72
def A36:Fun:=fun n xs=>D36.run Tryz.prog env (cal36 A70 A71) H36 n xs
theorem S36:SC 36 (mkCal D36 A36):=snd36 _ _ S70 S71
def A37:Fun:=fun n xs=>D37.run Tryz.prog env (cal37 A69 A70) H37 n xs
theorem S37:SC 37 (mkCal D37 A37):=snd37 _ _ S69 S70
def A14:Fun:=fun n xs=>D14.run Tryz.prog env (cal14 A34 A35 A36 A37) H14 n xs
theorem S14:SC 14 (mkCal D14 A14):=snd14 _ _ _ _ S34 S35 S36 S37
def A55:Fun:=fun n xs=>D55.run Tryz.prog env cal55 H55 n xs
theorem S55:SC 55 (mkCal D55 A55):=snd55
def A56:Fun:=fun n xs=>D56.run Tryz.prog env cal56 H56 n xs
theorem S56:SC 56 (mkCal D56 A56):=snd56
def A94:Fun:=fun n xs=>D94.run Tryz.prog env cal94 H94 n xs
theorem S94:SC 94 (mkCal D94 A94):=snd94
def A57:Fun:=fun n xs=>D57.run Tryz.prog env (cal57 A55 A94) H57 n xs
theorem S57:SC 57 (mkCal D57 A57):=snd57 _ _ S55 S94
def A64:Fun:=fun n xs=>D64.run Tryz.prog env (cal64 A14 A55 A56 A57) H64 n xs
theorem S64:SC 64 (mkCal D64 A64):=snd64 _ _ _ _ S14 S55 S56 S57
def A184:Fun:=fun n xs=>D184.run Tryz.prog env cal184 H184 n xs
theorem S184:SC 184 (mkCal D184 A184):=snd184
def A139:Fun:=fun n xs=>D139.run Tryz.prog env (cal139 A184) H139 n xs
theorem S139:SC 139 (mkCal D139 A139):=snd139 _ S184
def A95:Fun:=fun n xs=>D95.run Tryz.prog env (cal95 A139) H95 n xs
theorem S95:SC 95 (mkCal D95 A95):=snd95 _ S139
def A96:Fun:=fun n xs=>D96.run Tryz.prog env cal96 H96 n xs
theorem S96:SC 96 (mkCal D96 A96):=snd96
def A135:Fun:=fun n xs=>D135.run Tryz.prog env cal135 H135 n xs
theorem S135:SC 135 (mkCal D135 A135):=snd135
def A123:Fun:=fun n xs=>D123.run Tryz.prog env cal123 H123 n xs
theorem S123:SC 123 (mkCal D123 A123):=snd123
def A136:Fun:=fun n xs=>D136.run Tryz.prog env (cal136 A123) H136 n xs
theorem S136:SC 136 (mkCal D136 A136):=snd136 _ S123
def A178:Fun:=fun n xs=>D178.run Tryz.prog env cal178 H178 n xs
theorem S178:SC 178 (mkCal D178 A178):=snd178
def A127:Fun:=fun n xs=>D127.run Tryz.prog env (cal127 A178) H127 n xs
theorem S127:SC 127 (mkCal D127 A127):=snd127 _ S178
def A137:Fun:=fun n xs=>D137.run Tryz.prog env (cal137 A127) H137 n xs
theorem S137:SC 137 (mkCal D137 A137):=snd137 _ S127
def A91:Fun:=fun n xs=>D91.run Tryz.prog env (cal91 A95 A96 A135 A136 A137) H91 n xs
theorem S91:SC 91 (mkCal D91 A91):=snd91 _ _ _ _ _ S95 S96 S135 S136 S137
def A97:Fun:=fun n xs=>D97.run Tryz.prog env (cal97 A139) H97 n xs
theorem S97:SC 97 (mkCal D97 A97):=snd97 _ S139
def A183:Fun:=fun n xs=>D183.run Tryz.prog env cal183 H183 n xs
theorem S183:SC 183 (mkCal D183 A183):=snd183
def A138:Fun:=fun n xs=>D138.run Tryz.prog env (cal138 A183) H138 n xs
theorem S138:SC 138 (mkCal D138 A138):=snd138 _ S183
def A92:Fun:=fun n xs=>D92.run Tryz.prog env (cal92 A97 A136 A137 A138 A139) H92 n xs
theorem S92:SC 92 (mkCal D92 A92):=snd92 _ _ _ _ _ S97 S136 S137 S138 S139
def A142:Fun:=fun n xs=>D142.run Tryz.prog env cal142 H142 n xs
theorem S142:SC 142 (mkCal D142 A142):=snd142
def A141:Fun:=fun n xs=>D141.run Tryz.prog env (cal141 A142) H141 n xs
theorem S141:SC 141 (mkCal D141 A141):=snd141 _ S142
def A140:Fun:=fun n xs=>D140.run Tryz.prog env (cal140 A141 A183) H140 n xs
theorem S140:SC 140 (mkCal D140 A140):=snd140 _ _ S141 S183
def A93:Fun:=fun n xs=>D93.run Tryz.prog env (cal93 A97 A136 A137 A139 A140 A141) H93 n xs
theorem S93:SC 93 (mkCal D93 A93):=snd93 _ _ _ _ _ _ S97 S136 S137 S139 S140 S141
def A53:Fun:=fun n xs=>D53.run Tryz.prog env (cal53 A55 A56 A91 A92 A93) H53 n xs
theorem S53:SC 53 (mkCal D53 A53):=snd53 _ _ _ _ _ S55 S56 S91 S92 S93
def A54:Fun:=fun n xs=>D54.run Tryz.prog env cal54 H54 n xs
theorem S54:SC 54 (mkCal D54 A54):=snd54
def A81:Fun:=fun n xs=>D81.run Tryz.prog env cal81 H81 n xs
theorem S81:SC 81 (mkCal D81 A81):=snd81
def A82:Fun:=fun n xs=>D82.run Tryz.prog env (cal82 A77) H82 n xs
theorem S82:SC 82 (mkCal D82 A82):=snd82 _ S77
def A111:Fun:=fun n xs=>rowRun Tryz.prog env cal111 H111 (Tryz.f111.body.getD .skip) 13 4 5 .u8 n xs
theorem S111:SC 111 (rowCal A111 5 .u8 31):=snd111
def A106:Fun:=fun n xs=>D106.run Tryz.prog env (cal106 A81 A82 A111) H106 n xs
theorem S106:SC 106 (mkCal D106 A106):=snd106 _ _ _ S81 S82 S111
def A86:Fun:=fun n xs=>D86.run Tryz.prog env cal86 H86 n xs
theorem S86:SC 86 (mkCal D86 A86):=snd86
def A157:Fun:=fun n xs=>D157.run Tryz.prog env cal157 H157 n xs
theorem S157:SC 157 (mkCal D157 A157):=snd157
def A202:Fun:=fun n xs=>D202.run Tryz.prog env cal202 H202 n xs
theorem S202:SC 202 (mkCal D202 A202):=snd202
def A203:Fun:=fun n xs=>D203.run Tryz.prog env cal203 H203 n xs
theorem S203:SC 203 (mkCal D203 A203):=snd203
def A155:Fun:=fun n xs=>D155.run Tryz.prog env (cal155 A86 A157 A202 A203) H155 n xs
theorem S155:SC 155 (mkCal D155 A155):=snd155 _ _ _ _ S86 S157 S202 S203
def A269:Fun:=fun n xs=>D269.run Tryz.prog env cal269 H269 n xs
theorem S269:SC 269 (mkCal D269 A269):=snd269
def A244:Fun:=fun n xs=>D244.run Tryz.prog env (cal244 A269) H244 n xs
theorem S244:SC 244 (mkCal D244 A244):=snd244 _ S269
def A204:Fun:=fun n xs=>D204.run Tryz.prog env (cal204 A244) H204 n xs
theorem S204:SC 204 (mkCal D204 A204):=snd204 _ S244
def A130:Fun:=fun n xs=>D130.run Tryz.prog env cal130 H130 n xs
theorem S130:SC 130 (mkCal D130 A130):=snd130
def A285:Fun:=fun n xs=>rowRun Tryz.prog env cal285 H285 (Tryz.f285.body.getD .skip) 28 4 5 .u8 n xs
theorem S285:SC 285 (rowCal A285 5 .u8 31):=snd285
def A270:Fun:=fun n xs=>D270.run Tryz.prog env (cal270 A285) H270 n xs
theorem S270:SC 270 (mkCal D270 A270):=snd270 _ S285
def A245:Fun:=fun n xs=>D245.run Tryz.prog env (cal245 A130 A270) H245 n xs
theorem S245:SC 245 (mkCal D245 A245):=snd245 _ _ S130 S270
def A205:Fun:=fun n xs=>D205.run Tryz.prog env (cal205 A245) H205 n xs
theorem S205:SC 205 (mkCal D205 A205):=snd205 _ S245
def A180:Fun:=fun n xs=>D180.run Tryz.prog env cal180 H180 n xs
theorem S180:SC 180 (mkCal D180 A180):=snd180
def A206:Fun:=fun n xs=>D206.run Tryz.prog env (cal206 A130 A180) H206 n xs
theorem S206:SC 206 (mkCal D206 A206):=snd206 _ _ S130 S180
def A207:Fun:=G207
theorem S207:SC 207 (mkCal D207 A207):=sG207
def A159:Fun:=fun n xs=>D159.run Tryz.prog env (cal159 A136 A204 A205 A206 A207) H159 n xs
theorem S159:SC 159 (mkCal D159 A159):=snd159 _ _ _ _ _ S136 S204 S205 S206 S207
def A156:Fun:=fun n xs=>D156.run Tryz.prog env (cal156 A159) H156 n xs
theorem S156:SC 156 (mkCal D156 A156):=snd156 _ S159
def A107:Fun:=fun n xs=>D107.run Tryz.prog env (cal107 A155 A156) H107 n xs
theorem S107:SC 107 (mkCal D107 A107):=snd107 _ _ S155 S156
def A108:Fun:=fun n xs=>D108.run Tryz.prog env (cal108 A55 A135 A138 A140) H108 n xs
theorem S108:SC 108 (mkCal D108 A108):=snd108 _ _ _ _ S55 S135 S138 S140
def A158:Fun:=fun n xs=>D158.run Tryz.prog env cal158 H158 n xs
theorem S158:SC 158 (mkCal D158 A158):=snd158
def A109:Fun:=fun n xs=>D109.run Tryz.prog env (cal109 A136 A137 A155 A157 A158) H109 n xs
theorem S109:SC 109 (mkCal D109 A109):=snd109 _ _ _ _ _ S136 S137 S155 S157 S158
def A110:Fun:=fun n xs=>D110.run Tryz.prog env (cal110 A159) H110 n xs
theorem S110:SC 110 (mkCal D110 A110):=snd110 _ S159
def A65:Fun:=fun n xs=>D65.run Tryz.prog env (cal65 A53 A54 A106 A107 A108 A109 A110) H65 n xs
theorem S65:SC 65 (mkCal D65 A65):=snd65 _ _ _ _ _ _ _ S53 S54 S106 S107 S108 S109 S110
def A66:Fun:=fun n xs=>D66.run Tryz.prog env cal66 H66 n xs
theorem S66:SC 66 (mkCal D66 A66):=snd66
def A68:Fun:=fun n xs=>D68.run Tryz.prog env cal68 H68 n xs
theorem S68:SC 68 (mkCal D68 A68):=snd68
def A67:Fun:=fun n xs=>D67.run Tryz.prog env (cal67 A63 A68 A111) H67 n xs
theorem S67:SC 67 (mkCal D67 A67):=snd67 _ _ _ S63 S68 S111
def A32:Fun:=fun n xs=>D32.run Tryz.prog env (cal32 A63 A64 A65 A66 A67) H32 n xs
theorem S32:SC 32 (mkCal D32 A32):=snd32 _ _ _ _ _ S63 S64 S65 S66 S67
def A33:Fun:=fun n xs=>D33.run Tryz.prog env (cal33 A68) H33 n xs
theorem S33:SC 33 (mkCal D33 A33):=snd33 _ S68
def A13:Fun:=fun n xs=>D13.run Tryz.prog env (cal13 A32 A33) H13 n xs
theorem S13:SC 13 (mkCal D13 A13):=snd13 _ _ S32 S33
def A38:Fun:=fun n xs=>D38.run Tryz.prog env cal38 H38 n xs
theorem S38:SC 38 (mkCal D38 A38):=snd38
def A74:Fun:=fun n xs=>D74.run Tryz.prog env cal74 H74 n xs
theorem S74:SC 74 (mkCal D74 A74):=snd74
def A73:Fun:=fun n xs=>D73.run Tryz.prog env (cal73 A74) H73 n xs
theorem S73:SC 73 (mkCal D73 A73):=snd73 _ S74
def A39:Fun:=fun n xs=>D39.run Tryz.prog env (cal39 A73 A74) H39 n xs
theorem S39:SC 39 (mkCal D39 A39):=snd39 _ _ S73 S74
def A18:Fun:=fun n xs=>D18.run Tryz.prog env cal18 H18 n xs
theorem S18:SC 18 (mkCal D18 A18):=snd18
def A114:Fun:=fun n xs=>D114.run Tryz.prog env (cal114 A18) H114 n xs
theorem S114:SC 114 (mkCal D114 A114):=snd114 _ S18
def A75:Fun:=fun n xs=>D75.run Tryz.prog env (cal75 A18 A114) H75 n xs
theorem S75:SC 75 (mkCal D75 A75):=snd75 _ _ S18 S114
def A40:Fun:=fun n xs=>D40.run Tryz.prog env (cal40 A18 A75) H40 n xs
theorem S40:SC 40 (mkCal D40 A40):=snd40 _ _ S18 S75
def A41:Fun:=fun n xs=>D41.run Tryz.prog env cal41 H41 n xs
theorem S41:SC 41 (mkCal D41 A41):=snd41
def A42:Fun:=fun n xs=>D42.run Tryz.prog env (cal42 A74) H42 n xs
theorem S42:SC 42 (mkCal D42 A42):=snd42 _ S74
def A43:Fun:=fun n xs=>D43.run Tryz.prog env (cal43 A73 A74) H43 n xs
theorem S43:SC 43 (mkCal D43 A43):=snd43 _ _ S73 S74
def A15:Fun:=fun n xs=>D15.run Tryz.prog env (cal15 A38 A39 A40 A41 A42 A43) H15 n xs
theorem S15:SC 15 (mkCal D15 A15):=snd15 _ _ _ _ _ _ S38 S39 S40 S41 S42 S43
def A17:Fun:=fun n xs=>D17.run Tryz.prog env cal17 H17 n xs
theorem S17:SC 17 (mkCal D17 A17):=snd17
def A125:Fun:=fun n xs=>D125.run Tryz.prog env cal125 H125 n xs
theorem S125:SC 125 (mkCal D125 A125):=snd125
def A126:Fun:=fun n xs=>D126.run Tryz.prog env cal126 H126 n xs
theorem S126:SC 126 (mkCal D126 A126):=snd126
theorem a126 (n:Nat) (x:List Int) (y:Int) (h1:0≤y) (h2:y<x.length):A126 n [.fs .u8 x,.int .i64 y]=some [.int .u8 (getI x y.toNat)]:=by
 show run126 n x y=_
 rw [eq126]
 have e1:decide (y<0)=false:=by simp; omega
 have e2:decide (y ≥ (Int.ofNat (List.length x)))=false:=by simp; omega
 rw [e1]
 show jn (jn (some (.inl [(.fs .u8 x),(.int .i64 y),(.bool (decide (y ≥ (Int.ofNat (List.length x)))))])) _) _=_
 rw [e2]
 show brO (inR y x.length) _ _=_
 have e3:inR y x.length=true:=by unfold inR; simp; omega
 rw [e3]
 rfl
def A83:Fun:=fun n xs=>D83.runR Tryz.prog env (cal83 A123 A125 A126) H83 (cloX (Tryz.f124.body.getD .skip)) 5 [6,7,8] n xs
theorem S83:SC 83 (mkCal D83 A83):=snd83 _ _ _ S123 S125 S126 sp125 sp126
def A84:Fun:=fun n xs=>D84.run Tryz.prog env (cal84 A127) H84 n xs
theorem S84:SC 84 (mkCal D84 A84):=snd84 _ S127
def A58:Fun:=fun n xs=>D58.run Tryz.prog env (cal58 A83 A84 A95 A96) H58 n xs
theorem S58:SC 58 (mkCal D58 A58):=snd58 _ _ _ _ S83 S84 S95 S96
def A98:Fun:=fun n xs=>D98.run Tryz.prog env (cal98 A84 A139) H98 n xs
theorem S98:SC 98 (mkCal D98 A98):=snd98 _ _ S84 S139
def A59:Fun:=fun n xs=>D59.run Tryz.prog env (cal59 A83 A97 A98) H59 n xs
theorem S59:SC 59 (mkCal D59 A59):=snd59 _ _ _ S83 S97 S98
def A99:Fun:=fun n xs=>D99.run Tryz.prog env (cal99 A142) H99 n xs
theorem S99:SC 99 (mkCal D99 A99):=snd99 _ S142
def A60:Fun:=fun n xs=>D60.run Tryz.prog env (cal60 A83 A97 A98 A99) H60 n xs
theorem S60:SC 60 (mkCal D60 A60):=snd60 _ _ _ _ S83 S97 S98 S99
def A26:Fun:=fun n xs=>D26.run Tryz.prog env (cal26 A54 A55 A56 A57 A58 A59 A60) H26 n xs
theorem S26:SC 26 (mkCal D26 A26):=snd26 _ _ _ _ _ _ _ S54 S55 S56 S57 S58 S59 S60
def A78:Fun:=fun n xs=>D78.run Tryz.prog env cal78 H78 n xs
theorem S78:SC 78 (mkCal D78 A78):=snd78
def A49:Fun:=fun n xs=>D49.run Tryz.prog env (cal49 A77 A78 A79) H49 n xs
theorem S49:SC 49 (mkCal D49 A49):=snd49 _ _ _ S77 S78 S79
def A50:Fun:=fun _ _=>none
theorem S50:SC 50 (mkCal D50 A50):=show SoundCal0 _ _ _ _ from ⟨⟨_,Tryz.func50,by kernel_rfl,by decide⟩,.inr rfl,fun _ _ _ h=>by cases h⟩
def A85:Fun:=fun n xs=>D85.run Tryz.prog env cal85 H85 n xs
theorem S85:SC 85 (mkCal D85 A85):=snd85
def A87:Fun:=fun n xs=>D87.run Tryz.prog env cal87 H87 n xs
theorem S87:SC 87 (mkCal D87 A87):=snd87
def A88:Fun:=fun n xs=>D88.run Tryz.prog env cal88 H88 n xs
theorem S88:SC 88 (mkCal D88 A88):=snd88
def A51:Fun:=fun n xs=>D51.run Tryz.prog env (cal51 A83 A84 A85 A86 A87 A88) H51 n xs
theorem S51:SC 51 (mkCal D51 A51):=snd51 _ _ _ _ _ _ S83 S84 S85 S86 S87 S88
def A52:Fun:=fun _ _=>none
theorem S52:SC 52 (mkCal D52 A52):=show SoundCal0 _ _ _ _ from ⟨⟨_,Tryz.func52,by kernel_rfl,by decide⟩,.inl rfl,fun _ _ _ h=>by cases h⟩
def A23:Fun:=fun n xs=>D23.run Tryz.prog env (cal23 A26 A49 A50 A51 A52) H23 n xs
theorem S23:SC 23 (mkCal D23 A23):=snd23 _ _ _ _ _ S26 S49 S50 S51 S52
def A30:Fun:=fun n xs=>D30.run Tryz.prog env cal30 H30 n xs
theorem S30:SC 30 (mkCal D30 A30):=snd30
def A44:Fun:=fun n xs=>D44.run Tryz.prog env cal44 H44 n xs
theorem S44:SC 44 (mkCal D44 A44):=snd44
def A76:Fun:=fun n xs=>D76.run Tryz.prog env cal76 H76 n xs
theorem S76:SC 76 (mkCal D76 A76):=snd76
def A45:Fun:=fun n xs=>D45.run Tryz.prog env (cal45 A17 A76) H45 n xs
theorem S45:SC 45 (mkCal D45 A45):=snd45 _ _ S17 S76
def A16:Fun:=fun n xs=>D16.run Tryz.prog env (cal16 A13 A15 A17 A18 A23 A30 A44 A45) H16 n xs
theorem S16:SC 16 (mkCal D16 A16):=snd16 _ _ _ _ _ _ _ _ S13 S15 S17 S18 S23 S30 S44 S45
def A3:Fun:=fun n xs=>D3.run Tryz.prog env (cal3 A13 A14 A15 A16 A17 A18) H3 n xs
theorem S3:SC 3 (mkCal D3 A3):=snd3 _ _ _ _ _ _ S13 S14 S15 S16 S17 S18
def A19:Fun:=fun n xs=>D19.run Tryz.prog env cal19 H19 n xs
theorem S19:SC 19 (mkCal D19 A19):=snd19
def A46:Fun:=fun n xs=>D46.run Tryz.prog env cal46 H46 n xs
theorem S46:SC 46 (mkCal D46 A46):=snd46
def A47:Fun:=fun n xs=>D47.run Tryz.prog env cal47 H47 n xs
theorem S47:SC 47 (mkCal D47 A47):=snd47
def A48:Fun:=fun n xs=>D48.run Tryz.prog env (cal48 A47) H48 n xs
theorem S48:SC 48 (mkCal D48 A48):=snd48 _ S47
def A20:Fun:=fun n xs=>D20.run Tryz.prog env (cal20 A46 A47 A48) H20 n xs
theorem S20:SC 20 (mkCal D20 A20):=snd20 _ _ _ S46 S47 S48
def A21:Fun:=fun n xs=>D21.run Tryz.prog env (cal21 A47 A48) H21 n xs
theorem S21:SC 21 (mkCal D21 A21):=snd21 _ _ S47 S48
def A4:Fun:=fun n xs=>D4.run Tryz.prog env (cal4 A13 A16 A17 A19 A20 A21) H4 n xs
theorem S4:SC 4 (mkCal D4 A4):=snd4 _ _ _ _ _ _ S13 S16 S17 S19 S20 S21
def A22:Fun:=fun n xs=>D22.run Tryz.prog env (cal22 A32) H22 n xs
end
end Go.Proofs.YtlmnjnhmhacgkaaGreatDoor.Am
end
