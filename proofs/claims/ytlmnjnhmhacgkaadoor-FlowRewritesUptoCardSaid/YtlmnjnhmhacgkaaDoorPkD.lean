/-
  The functions' runs, and the joining of parts.
-/
import Derived.Test.YtlmnjnhmhacgkaaDoorPkB
import Derived.KernelRfl
import Derived.Test.YtlmnjnhmhacgkaaDoorAmF
import Derived.Shelf.Bytes.SlJoin
import Derived.Test.YtlmnjnhmhacgkaaDoorProg
import Derived.Test.YtlmnjnhmhacgkaaDoorPkC
section
set_option linter.unusedVariables false
set_option maxRecDepth 100000
namespace Go.Proofs.YtlmnjnhmhacgkaaDoor.Am
open Go Go.Am Go.Proofs
theorem brO_t {R:Type} {b:Bool} {x y:Option R} (h:b=true):brO b x y=x:=by rw [h]; rfl
theorem brO_f {R:Type} {b:Bool} {x y:Option R} (h:b=false):brO b x y=y:=by rw [h]; rfl
theorem W_id {x:Int} (h : -9223372036854775808≤x) (h' : x<9223372036854775808):IntKind.wrap .i64 x=x:=by
 show (if (true && decide (x % 18446744073709551616 ≥ 9223372036854775808))=true then x % 18446744073709551616 - 18446744073709551616 else x % 18446744073709551616)=x
 by_cases hc:x % 18446744073709551616 ≥ 9223372036854775808
 ·rw [if_pos (by simpa using hc)]
  omega
 ·rw [if_neg (by simpa using hc)]
  omega
theorem W8 (x:Int):IntKind.wrap .u8 x=x % 256:=by simp [IntKind.wrap,IntKind.signed,IntKind.bits]
theorem W64 (x:Int):IntKind.wrap .u64 x=x % 18446744073709551616:=by simp [IntKind.wrap,IntKind.signed,IntKind.bits]
theorem wrap_id {x:Int} (h1:0≤x) (h2:x<2 ^ 62):IntKind.wrap .i64 x=x:=W_id (by omega) (by omega)
theorem wrap_u {x:Int} (h1:0≤x) (h2:x<2 ^ 64):IntKind.wrap .u64 x=x:=by rw [W64]; omega
end Go.Proofs.YtlmnjnhmhacgkaaDoor.Am
end
section
set_option linter.unusedVariables false
set_option maxRecDepth 100000
namespace Go.Proofs.YtlmnjnhmhacgkaaDoor.Am
open Go Go.Am Go.Proofs Go.Lib Go.RowKit
def fsOk:AV→Bool
 | .fs .u8 l=>l.all fun x=>decide (0≤x) && decide (x≤255)
 | _=>false
def G207:Fun:=fun _ xs=>match xs with
 | [.fv (.fs .u8) ps,.fs .u8 []]=>if 2≤ps.length∧ps.length≤140737488355328∧ps.all fsOk=true∧(ps.flatMap AV.toInts).length≤140737488355328 then some [.fs .u8 (ps.flatMap AV.toInts)] else none
 | _=>none
def bU8 (xs:List Int):List UInt8:=xs.map fun x=>UInt8.ofNat x.toNat
theorem bU8_nums {xs:List Int} (h:∀ x∈xs,0≤x∧x≤255):numsL (bU8 xs)=xs:=by
 unfold numsL bU8
 rw [List.map_map]
 conv=>rhs; rw [←List.map_id xs]
 apply List.map_congr_left
 intro x hx
 have:=h x hx
 show ((UInt8.ofNat x.toNat).toNat:Int)=x
 rw [UInt8.toNat_ofNat_of_lt' (by show x.toNat<256; omega)]
 omega
theorem fsOk_ok {a:AV} (h:fsOk a=true):∃ l,a=.fs .u8 l∧∀ x∈l,0≤x∧x≤255:=by
 unfold fsOk at h
 split at h
 ·rename_i l
  exact ⟨l,rfl,fun x hx=>by have:=List.all_eq_true.1 h x hx; simpa using this⟩
 ·cases h
theorem parts_at {w:World} {ok:Nat→Prop} {θ:Nm→Option Value}:∀ {ps:List AV} {cs:List Value},ps.all fsOk=true→CVs w ok θ ps cs→
  cs.length=ps.length∧∀ (i:Nat) v l,cs[i]? = some v→(ps.map fun a=>bU8 a.toInts)[i]? = some l→HoldsBytes w v l
 | [],cs,_,h=>by
  have h:cs=[]:=h
  subst h
  exact ⟨rfl,fun i v l hv=>by simp at hv⟩
 | a::ps,cs,hf,h=>by
  obtain ⟨v,rest,rfl,hw,hv,hr⟩:=h
  rw [List.all_cons,Bool.and_eq_true] at hf
  obtain ⟨l,rfl,hl⟩:=fsOk_ok hf.1
  obtain ⟨A,c,rfl,hlc,hc⟩:=hv
  obtain ⟨h1,h2⟩:=parts_at hf.2 hr
  have e:(Value.slice A l.length c).cells.toList=[Value.slice A l.length c]:=rfl
  rw [e]
  refine ⟨by simp [h1],fun i u m hu hm=>?_⟩
  cases i with
  | zero=>
   simp only [List.cons_append,List.nil_append,List.getElem?_cons_zero,Option.some.injEq,List.map_cons] at hu hm
   subst hu
   subst hm
   have hlen:(bU8 l).length=l.length:=by simp [bU8]
   refine ⟨A,c,by show _=Value.slice A (bU8 l).length c; rw [hlen],fun hA=>?_,fun a ha j x hx=>?_⟩
   ·match l,hc with
    | [],_=>rfl
    | y::l',hc=>
     obtain ⟨ad,h3,_⟩:=hc (by simp)
     rw [hA] at h3; cases h3
   ·have hj:j<l.length:=by
     have:=(List.getElem?_eq_some_iff.1 hx).1
     rw [←hlen]; exact this
    obtain ⟨ad,h3,_,h4⟩:=hc (by omega)
    rw [ha] at h3
    cases h3
    have h5:=h4 j (.int .u8 l[j]) (by unfold ints; simp [hj])
    rw [h5]
    have hx:(bU8 l)[j]? = some x:=hx
    have h6:(numsL (bU8 l))[j]? = l[j]?:=by rw [bU8_nums hl]
    unfold numsL at h6
    rw [List.getElem?_map,hx,List.getElem?_eq_getElem hj] at h6
    simp only [Option.map_some,Option.some.injEq] at h6
    rw [h6]
  | succ i=>
   simp only [List.cons_append,List.nil_append,List.getElem?_cons_succ,List.map_cons] at hu hm
   exact h2 i u m hu hm
theorem numsB (ys:List Int) (h:∀ y∈ys,0≤y∧y<256):numsL (bytesOf ys)=ys:=by
 unfold numsL bytesOf
 rw [List.map_map]
 conv=>rhs; rw [←List.map_id ys]
 apply List.map_congr_left
 intro y hy
 have:=h y hy
 have h2:y.toNat<256:=by omega
 simp [Nat.mod_eq_of_lt h2]
 omega
def ren207:Go.Shelf.Ren:=⟨fun | 14=>79 | 15=>86 | n=>n,fun | 22=>31 | 26=>133 | n=>n,fun n=>n⟩
theorem lay207:SlLaysJ.n14 Tryd.prog ren207:={
 mixed:=by kernel_rfl
 f14:=Tryd.func79.trans (congrArg some (by kernel_rfl))
 f15:=Tryd.func86.trans (congrArg some (by kernel_rfl))
 t0:=Tryd.underlying0
 a0:=Tryd.isAgg0
 z0:=Tryd.sizeOf0
 v0:=Tryd.zeroValue0
 t3:=Tryd.underlying3
 a3:=Tryd.isAgg3
 z3:=Tryd.sizeOf3
 v3:=Tryd.zeroValue3
 t4:=Tryd.underlying4
 a4:=Tryd.isAgg4
 z4:=Tryd.sizeOf4
 v4:=Tryd.zeroValue4
 t9:=Tryd.underlying9
 a9:=Tryd.isAgg9
 z9:=Tryd.sizeOf9
 v9:=Tryd.zeroValue9
 t20:=Tryd.underlying20
 a20:=Tryd.isAgg20
 z20:=Tryd.sizeOf20
 v20:=Tryd.zeroValue20
 t22:=Tryd.underlying31
 a22:=Tryd.isAgg31
 z22:=Tryd.sizeOf31
 v22:=Tryd.zeroValue31
 t26:=Tryd.underlying133
 a26:=Tryd.isAgg133
 z26:=Tryd.sizeOf133
 v26:=Tryd.zeroValue133
 t5:=Tryd.underlying5
 z5:=Tryd.sizeOf5
 i5:=by kernel_rfl }
theorem flat_nums {ps:List AV} (h:ps.all fsOk=true):numsL ((ps.map fun a=>bU8 a.toInts).flatten)=ps.flatMap AV.toInts:=by
 induction ps with
 | nil=>rfl
 | cons a ps ih=>
  rw [List.all_cons,Bool.and_eq_true] at h
  obtain ⟨l,rfl,hl⟩:=fsOk_ok h.1
  have e:∀ a b:List UInt8,numsL (a++b)=numsL a++numsL b:=fun a b=>by unfold numsL; rw [List.map_append]
  rw [List.map_cons,List.flatten_cons,e,ih h.2,List.flatMap_cons]
  show numsL (bU8 l)++_=_
  rw [bU8_nums hl]
  rfl
theorem lens_flat (ls:List (List UInt8)):lens ls=ls.flatten.length:=by
 unfold lens
 rw [List.length_flatten]
theorem join_flat (ls:List (List UInt8)):join ls []=ls.flatten:=by
 cases ls with
 | nil=>rfl
 | cons x r=>
  rw [join_cons]
  unfold joinTail
  simp
theorem sG207:SoundCal Tryd.prog env 79 (mkCal D207 G207):=by
 show SoundCal0 Tryd.prog env 79 (mkCal D207 G207)
 refine ⟨⟨_,Tryd.func79,by kernel_rfl,by decide⟩,.inr rfl,fun n xs r hF C args θ0 hE hI hH hA hG=>?_⟩
 have hF:G207 n xs=some r:=hF
 unfold G207 at hF
 split at hF
 ·rename_i ps _
  split at hF
  ·rename_i hc
   obtain ⟨g1,g2,g3,g4⟩:=hc
   injection hF with hF
   subst hF
   obtain ⟨v0,rest0,e0,hv0,hr0⟩:=hA
   obtain ⟨v1,rest1,e1,hv1,hr1⟩:=hr0
   have hr1:rest1=[]:=hr1
   subst hr1 e1
   obtain ⟨A,c,cs,rfl,hcap,hwt,hcs,hcell⟩:=hv0
   obtain ⟨A1,c1,rfl,hcap1,_⟩:=hv1
   obtain ⟨ad,rfl,hok,hat⟩:=hcell (by omega)
   obtain ⟨p1,p2⟩:=parts_at g3 hcs
   have hspot:ad.spot=none:=by
    obtain ⟨u,hu⟩ : ∃ u,cs[0]? = some u:=⟨cs[0],List.getElem?_eq_getElem (by omega)⟩
    have h:=hat 0 u hu
    cases hs:ad.spot with
    | none=>rfl
    | some s=>
     have ea:ad.add 0=ad:=by unfold Addr.add; rw [if_pos rfl]
     rw [ea] at h
     unfold World.cell? at h
     rw [hs] at h
     split at h
     ·simp at h
     ·cases h
   obtain ⟨b,o,sp⟩:=ad
   have hspot:sp=none:=hspot
   subst hspot
   have hargs:args = #[.slice (some ⟨b,o,none⟩) ps.length c,.slice A1 0 c1]:=by
    cases args; simp_all
   subst hargs
   have hJ:=Any.bytes_Join_many lay207 b o ps.length c cs (ps.map fun a=>bU8 a.toInts) (.slice A1 0 c1) [] C.w0 (by simp) g1
    ⟨by simp [p1],hat,p2⟩ hcap ⟨A1,c1,rfl,fun _=>rfl,fun a _ i x hx=>by simp at hx⟩ g2
    (by
     have:=flat_nums g3
     have hl:=congrArg List.length this
     rw [numsL_length] at hl
     rw [lens_flat,hl]
     show _+0 * _≤_
     omega)
   have hJ:Calls Tryd.prog 79 _ _ _:=hJ
   refine hJ.mono fun e w' h=>?_
   obtain ⟨v',rfl,hfr,hb⟩:=h
   refine ⟨v',θ0,rfl,fun _ _ h=>h,?_⟩
   rw [join_flat] at hfr
   obtain ⟨g,cap,zs,rfl,hg,hlc,hmx,hzl,hzr,hzb,hzc,_⟩:=hfr
   have hlen:((ps.map fun a=>bU8 a.toInts).flatten).length=(ps.flatMap AV.toInts).length:=by
    have hl:=congrArg List.length (flat_nums g3)
    rw [numsL_length] at hl
    exact hl
   have hzt:zs.take ((ps.map fun a=>bU8 a.toInts).flatten).length=ps.flatMap AV.toInts:=by
    have:=numsB _ (fun y hy=>hzr y (List.mem_of_mem_take (i:=((ps.map fun a=>bU8 a.toInts).flatten).length) hy))
    rw [hzb,flat_nums g3] at this
    exact this.symm
   have hS:(mkCal D207 G207).hq ((mkCal D207 G207).full [.fv (.fs .u8) ps,.fs .u8 []] [.fs .u8 (ps.flatMap AV.toInts)])=(mkCal D207 G207).hp [.fv (.fs .u8) ps,.fs .u8 []]:=rfl
   rw [hS]
   have hno:∀ d,((mkCal D207 G207).hp [.fv (.fs .u8) ps,.fs .u8 []]).obj d=none:=fun d=>by cases d <;> rfl
   have hOwn:∀ b,¬ OwnB ((mkCal D207 G207).hp [.fv (.fs .u8) ps,.fs .u8 []]) θ0 b:=fun b ⟨d,o,v,h1,_⟩=>by rw [hno] at h1; cases h1
   refine ⟨rfl,[_],.inl ⟨rfl,rfl⟩,?_⟩
   show HRel _ _ _ _ _∧CVt _ _ _ _ _∧_
   refine ⟨⟨fun d ob _ ho=>(by rw [hno] at ho; cases ho),hH.fresh,fun d d' ob ob' v v' bb h1=>(by rw [hno] at h1; cases h1),hb.os.trans hH.os,hb.tape.trans hH.tape,⟨hb.output.trans hH.output.1,.inr trivial⟩,Nat.le_trans hH.size hb.size,fun bb hbb hIb=>?_,hH.base⟩,?_,?_⟩
   ·rw [hb.block bb hbb]
   ·refine ⟨_,[],rfl,?_,rfl⟩
    show CV _ _ _ (.fs .u8 (ps.flatMap AV.toInts)) _
    refine ⟨some ⟨g,0,none⟩,cap,by rw [hlen],by omega,fun hpos=>⟨⟨g,0,none⟩,rfl,⟨?_,fun hf=>?_,hOwn g,by simp,fun _=>hg⟩,fun j u hu=>?_⟩⟩
    ·have:=hzc 0 (by omega)
     unfold World.cell? at this
     rcases Nat.lt_or_ge g w'.heap.size with h | h
     ·exact h
     ·rw [Array.getElem?_eq_none h] at this; cases this
    ·have:=C.fb g hf; omega
    ·have hj:j<(ps.flatMap AV.toInts).length:=by
      have:=(List.getElem?_eq_some_iff.1 hu).1
      unfold ints at this
      simpa using this
     have h1:=hzc j (by omega)
     have ea:(⟨g,0,none⟩ : Addr).add j=⟨g,j,none⟩:=by rw [Lib.add_plain2]; simp
     rw [ea,h1]
     unfold ints at hu
     rw [List.getElem?_map] at hu
     have h2:(ps.flatMap AV.toInts)[j]? = some (zs.getD j 0):=by
      rw [←hzt,List.getElem?_take_of_lt (by omega)]
      have:j<zs.length:=by omega
      simp [List.getD_eq_getElem?_getD,this]
     rw [h2] at hu
     exact hu
   ·intro a ha
    have ha:a∈[AV.fs .u8 (ps.flatMap AV.toInts)]:=ha
    rw [List.mem_singleton.1 ha]
    exact ⟨.fs .u8,⟨_,rfl⟩,rfl⟩
  ·cases hF
 ·cases hF
end Go.Proofs.YtlmnjnhmhacgkaaDoor.Am
end
section
set_option linter.unusedVariables false
set_option maxRecDepth 100000
namespace Go.Proofs.YtlmnjnhmhacgkaaDoor.Am
open Go Go.Am Go.Proofs
noncomputable section
def A904:Fun:=fun n xs=>D904.run Tryd.prog env cal904 H904 n xs
theorem S904:SC 4 (mkCal D904 A904):=snd904
def A55:Fun:=fun n xs=>D55.run Tryd.prog env cal55 H55 n xs
theorem S55:SC 13 (mkCal D55 A55):=snd55
def A61:Fun:=fun n xs=>D61.run Tryd.prog env cal61 H61 n xs
theorem S61:SC 14 (mkCal D61 A61):=snd61
def A27:Fun:=fun n xs=>D27.run Tryd.prog env (cal27 A55 A61) H27 n xs
theorem S27:SC 7 (mkCal D27 A27):=snd27 _ _ S55 S61
def A77:Fun:=fun n xs=>D77.run Tryd.prog env cal77 H77 n xs
theorem S77:SC 35 (mkCal D77 A77):=snd77
def A79:Fun:=fun n xs=>D79.run Tryd.prog env cal79 H79 n xs
theorem S79:SC 36 (mkCal D79 A79):=snd79
def A63:Fun:=fun n xs=>D63.run Tryd.prog env (cal63 A77 A79) H63 n xs
theorem S63:SC 25 (mkCal D63 A63):=snd63 _ _ S77 S79
def A34:Fun:=fun n xs=>D34.run Tryd.prog env cal34 H34 n xs
theorem S34:SC 17 (mkCal D34 A34):=snd34
def A70:Fun:=fun n xs=>D70.run Tryd.prog env cal70 H70 n xs
theorem S70:SC 31 (mkCal D70 A70):=snd70
def A113:Fun:=fun n xs=>D113.run Tryd.prog env (cal113 A70) H113 n xs
theorem S113:SC 48 (mkCal D113 A113):=snd113 _ S70
def A112:Fun:=fun n xs=>D112.run Tryd.prog env (cal112 A113) H112 n xs
theorem S112:SC 47 (mkCal D112 A112):=snd112 _ S113
def A69:Fun:=fun n xs=>D69.run Tryd.prog env (cal69 A112) H69 n xs
theorem S69:SC 30 (mkCal D69 A69):=snd69 _ S112
def A35:Fun:=fun n xs=>D35.run Tryd.prog env (cal35 A69 A70) H35 n xs
theorem S35:SC 18 (mkCal D35 A35):=snd35 _ _ S69 S70
def A72:Fun:=fun n xs=>D72.run Tryd.prog env (cal72 A69 A70) H72 n xs
theorem S72:SC 33 (mkCal D72 A72):=snd72 _ _ S69 S70
def A71:Fun:=fun n xs=>D71.run Tryd.prog env (cal71 A72) H71 n xs
theorem S71:SC 32 (mkCal D71 A71):=snd71 _ S72
def A36:Fun:=fun n xs=>D36.run Tryd.prog env (cal36 A70 A71) H36 n xs
theorem S36:SC 19 (mkCal D36 A36):=snd36 _ _ S70 S71
def A37:Fun:=fun n xs=>D37.run Tryd.prog env (cal37 A69 A70) H37 n xs
theorem S37:SC 20 (mkCal D37 A37):=snd37 _ _ S69 S70
def A14:Fun:=fun n xs=>D14.run Tryd.prog env (cal14 A34 A35 A36 A37) H14 n xs
theorem S14:SC 10 (mkCal D14 A14):=snd14 _ _ _ _ S34 S35 S36 S37
def A94:Fun:=fun n xs=>D94.run Tryd.prog env cal94 H94 n xs
theorem S94:SC 49 (mkCal D94 A94):=snd94
def A57:Fun:=fun n xs=>D57.run Tryd.prog env (cal57 A55 A94) H57 n xs
theorem S57:SC 37 (mkCal D57 A57):=snd57 _ _ S55 S94
def A56:Fun:=fun n xs=>D56.run Tryd.prog env cal56 H56 n xs
theorem S56:SC 38 (mkCal D56 A56):=snd56
def A64:Fun:=fun n xs=>D64.run Tryd.prog env (cal64 A14 A55 A56 A57) H64 n xs
theorem S64:SC 26 (mkCal D64 A64):=snd64 _ _ _ _ S14 S55 S57 S56
def A111:Fun:=fun n xs=>rowRun Tryd.prog env cal111 H111 (Tryd.f46.body.getD .skip) 13 4 5 .u8 n xs
theorem S111:SC 46 (rowCal A111 5 .u8 31):=snd111
def A82:Fun:=fun n xs=>D82.run Tryd.prog env (cal82 A77) H82 n xs
theorem S82:SC 50 (mkCal D82 A82):=snd82 _ S77
def A81:Fun:=fun n xs=>D81.run Tryd.prog env cal81 H81 n xs
theorem S81:SC 51 (mkCal D81 A81):=snd81
def A106:Fun:=fun n xs=>D106.run Tryd.prog env (cal106 A81 A82 A111) H106 n xs
theorem S106:SC 39 (mkCal D106 A106):=snd106 _ _ _ S111 S82 S81
def A157:Fun:=fun n xs=>D157.run Tryd.prog env cal157 H157 n xs
theorem S157:SC 60 (mkCal D157 A157):=snd157
def A202:Fun:=fun n xs=>D202.run Tryd.prog env cal202 H202 n xs
theorem S202:SC 65 (mkCal D202 A202):=snd202
def A203:Fun:=fun n xs=>D203.run Tryd.prog env cal203 H203 n xs
theorem S203:SC 66 (mkCal D203 A203):=snd203
def A86:Fun:=fun n xs=>D86.run Tryd.prog env cal86 H86 n xs
theorem S86:SC 67 (mkCal D86 A86):=snd86
def A155:Fun:=fun n xs=>D155.run Tryd.prog env (cal155 A86 A157 A202 A203) H155 n xs
theorem S155:SC 52 (mkCal D155 A155):=snd155 _ _ _ _ S157 S202 S203 S86
def A123:Fun:=fun n xs=>D123.run Tryd.prog env cal123 H123 n xs
theorem S123:SC 74 (mkCal D123 A123):=snd123
def A136:Fun:=fun n xs=>D136.run Tryd.prog env (cal136 A123) H136 n xs
theorem S136:SC 61 (mkCal D136 A136):=snd136 _ S123
def A269:Fun:=fun n xs=>D269.run Tryd.prog env cal269 H269 n xs
theorem S269:SC 34 (mkCal D269 A269):=snd269
def A244:Fun:=fun n xs=>D244.run Tryd.prog env (cal244 A269) H244 n xs
theorem S244:SC 21 (mkCal D244 A244):=snd244 _ S269
def A204:Fun:=fun n xs=>D204.run Tryd.prog env (cal204 A244) H204 n xs
theorem S204:SC 76 (mkCal D204 A204):=snd204 _ S244
def A130:Fun:=fun n xs=>D130.run Tryd.prog env cal130 H130 n xs
theorem S130:SC 84 (mkCal D130 A130):=snd130
def A285:Fun:=fun n xs=>rowRun Tryd.prog env cal285 H285 (Tryd.f88.body.getD .skip) 28 4 5 .u8 n xs
theorem S285:SC 88 (rowCal A285 5 .u8 31):=snd285
def A270:Fun:=fun n xs=>D270.run Tryd.prog env (cal270 A285) H270 n xs
theorem S270:SC 87 (mkCal D270 A270):=snd270 _ S285
def A245:Fun:=fun n xs=>D245.run Tryd.prog env (cal245 A130 A270) H245 n xs
theorem S245:SC 83 (mkCal D245 A245):=snd245 _ _ S130 S270
def A205:Fun:=fun n xs=>D205.run Tryd.prog env (cal205 A245) H205 n xs
theorem S205:SC 77 (mkCal D205 A205):=snd205 _ S245
def A180:Fun:=fun n xs=>D180.run Tryd.prog env cal180 H180 n xs
theorem S180:SC 85 (mkCal D180 A180):=snd180
def A206:Fun:=fun n xs=>D206.run Tryd.prog env (cal206 A130 A180) H206 n xs
theorem S206:SC 78 (mkCal D206 A206):=snd206 _ _ S130 S180
def A207:Fun:=G207
theorem S207:SC 79 (mkCal D207 A207):=sG207
def A159:Fun:=fun n xs=>D159.run Tryd.prog env (cal159 A136 A204 A205 A206 A207) H159 n xs
theorem S159:SC 64 (mkCal D159 A159):=snd159 _ _ _ _ _ S136 S204 S205 S206 S207
def A156:Fun:=fun n xs=>D156.run Tryd.prog env (cal156 A159) H156 n xs
theorem S156:SC 53 (mkCal D156 A156):=snd156 _ S159
def A107:Fun:=fun n xs=>D107.run Tryd.prog env (cal107 A155 A156) H107 n xs
theorem S107:SC 40 (mkCal D107 A107):=snd107 _ _ S155 S156
def A135:Fun:=fun n xs=>D135.run Tryd.prog env cal135 H135 n xs
theorem S135:SC 54 (mkCal D135 A135):=snd135
def A183:Fun:=fun n xs=>D183.run Tryd.prog env cal183 H183 n xs
theorem S183:SC 68 (mkCal D183 A183):=snd183
def A138:Fun:=fun n xs=>D138.run Tryd.prog env (cal138 A183) H138 n xs
theorem S138:SC 55 (mkCal D138 A138):=snd138 _ S183
def A142:Fun:=fun n xs=>D142.run Tryd.prog env cal142 H142 n xs
theorem S142:SC 80 (mkCal D142 A142):=snd142
def A141:Fun:=fun n xs=>D141.run Tryd.prog env (cal141 A142) H141 n xs
theorem S141:SC 69 (mkCal D141 A141):=snd141 _ S142
def A140:Fun:=fun n xs=>D140.run Tryd.prog env (cal140 A141 A183) H140 n xs
theorem S140:SC 56 (mkCal D140 A140):=snd140 _ _ S183 S141
def A108:Fun:=fun n xs=>D108.run Tryd.prog env (cal108 A55 A135 A138 A140) H108 n xs
theorem S108:SC 41 (mkCal D108 A108):=snd108 _ _ _ _ S55 S135 S138 S140
def A178:Fun:=fun n xs=>D178.run Tryd.prog env cal178 H178 n xs
theorem S178:SC 82 (mkCal D178 A178):=snd178
def A127:Fun:=fun n xs=>D127.run Tryd.prog env (cal127 A178) H127 n xs
theorem S127:SC 75 (mkCal D127 A127):=snd127 _ S178
def A137:Fun:=fun n xs=>D137.run Tryd.prog env (cal137 A127) H137 n xs
theorem S137:SC 63 (mkCal D137 A137):=snd137 _ S127
def A184:Fun:=fun n xs=>D184.run Tryd.prog env cal184 H184 n xs
theorem S184:SC 81 (mkCal D184 A184):=snd184
def A139:Fun:=fun n xs=>D139.run Tryd.prog env (cal139 A184) H139 n xs
theorem S139:SC 73 (mkCal D139 A139):=snd139 _ S184
def A95:Fun:=fun n xs=>D95.run Tryd.prog env (cal95 A139) H95 n xs
theorem S95:SC 70 (mkCal D95 A95):=snd95 _ S139
def A96:Fun:=fun n xs=>D96.run Tryd.prog env cal96 H96 n xs
theorem S96:SC 71 (mkCal D96 A96):=snd96
def A91:Fun:=fun n xs=>D91.run Tryd.prog env (cal91 A95 A96 A135 A136 A137) H91 n xs
theorem S91:SC 57 (mkCal D91 A91):=snd91 _ _ _ _ _ S135 S136 S137 S95 S96
def A97:Fun:=fun n xs=>D97.run Tryd.prog env (cal97 A139) H97 n xs
theorem S97:SC 72 (mkCal D97 A97):=snd97 _ S139
def A92:Fun:=fun n xs=>D92.run Tryd.prog env (cal92 A97 A136 A137 A138 A139) H92 n xs
theorem S92:SC 58 (mkCal D92 A92):=snd92 _ _ _ _ _ S138 S136 S137 S97 S139
def A93:Fun:=fun n xs=>D93.run Tryd.prog env (cal93 A97 A136 A137 A139 A140 A141) H93 n xs
theorem S93:SC 59 (mkCal D93 A93):=snd93 _ _ _ _ _ _ S140 S136 S137 S141 S97 S139
def A53:Fun:=fun n xs=>D53.run Tryd.prog env (cal53 A55 A56 A91 A92 A93) H53 n xs
theorem S53:SC 42 (mkCal D53 A53):=snd53 _ _ _ _ _ S55 S56 S91 S92 S93
def A54:Fun:=fun n xs=>D54.run Tryd.prog env cal54 H54 n xs
theorem S54:SC 43 (mkCal D54 A54):=snd54
def A158:Fun:=fun n xs=>D158.run Tryd.prog env cal158 H158 n xs
theorem S158:SC 62 (mkCal D158 A158):=snd158
def A109:Fun:=fun n xs=>D109.run Tryd.prog env (cal109 A136 A137 A155 A157 A158) H109 n xs
theorem S109:SC 44 (mkCal D109 A109):=snd109 _ _ _ _ _ S155 S157 S136 S158 S137
def A110:Fun:=fun n xs=>D110.run Tryd.prog env (cal110 A159) H110 n xs
theorem S110:SC 45 (mkCal D110 A110):=snd110 _ S159
def A65:Fun:=fun n xs=>D65.run Tryd.prog env (cal65 A53 A54 A106 A107 A108 A109 A110) H65 n xs
theorem S65:SC 27 (mkCal D65 A65):=snd65 _ _ _ _ _ _ _ S106 S107 S108 S53 S54 S109 S110
def A66:Fun:=fun n xs=>D66.run Tryd.prog env cal66 H66 n xs
theorem S66:SC 28 (mkCal D66 A66):=snd66
def A68:Fun:=fun n xs=>D68.run Tryd.prog env cal68 H68 n xs
theorem S68:SC 24 (mkCal D68 A68):=snd68
def A68v:Fun:=fun n xs=>D68v.run Tryd.prog env cal68 H68 n xs
theorem S68v:SC 24 (mkCal D68v A68v):=snd68v
def A67:Fun:=fun n xs=>D67.run Tryd.prog env (cal67 A63 A68 A111) H67 n xs
theorem S67:SC 29 (mkCal D67 A67):=snd67 _ _ _ S68 S63 S111
def A32:Fun:=fun n xs=>D32.run Tryd.prog env (cal32 A63 A64 A65 A66 A67) H32 n xs
theorem S32:SC 15 (mkCal D32 A32):=snd32 _ _ _ _ _ S63 S64 S65 S66 S67
def A22:Fun:=fun n xs=>D22.run Tryd.prog env (cal22 A32) H22 n xs
theorem S22:SC 8 (mkCal D22 A22):=snd22 _ S32
def A911:Fun:=fun n xs=>D911.run Tryd.prog env (cal911 A244) H911 n xs
theorem S911:SC 11 (mkCal D911 A911):=snd911 _ S244
def A922:Fun:=fun n xs=>D922.run Tryd.prog env cal922 H922 n xs
theorem S922:SC 22 (mkCal D922 A922):=snd922
def A923:Fun:=fun n xs=>D923.run Tryd.prog env (cal923 A68) H923 n xs
theorem S923:SC 23 (mkCal D923 A923):=snd923 _ S68
def A912:Fun:=fun n xs=>D912.run Tryd.prog env (cal912 A68v A922 A923) H912 n xs
theorem S912:SC 12 (mkCal D912 A912):=snd912 _ _ _ S922 S923 S68v
def A905:Fun:=fun n xs=>D905.run Tryd.prog env (cal905 A22 A27 A911 A912) H905 n xs
theorem S905:SC 5 (mkCal D905 A905):=snd905 _ _ _ _ S27 S22 S911 S912
def A906:Fun:=fun n xs=>D906.run Tryd.prog env (cal906 A904) H906 n xs
theorem S906:SC 6 (mkCal D906 A906):=snd906 _ S904
def A276:Fun:=fun n xs=>D276.run Tryd.prog env cal276 H276 n xs
theorem S276:SC 16 (mkCal D276 A276):=snd276
def A909:Fun:=fun n xs=>D909.run Tryd.prog env (cal909 A276) H909 n xs
theorem S909:SC 9 (mkCal D909 A909):=snd909 _ S276
def A903:Fun:=fun n xs=>D903.run Tryd.prog env (cal903 A14 A22 A27 A904 A905 A906 A909) H903 n xs
theorem S903:SC 3 (mkCal D903 A903):=snd903 _ _ _ _ _ _ _ S904 S905 S906 S27 S22 S909 S14
end
end Go.Proofs.YtlmnjnhmhacgkaaDoor.Am
end
