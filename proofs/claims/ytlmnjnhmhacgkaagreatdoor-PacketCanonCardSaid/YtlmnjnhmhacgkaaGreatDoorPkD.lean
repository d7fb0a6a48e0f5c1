/-
  The functions' runs, and the joining of parts.
-/
import Derived.Test.YtlmnjnhmhacgkaaGreatDoorPkB
import Derived.KernelRfl
import Derived.Test.YtlmnjnhmhacgkaaGreatDoorAmF
import Derived.Shelf.Bytes.SlJoin
import Derived.Test.YtlmnjnhmhacgkaaGreatDoorProg
import Derived.Test.YtlmnjnhmhacgkaaGreatDoorPkC
section
set_option linter.unusedVariables false
set_option maxRecDepth 100000
namespace Go.Proofs.YtlmnjnhmhacgkaaGreatDoor.Am
open Go Go.Am Go.Proofs
theorem WX (n:Nat) (x0:List Int) (x1:Int):iZ n x0 x1 =
 jn
  (jn
   (brO (decide (x1<0))
    (inl (some [(.fs .u8 x0),(.int .i64 x1),(.bool true)]))
    (inl (some [(.fs .u8 x0),(.int .i64 x1),(.bool (decide (x1 >= (Int.ofNat (List.length x0)))))]))) fun d0=>
  brO (AV.toBool (getE d0 2))
   (inr (some (Unit.unit)))
   (inl (some [(.fs .u8 (AV.qq (getE d0 0))),(.int .i64 (AV.toInt (getE d0 1)))]))) fun d1=>
 brO (inR (AV.toInt (getE d1 1)) (List.length (AV.qq (getE d1 0))))
  (none)
  (none):=by kernel_rfl
theorem Vq (F126:Fun) (n:Nat) (x0:List Int) (x1:Int) (x2:Int):eg F126 n x0 x1 x2 =
 jn
  (jn
   (brO (decide (x1<0))
    (inl (some [(.fs .u8 x0),(.int .i64 x1),(.int .i64 x2),(.bool true)]))
    (inl (some [(.fs .u8 x0),(.int .i64 x1),(.int .i64 x2),(.bool (decide (x1 >(Int.ofNat (List.length x0)))))]))) fun d0=>
  brO (AV.toBool (getE d0 3))
   (inr (some (Unit.unit)))
   (inl (some [(.fs .u8 (AV.qq (getE d0 0))),(.int .i64 (AV.toInt (getE d0 1))),(.int .i64 (AV.toInt (getE d0 2)))]))) fun d1=>
 jn
  (iter (fun d2 k3=>
   brO (decide ((AV.toInt (getE d2 4))<(AV.toInt (getE d2 3))))
    (let v6:Int:=(IntKind.wrap .i64 ((AV.toInt (getE d2 1))+(AV.toInt (getE d2 4))))
    brO ((decide (v6<0)) || (decide (v6 >= (Int.ofNat (List.length (AV.qq (getE d2 0)))))))
     (inr (some (Unit.unit)))
     (((F126 n [(.fs .u8 (AV.qq (getE d2 0))),(.int .i64 v6)])).bind fun r4=>
     brO (Nat.beq (List.length r4) 1)
      ((k3 [(.fs .u8 (AV.qq (getE d2 0))),(.int .i64 (AV.toInt (getE d2 1))),(.int .u64 (IntKind.wrap .u64 (Int.ofNat (BitVec.toNat ((BitVec.ofInt 64 (IntKind.wrap .u64 ((AV.toInt (getE d2 2)) * (Int.ofNat (2 ^ (Min.min (Int.toNat 8) (IntKind.bits .u64))))))) ||| (BitVec.ofInt 64 (IntKind.wrap .u64 (AV.toInt (getE r4 0))))))))),(.int .i64 (AV.toInt (getE d2 3))),(.int .i64 (IntKind.wrap .i64 ((AV.toInt (getE d2 4))+1)))]))
      (none)))
    (inl (some [(.int .u64 (AV.toInt (getE d2 2)))]))) n [(.fs .u8 (AV.qq (getE d1 0))),(.int .i64 (AV.toInt (getE d1 1))),(.int .u64 0),(.int .i64 (AV.toInt (getE d1 2))),(.int .i64 0)]) fun d5=>
 none:=by kernel_rfl
theorem Vi (n:Nat) (x0:List Int) (x1:Int) (x2:Int):em n x0 x1 x2 =
 jn
  (jn
   (brO (decide (x1<0))
    (inl (some [(.fs .u8 x0),(.int .i64 x1),(.int .i64 x2),(.bool true)]))
    (brO (decide (x1 >(Int.ofNat (List.length x0))))
     (inl (some [(.fs .u8 x0),(.int .i64 x1),(.int .i64 x2),(.bool true)]))
     (inl (let v2:Int:=(IntKind.wrap .i64 ((Int.ofNat (List.length x0)) - x1))
     some [(.fs .u8 x0),(.int .i64 x1),(.int .i64 x2),(.bool (decide (x2 > v2)))])))) fun d0=>
  brO (AV.toBool (getE d0 3))
   (inr (some (Unit.unit)))
   (inl (some [(.fs .u8 (AV.qq (getE d0 0))),(.int .i64 (AV.toInt (getE d0 1))),(.int .i64 (AV.toInt (getE d0 2)))]))) fun d1=>
 let v3:Int:=(IntKind.wrap .i64 ((AV.toInt (getE d1 1))+(AV.toInt (getE d1 2))))
 brO ((decide (0<=(AV.toInt (getE d1 1)))) && ((decide ((AV.toInt (getE d1 1))<=v3)) && ((decide (v3<=v3)) && (decide (v3<=(Int.ofNat (List.length (AV.qq (getE d1 0)))))))))
  (none)
  (none):=by kernel_rfl
theorem WD (F80:Fun) (n:Nat) (x0:List Int) (x1:Int):iu F80 n x0 x1 =
 ((F80 n [(.fs .u8 x0),(.int .i64 (IntKind.wrap .i64 (x1+1))),(.int .i64 1)])).bind fun r0=>
 brO (Nat.beq (List.length r0) 2)
  (jn
   (jn
    (brO ((AV.toInt (getE r0 1)) != 0)
     (inl (some [(.int .u64 (AV.toInt (getE r0 0))),(.bool true)]))
     (inl (let v3:Int:=(IntKind.wrap .i64 ((IntKind.wrap .i64 (x1+2))+(IntKind.wrap .i64 (AV.toInt (getE r0 0)))))
     some [(.int .u64 (AV.toInt (getE r0 0))),(.bool (decide (v3 >(Int.ofNat (List.length x0)))))]))) fun d1=>
   brO (AV.toBool (getE d1 1))
    (inr (some (Unit.unit)))
    (inl (some [(.int .u64 (AV.toInt (getE d1 0)))]))) fun d2=>
  none)
  (none):=by kernel_rfl
theorem qp {R:Type} {b:Bool} {x y:Option R} (h:b=true):brO b x y=x:=by rw [h]; rfl
theorem qi {R:Type} {b:Bool} {x y:Option R} (h:b=false):brO b x y=y:=by rw [h]; rfl
theorem Zp {x:Int} (h : -9223372036854775808<=x) (h' : x<9223372036854775808):IntKind.wrap .i64 x=x:=by
 show (if (true && decide (x % 18446744073709551616 >= 9223372036854775808))=true then x % 18446744073709551616 - 18446744073709551616 else x % 18446744073709551616)=x
 by_cases hc:x % 18446744073709551616 >= 9223372036854775808
 ·rw [if_pos (by simpa using hc)];omega
 ·rw [if_neg (by simpa using hc)];omega
theorem W8 (x:Int):IntKind.wrap .u8 x=x % 256:=by simp [IntKind.wrap,IntKind.signed,IntKind.bits]
theorem W64 (x:Int):IntKind.wrap .u64 x=x % 18446744073709551616:=by simp [IntKind.wrap,IntKind.signed,IntKind.bits]
theorem qv {x:Int} (h1:0<=x) (h2:x<2 ^ 62):IntKind.wrap .i64 x=x:=Zp (by omega) (by omega)
theorem kA {x:Int} (h1:0<=x) (h2:x<2 ^ 64):IntKind.wrap .u64 x=x:=by rw [W64]; omega
theorem Wo {e:IntKind} {a:AV} (h:WT (.fs e) a):∃ l,a=.fs e l:=h
theorem sf {e:IntKind} {a:AV} (h:WT (.int e) a):∃ l,a=.int e l:=h
theorem wt2 {xs:List AV} (h:WTl [.fs .u8,.int .i64] xs):∃ x y,xs=[.fs .u8 x,.int .i64 y]:=by
 obtain ⟨a,r,rfl,h1,b,r',rfl,h2,h3⟩:=h
 cases h3
 obtain ⟨x,rfl⟩:=Wo h1;obtain ⟨y,rfl⟩:=sf h2;exact ⟨x,y,rfl⟩
theorem wt3 {xs:List AV} (h:WTl [.fs .u8,.int .i64,.int .i64] xs):∃ x y z,xs=[.fs .u8 x,.int .i64 y,.int .i64 z]:=by
 obtain ⟨a,r,rfl,h1,b,r',rfl,h2,c,r'',rfl,h3,h4⟩:=h
 cases h4
 obtain ⟨x,rfl⟩:=Wo h1;obtain ⟨y,rfl⟩:=sf h2;obtain ⟨z,rfl⟩:=sf h3;exact ⟨x,y,z,rfl⟩
theorem VN (x:List Int) (y:Int) (h:B126 [.fs .u8 x,.int .i64 y]=true):iZ 0 x y=some ():=by
 rw [WX];unfold B126 at h;have h:(decide (y<0) || decide (y >= (x.length:Nat)))=true:=h
 cases h1:decide (y<0) with
 | true=>rfl
 | false=>
  rw [h1,Bool.false_or] at h
  show jn (jn (some (.inl [(.fs .u8 x),(.int .i64 y),(.bool (decide (y >= (Int.ofNat (List.length x)))))])) _) _=_;rw [show decide (y >= (Int.ofNat (List.length x)))=true from h];rfl
theorem Jt:wX Tryz.prog env 126 [.fs .u8,.int .i64] B126:=
 mK (cal:=cal126) (H:=H126) (body:=D126.body) (fun f c hf=>by cases hf) mix Tryz.func126 rfl (by decide) rfl (fun C _=>OvOk.none (by intro id; rfl)) (fun C hC=>oD C hC)
  (fun xs hB hw=>by
   obtain ⟨x,y,rfl⟩:=wt2 hw
   exact ⟨0,VN x y hB⟩)
theorem VW (x:List Int) (y z:Int) (h:B125 [.fs .u8 x,.int .i64 y,.int .i64 z]=true):em 0 x y z=some ():=by
 rw [Vi];unfold B125 at h;have h:(decide (y<0) || (decide (y >(x.length:Nat)) || decide (z > IntKind.i64.wrap ((x.length:Nat) - y))))=true:=h
 cases h1:decide (y<0) with
 | true=>rfl
 | false=>
  rw [h1,Bool.false_or] at h
  cases h2:decide (y >(x.length:Nat)) with
  | true=>
   rfl
  | false=>
   rw [h2,Bool.false_or] at h
   show jn (jn (some (.inl [(.fs .u8 x),(.int .i64 y),(.int .i64 z),(.bool (decide (z > IntKind.i64.wrap ((x.length:Nat) - y))))])) _) _=_;rw [h];rfl
theorem th:wX Tryz.prog env 125 [.fs .u8,.int .i64,.int .i64] B125:=
 mK (cal:=cal125) (H:=H125) (body:=D125.body) (fun f c hf=>by cases hf) mix Tryz.func125 rfl (by decide) rfl (fun C _=>OvOk.none (by intro id; rfl)) (fun C hC=>oZ C hC)
  (fun xs hB hw=>by
   obtain ⟨x,y,z,rfl⟩:=wt3 hw
   exact ⟨0,VW x y z hB⟩)
end Go.Proofs.YtlmnjnhmhacgkaaGreatDoor.Am
end
section
set_option linter.unusedVariables false
set_option maxRecDepth 100000
namespace Go.Proofs.YtlmnjnhmhacgkaaGreatDoor.Am
open Go Go.Am Go.Proofs Go.Lib Go.RowKit
def aF:AV->Bool
 | .fs .u8 l=>l.all fun x=>decide (0<=x) && decide (x<=255)
 | _=>false
def uW:Fun:=fun _ xs=>match xs with
 | [.fv (.fs .u8) ps,.fs .u8 []]=>if 2<=ps.length/\ps.length<=140737488355328/\ps.all aF=true/\(ps.flatMap AV.qq).length<=140737488355328 then some [.fs .u8 (ps.flatMap AV.qq)] else none
 | _=>none
def bU8 (xs:List Int):List UInt8:=xs.map fun x=>UInt8.ofNat x.toNat
theorem rE {xs:List Int} (h:∀ x∈xs,0<=x/\x<=255):numsL (bU8 xs)=xs:=by
 unfold numsL bU8;rw [List.map_map]
 conv=>rhs; rw [<-List.map_id xs]
 apply List.map_congr_left;intro x hx;have:=h x hx
 show ((UInt8.ofNat x.toNat).toNat:Int)=x;rw [UInt8.toNat_ofNat_of_lt' (by show x.toNat<256; omega)];omega
theorem iV {a:AV} (h:aF a=true):∃ l,a=.fs .u8 l/\∀ x∈l,0<=x/\x<=255:=by
 unfold aF at h
 split at h
 ·rename_i l;exact ⟨l,rfl,fun x hx=>by have:=List.all_eq_true.1 h x hx; simpa using this⟩
 ·cases h
theorem rr {w:World} {ok:Nat->Prop} {θ:Nm->Option Value}:∀ {ps:List AV} {cs:List Value},ps.all aF=true->CVs w ok θ ps cs->
  cs.length=ps.length/\∀ (i:Nat) v l,cs[i]? = some v->(ps.map fun a=>bU8 a.qq)[i]? = some l->HoldsBytes w v l
 | [],cs,_,h=>by
  have h:cs=[]:=h;subst h;exact ⟨rfl,fun i v l hv=>by simp at hv⟩
 | a::ps,cs,hf,h=>by
  obtain ⟨v,rest,rfl,hw,hv,hr⟩:=h;rw [List.all_cons,Bool.and_eq_true] at hf;obtain ⟨l,rfl,hl⟩:=iV hf.1;obtain ⟨A,c,rfl,hlc,hc⟩:=hv;obtain ⟨h1,h2⟩:=rr hf.2 hr;have e:(Value.slice A l.length c).cells.toList=[Value.slice A l.length c]:=rfl;rw [e];refine ⟨by simp [h1],fun i u m hu hm=>?_⟩
  cases i with
  | zero=>
   simp only [List.cons_append,List.nil_append,List.getElem?_cons_zero,Option.some.injEq,List.map_cons] at hu hm;subst hu;subst hm;have hlen:(bU8 l).length=l.length:=by simp [bU8]
   refine ⟨A,c,by show _=Value.slice A (bU8 l).length c; rw [hlen],fun hA=>?_,fun a ha j x hx=>?_⟩
   ·match l,hc with
    | [],_=>rfl
    | y::l',hc=>
     obtain ⟨ad,h3,_⟩:=hc (by simp);rw [hA] at h3; cases h3
   ·have hj:j<l.length:=by
     have:=(List.getElem?_eq_some_iff.1 hx).1;rw [<-hlen]; exact this
    obtain ⟨ad,h3,_,h4⟩:=hc (by omega);rw [ha] at h3
    cases h3
    have h5:=h4 j (.int .u8 l[j]) (by unfold qr; simp [hj]);rw [h5];have hx:(bU8 l)[j]? = some x:=hx;have h6:(numsL (bU8 l))[j]? = l[j]?:=by rw [rE hl]
    unfold numsL at h6;rw [List.getElem?_map,hx,List.getElem?_eq_getElem hj] at h6;simp only [Option.map_some,Option.some.injEq] at h6;rw [h6]
  | succ i=>
   simp only [List.cons_append,List.nil_append,List.getElem?_cons_succ,List.map_cons] at hu hm;exact h2 i u m hu hm
theorem Jv (ys:List Int) (h:∀ y∈ys,0<=y/\y<256):numsL (bytesOf ys)=ys:=by
 unfold numsL bytesOf;rw [List.map_map]
 conv=>rhs; rw [<-List.map_id ys]
 apply List.map_congr_left;intro y hy;have:=h y hy;have h2:y.toNat<256:=by omega
 simp [Nat.mod_eq_of_lt h2];omega
def Vu:Go.Shelf.Ren:=⟨fun | 14=>207 | 15=>246 | n=>n,fun | 22=>31 | 26=>127 | n=>n,fun n=>n⟩
theorem Vk:SlLaysJ.n14 Tryz.prog Vu:={
 mixed:=by kernel_rfl
 f14:=Tryz.func207.trans (congrArg some (by kernel_rfl))
 f15:=Tryz.func246.trans (congrArg some (by kernel_rfl))
 t0:=Tryz.underlying0
 a0:=Tryz.isAgg0
 z0:=Tryz.sizeOf0
 v0:=Tryz.zeroValue0
 t3:=Tryz.underlying3
 a3:=Tryz.isAgg3
 z3:=Tryz.sizeOf3
 v3:=Tryz.zeroValue3
 t4:=Tryz.underlying4
 a4:=Tryz.isAgg4
 z4:=Tryz.sizeOf4
 v4:=Tryz.zeroValue4
 t9:=Tryz.underlying9
 a9:=Tryz.isAgg9
 z9:=Tryz.sizeOf9
 v9:=Tryz.zeroValue9
 t20:=Tryz.underlying20
 a20:=Tryz.isAgg20
 z20:=Tryz.sizeOf20
 v20:=Tryz.zeroValue20
 t22:=Tryz.underlying31
 a22:=Tryz.isAgg31
 z22:=Tryz.sizeOf31
 v22:=Tryz.zeroValue31
 t26:=Tryz.underlying127
 a26:=Tryz.isAgg127
 z26:=Tryz.sizeOf127
 v26:=Tryz.zeroValue127
 t5:=Tryz.underlying5
 z5:=Tryz.sizeOf5
 i5:=by kernel_rfl }
theorem pi {ps:List AV} (h:ps.all aF=true):numsL ((ps.map fun a=>bU8 a.qq).flatten)=ps.flatMap AV.qq:=by
 induction ps with
 | nil=>rfl
 | cons a ps ih=>
  rw [List.all_cons,Bool.and_eq_true] at h;obtain ⟨l,rfl,hl⟩:=iV h.1;have e:∀ a b:List UInt8,numsL (a++b)=numsL a++numsL b:=fun a b=>by unfold numsL; rw [List.map_append]
  rw [List.map_cons,List.flatten_cons,e,ih h.2,List.flatMap_cons]
  show numsL (bU8 l)++_=_;rw [rE hl];rfl
theorem aE (ls:List (List UInt8)):lens ls=ls.flatten.length:=by
 unfold lens;rw [List.length_flatten]
theorem aN (ls:List (List UInt8)):join ls []=ls.flatten:=by
 cases ls with
 | nil=>rfl
 | cons x r=>
  rw [join_cons];unfold joinTail;simp
theorem VI:K 207 D207 uW:=by
 show pp Tryz.prog env 207 (qj D207 uW);refine ⟨⟨_,Tryz.func207,by kernel_rfl,by decide⟩,.inr rfl,fun n xs r hF C args θ0 hE hI hH hA hG=>?_⟩;have hF:uW n xs=some r:=hF;unfold uW at hF
 split at hF
 ·rename_i ps _
  split at hF
  ·rename_i hc;obtain ⟨g1,g2,g3,g4⟩:=hc;injection hF with hF;subst hF;obtain ⟨v0,rest0,e0,hv0,hr0⟩:=hA;obtain ⟨v1,rest1,e1,hv1,hr1⟩:=hr0;have hr1:rest1=[]:=hr1;subst hr1 e1;obtain ⟨A,c,cs,rfl,hcap,hwt,hcs,hcell⟩:=hv0;obtain ⟨A1,c1,rfl,hcap1,_⟩:=hv1;obtain ⟨ad,rfl,hok,hat⟩:=hcell (by omega);obtain ⟨p1,p2⟩:=rr g3 hcs
   have hspot:ad.spot=none:=by
    obtain ⟨u,hu⟩ : ∃ u,cs[0]? = some u:=⟨cs[0],List.getElem?_eq_getElem (by omega)⟩;have h:=hat 0 u hu
    cases hs:ad.spot with
    | none=>rfl
    | some s=>
     have ea:ad.add 0=ad:=by unfold Addr.add; rw [if_pos rfl]
     rw [ea] at h;unfold World.cell? at h;rw [hs] at h
     split at h
     ·simp at h
     ·cases h
   obtain ⟨b,o,sp⟩:=ad;have hspot:sp=none:=hspot;subst hspot
   have hargs:args = #[.slice (some ⟨b,o,none⟩) ps.length c,.slice A1 0 c1]:=by
    cases args; simp_all
   subst hargs;have hJ:=Any.bytes_Join_many Vk b o ps.length c cs (ps.map fun a=>bU8 a.qq) (.slice A1 0 c1) [] C.w0 (by simp) g1
    ⟨by simp [p1],hat,p2⟩ hcap ⟨A1,c1,rfl,fun _=>rfl,fun a _ i x hx=>by simp at hx⟩ g2
    (by
     have:=pi g3;have hl:=congrArg List.length this;rw [numsL_length] at hl;rw [aE,hl]
     show _+0 * _<=_
     omega)
   have hJ:Calls Tryz.prog 207 _ _ _:=hJ;refine hJ.mono fun e w' h=>?_
   obtain ⟨v',rfl,hfr,hb⟩:=h;refine ⟨v',θ0,rfl,fun _ _ h=>h,?_⟩;rw [aN] at hfr;obtain ⟨g,cap,zs,rfl,hg,hlc,hmx,hzl,hzr,hzb,hzc,_⟩:=hfr
   have hlen:((ps.map fun a=>bU8 a.qq).flatten).length=(ps.flatMap AV.qq).length:=by
    have hl:=congrArg List.length (pi g3);rw [numsL_length] at hl;exact hl
   have hzt:zs.take ((ps.map fun a=>bU8 a.qq).flatten).length=ps.flatMap AV.qq:=by
    have:=Jv _ (fun y hy=>hzr y (List.mem_of_mem_take (i:=((ps.map fun a=>bU8 a.qq).flatten).length) hy));rw [hzb,pi g3] at this;exact this.symm
   have hS:(qj D207 uW).hq ((qj D207 uW).full [.fv (.fs .u8) ps,.fs .u8 []] [.fs .u8 (ps.flatMap AV.qq)])=(qj D207 uW).hp [.fv (.fs .u8) ps,.fs .u8 []]:=rfl;rw [hS];have hno:∀ d,((qj D207 uW).hp [.fv (.fs .u8) ps,.fs .u8 []]).obj d=none:=fun d=>by cases d <;> rfl
   have hOwn:∀ b,¬ jm ((qj D207 uW).hp [.fv (.fs .u8) ps,.fs .u8 []]) θ0 b:=fun b ⟨d,o,v,h1,_⟩=>by rw [hno] at h1; cases h1
   refine ⟨rfl,[_],.inl ⟨rfl,rfl⟩,?_⟩
   show sF _ _ _ _ _/\CVt _ _ _ _ _/\_;refine ⟨⟨fun d ob _ ho=>(by rw [hno] at ho; cases ho),hH.fresh,fun d d' ob ob' v v' bb h1=>(by rw [hno] at h1; cases h1),hb.os.trans hH.os,hb.tape.trans hH.tape,⟨hb.output.trans hH.output.1,.inr trivial⟩,Nat.le_trans hH.size hb.size,fun bb hbb hIb=>?_,hH.base⟩,?_,?_⟩
   ·rw [hb.block bb hbb]
   ·refine ⟨_,[],rfl,?_,rfl⟩
    show CV _ _ _ (.fs .u8 (ps.flatMap AV.qq)) _;refine ⟨some ⟨g,0,none⟩,cap,by rw [hlen],by omega,fun hpos=>⟨⟨g,0,none⟩,rfl,⟨?_,fun hf=>?_,hOwn g,by simp,fun _=>hg⟩,fun j u hu=>?_⟩⟩
    ·have:=hzc 0 (by omega);unfold World.cell? at this
     rcases Nat.lt_or_ge g w'.heap.size with h | h
     ·exact h
     ·rw [Array.getElem?_eq_none h] at this; cases this
    ·have:=C.fb g hf; omega
    ·have hj:j<(ps.flatMap AV.qq).length:=by
      have:=(List.getElem?_eq_some_iff.1 hu).1;unfold qr at this;simpa using this
     have h1:=hzc j (by omega);have ea:(⟨g,0,none⟩ : Addr).add j=⟨g,j,none⟩:=by rw [Lib.add_plain2]; simp
     rw [ea,h1];unfold qr at hu;rw [List.getElem?_map] at hu
     have h2:(ps.flatMap AV.qq)[j]? = some (zs.getD j 0):=by
      rw [<-hzt,List.getElem?_take_of_lt (by omega)];have:j<zs.length:=by omega
      simp [List.getD_eq_getElem?_getD,this]
     rw [h2] at hu;exact hu
   ·intro a ha;have ha:a∈[AV.fs .u8 (ps.flatMap AV.qq)]:=ha;rw [List.mem_singleton.1 ha];exact ⟨.fs .u8,⟨_,rfl⟩,rfl⟩
  ·cases hF
 ·cases hF
end Go.Proofs.YtlmnjnhmhacgkaaGreatDoor.Am
end
section
set_option linter.unusedVariables false
set_option maxRecDepth 100000
namespace Go.Proofs.YtlmnjnhmhacgkaaGreatDoor.Am
open Go Go.Am Go.Proofs
noncomputable section
def A77:Fun:=D77.R cal77 H77
theorem S77:K 77 D77 A77:=sq wq Tryz.func77
def A79:Fun:=D79.R cal79 H79
theorem S79:K 79 D79 A79:=sq wq Tryz.func79
def A63:Fun:=D63.R (cal63 A77 A79) H63
theorem S63:K 63 D63 A63:=sq (yz S77 S79) Tryz.func63
def A34:Fun:=D34.R cal34 H34
theorem S34:K 34 D34 A34:=sq wq Tryz.func34
def A70:Fun:=D70.R cal70 H70
theorem S70:K 70 D70 A70:=sq wq Tryz.func70
def A113:Fun:=D113.R (cal113 A70) H113
theorem S113:K 113 D113 A113:=sq (vM S70) Tryz.func113
def A112:Fun:=D112.R (cal112 A113) H112
theorem S112:K 112 D112 A112:=sq (vM S113) Tryz.func112
def A69:Fun:=D69.R (cal69 A112) H69
theorem S69:K 69 D69 A69:=sq (vM S112) Tryz.func69
def A35:Fun:=D35.R (cal35 A69 A70) H35
theorem S35:K 35 D35 A35:=sq (yz S69 S70) Tryz.func35
def A72:Fun:=D72.R (cal72 A69 A70) H72
theorem S72:K 72 D72 A72:=sq (yz S69 S70) Tryz.func72
def A71:Fun:=D71.R (cal71 A72) H71
theorem S71:K 71 D71 A71:=sq (vM S72) Tryz.func71
def A36:Fun:=D36.R (cal36 A70 A71) H36
theorem S36:K 36 D36 A36:=sq (yz S70 S71) Tryz.func36
def A37:Fun:=D37.R (cal37 A69 A70) H37
theorem S37:K 37 D37 A37:=sq (yz S69 S70) Tryz.func37
def A14:Fun:=D14.R (cal14 A34 A35 A36 A37) H14
theorem S14:K 14 D14 A14:=sq (lc S34 S35 S36 S37) Tryz.func14
def A55:Fun:=D55.R cal55 H55
theorem S55:K 55 D55 A55:=sq wq Tryz.func55
def A56:Fun:=D56.R cal56 H56
theorem S56:K 56 D56 A56:=sq wq Tryz.func56
def A94:Fun:=D94.R cal94 H94
theorem S94:K 94 D94 A94:=sq wq Tryz.func94
def A57:Fun:=D57.R (cal57 A55 A94) H57
theorem S57:K 57 D57 A57:=sq (yz S55 S94) Tryz.func57
def A64:Fun:=D64.R (cal64 A14 A55 A56 A57) H64
theorem S64:K 64 D64 A64:=sq (lc S14 S55 S56 S57) Tryz.func64
def A184:Fun:=D184.R cal184 H184
theorem S184:K 184 D184 A184:=sq wq Tryz.func184
def A139:Fun:=D139.R (cal139 A184) H139
theorem S139:K 139 D139 A139:=sq (vM S184) Tryz.func139
def A95:Fun:=D95.R (cal95 A139) H95
theorem S95:K 95 D95 A95:=sq (vM S139) Tryz.func95
def A96:Fun:=fun n l=>D96.run Tryz.prog env cal96 H96 n l
theorem S96:K 96 D96 A96:=sq wq Tryz.func96
def A135:Fun:=D135.R cal135 H135
theorem S135:K 135 D135 A135:=sq wq Tryz.func135
def A123:Fun:=D123.R cal123 H123
theorem S123:K 123 D123 A123:=sq wq Tryz.func123
def A136:Fun:=D136.R (cal136 A123) H136
theorem S136:K 136 D136 A136:=sq (vM S123) Tryz.func136
def A178:Fun:=D178.R cal178 H178
theorem S178:K 178 D178 A178:=sq wq Tryz.func178
def A127:Fun:=D127.R (cal127 A178) H127
theorem S127:K 127 D127 A127:=sq (vM S178) Tryz.func127
def A137:Fun:=D137.R (cal137 A127) H137
theorem S137:K 137 D137 A137:=sq (vM S127) Tryz.func137
def A91:Fun:=D91.R (cal91 A95 A96 A135 A136 A137) H91
theorem S91:K 91 D91 A91:=sq (fA S95 S96 S135 S136 S137) Tryz.func91
def A97:Fun:=D97.R (cal97 A139) H97
theorem S97:K 97 D97 A97:=sq (vM S139) Tryz.func97
def A183:Fun:=D183.R cal183 H183
theorem S183:K 183 D183 A183:=sq wq Tryz.func183
def A138:Fun:=D138.R (cal138 A183) H138
theorem S138:K 138 D138 A138:=sq (vM S183) Tryz.func138
def A92:Fun:=D92.R (cal92 A97 A136 A137 A138 A139) H92
theorem S92:K 92 D92 A92:=sq (fA S97 S136 S137 S138 S139) Tryz.func92
def A142:Fun:=D142.R cal142 H142
theorem S142:K 142 D142 A142:=sq wq Tryz.func142
def A141:Fun:=D141.R (cal141 A142) H141
theorem S141:K 141 D141 A141:=sq (vM S142) Tryz.func141
def A140:Fun:=D140.R (cal140 A141 A183) H140
theorem S140:K 140 D140 A140:=sq (yz S141 S183) Tryz.func140
def A93:Fun:=D93.R (cal93 A97 A136 A137 A139 A140 A141) H93
theorem S93:K 93 D93 A93:=sq (Qp S97 S136 S137 S139 S140 S141) Tryz.func93
def A53:Fun:=D53.R (cal53 A55 A56 A91 A92 A93) H53
theorem S53:K 53 D53 A53:=sq (fA S55 S56 S91 S92 S93) Tryz.func53
def A54:Fun:=D54.R cal54 H54
theorem S54:K 54 D54 A54:=sq wq Tryz.func54
def A81:Fun:=D81.R cal81 H81
theorem S81:K 81 D81 A81:=sq wq Tryz.func81
def A82:Fun:=D82.R (cal82 A77) H82
theorem S82:K 82 D82 A82:=sq (vM S77) Tryz.func82
def A111:Fun:=fun n xs=>fG Tryz.prog env cal111 H111 (Tryz.f111.body.getD .skip) 13 4 5 .u8 n xs
theorem S111:SC 111 (pK A111 5 .u8 31):=rh wq mix Tryz.func111 rfl (by decide) rfl rfl (fun C _=>OvOk.none (by intro id; rfl)) (fun C _=>PanH.none (by intro id; rfl))
def A106:Fun:=D106.R (cal106 A81 A82 A111) H106
theorem S106:K 106 D106 A106:=sq (aQ S81 S82 S111) Tryz.func106
def A86:Fun:=D86.R cal86 H86
theorem S86:K 86 D86 A86:=sq wq Tryz.func86
def A157:Fun:=D157.R cal157 H157
theorem S157:K 157 D157 A157:=sq wq Tryz.func157
def A202:Fun:=D202.R cal202 H202
theorem S202:K 202 D202 A202:=sq wq Tryz.func202
def A203:Fun:=D203.R cal203 H203
theorem S203:K 203 D203 A203:=sq wq Tryz.func203
def A155:Fun:=D155.R (cal155 A86 A157 A202 A203) H155
theorem S155:K 155 D155 A155:=sq (lc S86 S157 S202 S203) Tryz.func155
def A269:Fun:=D269.R cal269 H269
theorem S269:K 269 D269 A269:=sq wq Tryz.func269
def A244:Fun:=D244.R (cal244 A269) H244
theorem S244:K 244 D244 A244:=sq (vM S269) Tryz.func244
def A204:Fun:=D204.R (cal204 A244) H204
theorem S204:K 204 D204 A204:=sq (vM S244) Tryz.func204
def A130:Fun:=D130.R cal130 H130
theorem S130:K 130 D130 A130:=sq wq Tryz.func130
def A285:Fun:=fun n xs=>fG Tryz.prog env cal285 H285 (Tryz.f285.body.getD .skip) 28 4 5 .u8 n xs
theorem S285:SC 285 (pK A285 5 .u8 31):=rh wq mix Tryz.func285 rfl (by decide) rfl rfl (fun C _=>OvOk.none (by intro id; rfl)) (fun C _=>PanH.none (by intro id; rfl))
def A270:Fun:=D270.R (cal270 A285) H270
theorem S270:K 270 D270 A270:=sq (vM S285) Tryz.func270
def A245:Fun:=D245.R (cal245 A130 A270) H245
theorem S245:K 245 D245 A245:=sq (yz S130 S270) Tryz.func245
def A205:Fun:=D205.R (cal205 A245) H205
theorem S205:K 205 D205 A205:=sq (vM S245) Tryz.func205
def A180:Fun:=D180.R cal180 H180
theorem S180:K 180 D180 A180:=sq wq Tryz.func180
def A206:Fun:=D206.R (cal206 A130 A180) H206
theorem S206:K 206 D206 A206:=sq (yz S130 S180) Tryz.func206
def A207:Fun:=uW
theorem S207:K 207 D207 A207:=VI
def A159:Fun:=D159.R (cal159 A136 A204 A205 A206 A207) H159
theorem S159:K 159 D159 A159:=sq (fA S136 S204 S205 S206 S207) Tryz.func159
def A156:Fun:=D156.R (cal156 A159) H156
theorem S156:K 156 D156 A156:=sq (vM S159) Tryz.func156
def A107:Fun:=D107.R (cal107 A155 A156) H107
theorem S107:K 107 D107 A107:=sq (yz S155 S156) Tryz.func107
def A108:Fun:=D108.R (cal108 A55 A135 A138 A140) H108
theorem S108:K 108 D108 A108:=sq (lc S55 S135 S138 S140) Tryz.func108
def A158:Fun:=D158.R cal158 H158
theorem S158:K 158 D158 A158:=sq wq Tryz.func158
def A109:Fun:=D109.R (cal109 A136 A137 A155 A157 A158) H109
theorem S109:K 109 D109 A109:=sq (fA S136 S137 S155 S157 S158) Tryz.func109
def A110:Fun:=D110.R (cal110 A159) H110
theorem S110:K 110 D110 A110:=sq (vM S159) Tryz.func110
def A65:Fun:=D65.R (cal65 A53 A54 A106 A107 A108 A109 A110) H65
theorem S65:K 65 D65 A65:=sq (Ze S53 S54 S106 S107 S108 S109 S110) Tryz.func65
def A66:Fun:=D66.R cal66 H66
theorem S66:K 66 D66 A66:=sq wq Tryz.func66
def A68:Fun:=D68.R cal68 H68
theorem S68:K 68 D68 A68:=sq wq Tryz.func68
def A67:Fun:=D67.R (cal67 A63 A68 A111) H67
theorem S67:K 67 D67 A67:=sq (aQ S63 S68 S111) Tryz.func67
def A32:Fun:=D32.R (cal32 A63 A64 A65 A66 A67) H32
theorem S32:K 32 D32 A32:=sq (fA S63 S64 S65 S66 S67) Tryz.func32
def A33:Fun:=D33.R (cal33 A68) H33
theorem S33:K 33 D33 A33:=sq (vM S68) Tryz.func33
def A13:Fun:=D13.R (cal13 A32 A33) H13
theorem S13:K 13 D13 A13:=sq (yz S32 S33) Tryz.func13
def A38:Fun:=D38.R cal38 H38
theorem S38:K 38 D38 A38:=sq wq Tryz.func38
def A74:Fun:=D74.R cal74 H74
theorem S74:K 74 D74 A74:=sq wq Tryz.func74
def A73:Fun:=D73.R (cal73 A74) H73
theorem S73:K 73 D73 A73:=sq (vM S74) Tryz.func73
def A39:Fun:=D39.R (cal39 A73 A74) H39
theorem S39:K 39 D39 A39:=sq (yz S73 S74) Tryz.func39
def A18:Fun:=D18.R cal18 H18
theorem S18:K 18 D18 A18:=sq wq Tryz.func18
def A114:Fun:=D114.R (cal114 A18) H114
theorem S114:K 114 D114 A114:=sq (vM S18) Tryz.func114
def A75:Fun:=D75.R (cal75 A18 A114) H75
theorem S75:K 75 D75 A75:=sq (yz S18 S114) Tryz.func75
def A40:Fun:=D40.R (cal40 A18 A75) H40
theorem S40:K 40 D40 A40:=sq (yz S18 S75) Tryz.func40
def A41:Fun:=D41.R cal41 H41
theorem S41:K 41 D41 A41:=sq wq Tryz.func41
def A42:Fun:=D42.R (cal42 A74) H42
theorem S42:K 42 D42 A42:=sq (vM S74) Tryz.func42
def A43:Fun:=D43.R (cal43 A73 A74) H43
theorem S43:K 43 D43 A43:=sq (yz S73 S74) Tryz.func43
def A15:Fun:=D15.R (cal15 A38 A39 A40 A41 A42 A43) H15
theorem S15:K 15 D15 A15:=sq (Qp S38 S39 S40 S41 S42 S43) Tryz.func15
def A17:Fun:=D17.R cal17 H17
theorem S17:K 17 D17 A17:=sq wq Tryz.func17
def A125:Fun:=D125.R cal125 H125
theorem S125:K 125 D125 A125:=FnD.soundOv wq mix Tryz.func125 rfl (by decide) rfl rfl (by kernel_rfl) (fun C _ _=>OvOk.none (by intro id; rfl)) (fun C hC=>oZ C hC)
def A126:Fun:=D126.R cal126 H126
theorem S126:K 126 D126 A126:=FnD.soundOv wq mix Tryz.func126 rfl (by decide) rfl rfl (by kernel_rfl) (fun C _ _=>OvOk.none (by intro id; rfl)) (fun C hC=>oD C hC)
theorem a126 (n:Nat) (x:List Int) (y:Int) (h1:0<=y) (h2:y<x.length):A126 n [.fs .u8 x,.int .i64 y]=some [.int .u8 (qk x y.toNat)]:=by
 show run126 n x y=_;rw [eq126];have e1:decide (y<0)=false:=by simp; omega
 have e2:decide (y >= (Int.ofNat (List.length x)))=false:=by simp; omega
 rw [e1]
 show jn (jn (some (.inl [(.fs .u8 x),(.int .i64 y),(.bool (decide (y >= (Int.ofNat (List.length x)))))])) _) _=_;rw [e2]
 show brO (inR y x.length) _ _=_;have e3:inR y x.length=true:=by unfold inR; simp; omega
 rw [e3];rfl
def WB (n:Nat) (d2:List AV) (k3:List AV->Option (Sum (List AV) Unit)):Option (Sum (List AV) Unit):=
  brO (decide ((AV.toInt (getE d2 4))<(AV.toInt (getE d2 3))))
   (let v6:Int:=(IntKind.wrap .i64 ((AV.toInt (getE d2 1))+(AV.toInt (getE d2 4))))
   brO ((decide (v6<0)) || (decide (v6 >= (Int.ofNat (List.length (AV.qq (getE d2 0)))))))
    (inr (some (Unit.unit)))
    (((A126 n [(.fs .u8 (AV.qq (getE d2 0))),(.int .i64 v6)])).bind fun r4=>
    brO (Nat.beq (List.length r4) 1)
     ((k3 [(.fs .u8 (AV.qq (getE d2 0))),(.int .i64 (AV.toInt (getE d2 1))),(.int .u64 (IntKind.wrap .u64 (Int.ofNat (BitVec.toNat ((BitVec.ofInt 64 (IntKind.wrap .u64 ((AV.toInt (getE d2 2)) * (Int.ofNat (2 ^ (Min.min (Int.toNat 8) (IntKind.bits .u64))))))) ||| (BitVec.ofInt 64 (IntKind.wrap .u64 (AV.toInt (getE r4 0))))))))),(.int .i64 (AV.toInt (getE d2 3))),(.int .i64 (IntKind.wrap .i64 ((AV.toInt (getE d2 4))+1)))]))
     (none)))
   (inl (some [(.int .u64 (AV.toInt (getE d2 2)))]))
theorem ZL (n:Nat) (x:List Int) (y z:Int) (hl:(x.length:Int)<=2 ^ 47) (hy:0<=y) (hz:z<=8) (hp:y+z > x.length):∀ (m:Nat) (i c:Int),0<=i->y+i<=x.length->(z - i).toNat<=m->
  iter (WB n) (m+1) [(.fs .u8 x),(.int .i64 y),(.int .u64 c),(.int .i64 z),(.int .i64 i)]=some (.inr ()):=by
 intro m
 induction m with
 | zero=>intro i c h1 h2 h3; omega
 | succ m ih=>
  intro i c h1 h2 h3
  show brO (decide (i<z)) (brO ((decide (IntKind.wrap .i64 (y+i)<0)) || (decide (IntKind.wrap .i64 (y+i) >= (Int.ofNat (List.length x))))) _ _) _=_;rw [qp (b:=decide (i<z)) (by simp; omega),qv (by omega) (by omega)]
  by_cases hq:y+i=x.length
  ·rw [qp (by simp; omega)]; rfl
  ·rw [qi (by simp; omega)]
   show Option.bind (A126 n [.fs .u8 x,.int .i64 (IntKind.wrap .i64 (y+i))]) _=_;rw [qv (x:=y+i) (by omega) (by omega),a126 n x (y+i) (by omega) (by omega)]
   show iter (WB n) (m+1) [(.fs .u8 x),(.int .i64 y),(.int .u64 _),(.int .i64 z),(.int .i64 (IntKind.wrap .i64 (i+1)))]=_;rw [qv (x:=i+1) (by omega) (by omega)];exact ih (i+1) _ (by omega) (by omega) (by omega)
theorem Jq (x:List Int) (y z:Int) (h:B122 [.fs .u8 x,.int .i64 y,.int .i64 z]=true):eg A126 9 x y z=some ():=by
 rw [Vq];unfold B122 at h;have h:(decide (x.length<=2 ^ 47) && (decide (y<0) || (decide (y >(x.length:Nat)) || (decide (0<z) && (decide (z<=8) && decide (y+z >(x.length:Nat)))))))=true:=h;rw [Bool.and_eq_true] at h;have hl:x.length<=2 ^ 47:=of_decide_eq_true h.1;replace h:=h.2
 cases h1:decide (y<0) with
 | true=>rfl
 | false=>
  rw [h1,Bool.false_or] at h
  show jn (jn (some (.inl [(.fs .u8 x),(.int .i64 y),(.int .i64 z),(.bool (decide (y >(Int.ofNat (List.length x)))))])) _) _=_
  cases h2:decide (y >(x.length:Nat)) with
  | true=>
   rfl
  | false=>
   rw [h2,Bool.false_or] at h;simp only [Bool.and_eq_true,decide_eq_true_eq,decide_eq_false_iff_not] at h h1 h2
   show jn (iter (WB 9) (8+1) [(.fs .u8 x),(.int .i64 y),(.int .u64 0),(.int .i64 z),(.int .i64 0)]) _=_;rw [ZL 9 x y z (by omega) (by omega) (by omega) (by omega) 8 0 0 (by omega) (by omega) (by omega)];rfl
theorem QY:wX Tryz.prog env 122 [.fs .u8,.int .i64,.int .i64] B122:=
 mK (cal:=cal122 A126) (H:=H122) (body:=D122.body) (vM S126) mix Tryz.func122 rfl (by decide) rfl (fun C _=>OvOk.none (by intro id; rfl)) (fun C hC=>oJ Jt C hC)
  (fun xs hB hw=>by
   obtain ⟨x,y,z,rfl⟩:=wt3 hw
   exact ⟨9,Jq x y z hB⟩)
def A83:Fun:=fun n xs=>D83.runR Tryz.prog env (cal83 A123 A125 A126) H83 (uQ (Tryz.f124.body.getD .skip)) 5 [6,7,8] n xs
theorem S83:K 83 D83 A83:=FnD.soundR (aQ S123 S125 S126) mix (H:=H83) Tryz.func83 rfl (by decide) rfl rfl (by kernel_rfl) (g:=124) (gn:=Tryz.f124) (i:=0) (at1:=#[]) (q1:=jY 0 0 (Tryz.f124.body.getD .skip)) (q2:=jY 0 1 (Tryz.f124.body.getD .skip)) (X:=uQ (Tryz.f124.body.getD .skip)) (e1:=3) (e2:=4) (ts:=[6,7,8]) (o1:=jY 4 0 D83.body) (o2:=jY 4 1 D83.body) rfl (by kernel_rfl) (by kernel_rfl) (by kernel_rfl) (by kernel_rfl) (by kernel_rfl) (by kernel_rfl) (by kernel_rfl) (by kernel_rfl)
  (fun C' hC hp id ops draw hreg hne φ hφ=>by
  unfold H83 at hφ;dsimp only at hφ
  split at hφ
  ·exact (hne rfl).elim
  ·cases hφ)
  (fun C hC=>VM th Jt C hC) Tryz.func124 (by kernel_rfl) (by decide) rfl (by kernel_rfl) (by kernel_rfl) (by kernel_rfl) (by kernel_rfl) (by kernel_rfl) (by decide) (by decide) (mH (by kernel_rfl)) (mn (by kernel_rfl))
def A84:Fun:=D84.R (cal84 A127) H84
theorem S84:K 84 D84 A84:=sq (vM S127) Tryz.func84
def A58:Fun:=D58.R (cal58 A83 A84 A95 A96) H58
theorem S58:K 58 D58 A58:=sq (lc S83 S84 S95 S96) Tryz.func58
def A98:Fun:=D98.R (cal98 A84 A139) H98
theorem S98:K 98 D98 A98:=sq (yz S84 S139) Tryz.func98
def A59:Fun:=D59.R (cal59 A83 A97 A98) H59
theorem S59:K 59 D59 A59:=sq (aQ S83 S97 S98) Tryz.func59
def A99:Fun:=D99.R (cal99 A142) H99
theorem S99:K 99 D99 A99:=sq (vM S142) Tryz.func99
def A60:Fun:=D60.R (cal60 A83 A97 A98 A99) H60
theorem S60:K 60 D60 A60:=sq (lc S83 S97 S98 S99) Tryz.func60
def A26:Fun:=D26.R (cal26 A54 A55 A56 A57 A58 A59 A60) H26
theorem S26:K 26 D26 A26:=sq (Ze S54 S55 S56 S57 S58 S59 S60) Tryz.func26
def A78:Fun:=D78.R cal78 H78
theorem S78:K 78 D78 A78:=sq wq Tryz.func78
def A49:Fun:=D49.R (cal49 A77 A78 A79) H49
theorem S49:K 49 D49 A49:=sq (aQ S77 S78 S79) Tryz.func49
def A120:Fun:=D120.R cal120 H120
theorem S120:K 120 D120 A120:=sq wq Tryz.func120
def A122:Fun:=D122.R (cal122 A126) H122
theorem S122:K 122 D122 A122:=FnD.soundOv (vM S126) mix Tryz.func122 rfl (by decide) rfl rfl (by kernel_rfl) (fun C _ _=>OvOk.none (by intro id; rfl)) (fun C hC=>oJ Jt C hC)
def A80:Fun:=fun n xs=>D80.runR Tryz.prog env (cal80 A120 A122) H80 (uQ (Tryz.f121.body.getD .skip)) 4 [6,7] n xs
theorem S80:K 80 D80 A80:=FnD.soundR (yz S120 S122) mix (H:=H80) Tryz.func80 rfl (by decide) rfl rfl (by kernel_rfl) (g:=121) (gn:=Tryz.f121) (i:=0) (at1:=#[]) (q1:=jY 0 0 (Tryz.f121.body.getD .skip)) (q2:=jY 0 1 (Tryz.f121.body.getD .skip)) (X:=uQ (Tryz.f121.body.getD .skip)) (e1:=2) (e2:=3) (ts:=[6,7]) (o1:=jY 3 0 D80.body) (o2:=jY 3 1 D80.body) rfl (by kernel_rfl) (by kernel_rfl) (by kernel_rfl) (by kernel_rfl) (by kernel_rfl) (by kernel_rfl) (by kernel_rfl) (by kernel_rfl)
  (fun C' hC hp id ops draw hreg hne φ hφ=>by
  unfold H80 at hφ;dsimp only at hφ
  split at hφ
  ·exact (hne rfl).elim
  ·cases hφ)
  (fun C hC=>VC QY C hC) Tryz.func121 (by kernel_rfl) (by decide) rfl (by kernel_rfl) (by kernel_rfl) (by kernel_rfl) (by kernel_rfl) (by kernel_rfl) (by decide) (by decide) (mH (by kernel_rfl)) (mn (by kernel_rfl))
def A50:Fun:=D50.R (cal50 A80 A81 A82) H50
theorem S50:K 50 D50 A50:=sq (aQ S80 S81 S82) Tryz.func50
def A85:Fun:=D85.R cal85 H85
theorem S85:K 85 D85 A85:=sq wq Tryz.func85
def A87:Fun:=D87.R cal87 H87
theorem S87:K 87 D87 A87:=sq wq Tryz.func87
def A88:Fun:=D88.R cal88 H88
theorem S88:K 88 D88 A88:=sq wq Tryz.func88
def A51:Fun:=D51.R (cal51 A83 A84 A85 A86 A87 A88) H51
theorem S51:K 51 D51 A51:=sq (Qp S83 S84 S85 S86 S87 S88) Tryz.func51
def A128:Fun:=fun n xs=>D128.runR Tryz.prog env (cal128 A125) H128 (uQ (Tryz.f179.body.getD .skip)) 4 [6,7] n xs
theorem S128:K 128 D128 A128:=FnD.soundR (vM S125) mix (H:=H128) Tryz.func128 rfl (by decide) rfl rfl (by kernel_rfl) (g:=179) (gn:=Tryz.f179) (i:=0) (at1:=#[]) (q1:=jY 0 0 (Tryz.f179.body.getD .skip)) (q2:=jY 0 1 (Tryz.f179.body.getD .skip)) (X:=uQ (Tryz.f179.body.getD .skip)) (e1:=2) (e2:=3) (ts:=[6,7]) (o1:=jY 3 0 D128.body) (o2:=jY 3 1 D128.body) rfl (by kernel_rfl) (by kernel_rfl) (by kernel_rfl) (by kernel_rfl) (by kernel_rfl) (by kernel_rfl) (by kernel_rfl) (by kernel_rfl)
  (fun C' hC hp id ops draw hreg hne φ hφ=>by
  unfold H128 at hφ;dsimp only at hφ
  split at hφ
  ·exact (hne rfl).elim
  ·cases hφ)
  (fun C hC=>WF th C hC) Tryz.func179 (by kernel_rfl) (by decide) rfl (by kernel_rfl) (by kernel_rfl) (by kernel_rfl) (by kernel_rfl) (by kernel_rfl) (by decide) (by decide) (mH (by kernel_rfl)) (mn (by kernel_rfl))
def A89:Fun:=D89.R (cal89 A83 A128) H89
theorem S89:K 89 D89 A89:=sq (yz S83 S128) Tryz.func89
def A129:Fun:=D129.R cal129 H129
theorem S129:K 129 D129 A129:=sq wq Tryz.func129
def A133:Fun:=D133.R (cal133 A128) H133
theorem S133:K 133 D133 A133:=sq (vM S128) Tryz.func133
def A134:Fun:=D134.R cal134 H134
theorem S134:K 134 D134 A134:=sq wq Tryz.func134
def A131:Fun:=D131.R (cal131 A83 A133 A134 A180) H131
theorem S131:K 131 D131 A131:=sq (lc S83 S133 S134 S180) Tryz.func131
def A181:Fun:=D181.R (cal181 A80) H181
theorem S181:K 181 D181 A181:=sq (vM S80) Tryz.func181
def A215:Fun:=D215.R (cal215 A80) H215
theorem S215:K 215 D215 A215:=FnD.soundOv (vM S80) mix Tryz.func215 rfl (by decide) rfl rfl (by kernel_rfl) (fun C _ _=>OvOk.none (by intro id; rfl)) (fun C hC=>QJ C hC)
theorem a120 (n:Nat):A120 n [.int .i64 1]=some [.bool true]:=rfl
theorem or8 (g:Int) (h1:0<=g) (h2:g<256):IntKind.wrap .u64 (Int.ofNat (BitVec.toNat ((BitVec.ofInt 64 (IntKind.wrap .u64 (0 * (Int.ofNat (2 ^ (Min.min (Int.toNat 8) (IntKind.bits .u64))))))) ||| (BitVec.ofInt 64 (IntKind.wrap .u64 g)))))=g:=by
 rw [kA h1 (by omega)];have:BitVec.ofInt 64 (IntKind.wrap .u64 (0 * (Int.ofNat (2 ^ (Min.min (Int.toNat 8) (IntKind.bits .u64))))))=0#64:=by decide
 rw [this,BitVec.zero_or,BitVec.toNat_ofInt]
 have e:Int.ofNat (g % (2 ^ 64:Nat)).toNat=g:=by
  simp;omega
 rw [e];exact kA h1 (by omega)
theorem a122_1 (n:Nat) (x:List Int) (y:Int) (h1:0<=y) (h2:y<x.length) (hl:x.length<=2 ^ 47) (h3:0<=qk x y.toNat) (h4:qk x y.toNat<256):A122 (n+2) [.fs .u8 x,.int .i64 y,.int .i64 1]=some [.int .u64 (qk x y.toNat)]:=by
 show run122 A126 (n+2) x y 1=_;rw [eq122];rw [show decide (y<0)=false by simp; omega]
 show jn (jn (some (.inl [(.fs .u8 x),(.int .i64 y),(.int .i64 1),(.bool (decide (y >(Int.ofNat (List.length x)))))])) _) _=_;rw [show decide (y >(Int.ofNat (List.length x)))=false by simp; omega]
 show jn (brO ((decide (IntKind.wrap .i64 (y+0)<0)) || (decide (IntKind.wrap .i64 (y+0) >= (Int.ofNat (List.length x))))) _ _) _=_;rw [show y+0=y by omega,qv h1 (by omega)];rw [qi (by simp; omega)]
 show jn (Option.bind (A126 (n+2) [.fs .u8 x,.int .i64 (IntKind.wrap .i64 (y+0))]) _) _=_;rw [show y+0=y by omega,qv h1 (by omega),a126 (n+2) x y h1 h2]
 show some [AV.int .u64 (IntKind.wrap .u64 (Int.ofNat (BitVec.toNat ((BitVec.ofInt 64 (IntKind.wrap .u64 (0 * (Int.ofNat (2 ^ (Min.min (Int.toNat 8) (IntKind.bits .u64))))))) ||| (BitVec.ofInt 64 (IntKind.wrap .u64 (qk x y.toNat)))))))]=_;rw [or8 _ h3 h4]
theorem a80_1 (n:Nat) (x:List Int) (y:Int) (h1:0<=y) (h2:y<x.length) (hl:x.length<=2 ^ 47) (h3:0<=qk x y.toNat) (h4:qk x y.toNat<256):A80 (n+2) [.fs .u8 x,.int .i64 y,.int .i64 1]=some [.int .u64 (qk x y.toNat),.int .i64 0]:=by
 show run80 A120 A122 (n+2) x y 1=_;rw [eq80,a120]
 show brO (decide (x.length<=2 ^ 47) && (decide (y<0) || (decide (y >(x.length:Nat)) || (decide ((0:Int)<1) && (decide ((1:Int)<=8) && decide (y+1 >(x.length:Nat))))))) _ _=_;rw [qi (by simp; omega),a122_1 n x y h1 h2 hl h3 h4];rfl
theorem a80_err (n:Nat) (x:List Int) (y:Int) (h2:y >= x.length) (hl:x.length<=2 ^ 47):∃ v e,A80 n [.fs .u8 x,.int .i64 y,.int .i64 1]=some [.int .u64 v,.int .i64 e]/\e≠0:=by
 have h:A80 n [.fs .u8 x,.int .i64 y,.int .i64 1]=_:=eq80 A120 A122 n x y 1;rw [a120] at h;have h' : A80 n [.fs .u8 x,.int .i64 y,.int .i64 1]=brO (decide (x.length<=2 ^ 47) && (decide (y<0) || (decide (y >(x.length:Nat)) || (decide ((0:Int)<1) && (decide ((1:Int)<=8) && decide (y+1 >(x.length:Nat))))))) _ _:=h;rw [qp (by simp; omega)] at h';exact ⟨_,_,h',by decide⟩
theorem VB (x:List Int) (y:Int) (h:B215 [.fs .u8 x,.int .i64 y]=true):iu A80 2 x y=some ():=by
 rw [WD];unfold B215 at h;have h:(decide (x.length<=2 ^ 47) && (decide (0<=y) && (decide (y<=2 ^ 47) && (decide (y+1 >= (x.length:Int)) || (decide (0<=qk x (y+1).toNat) && (decide (qk x (y+1).toNat<256) && decide (y+2+qk x (y+1).toNat >(x.length:Int))))))))=true:=h;simp only [Bool.and_eq_true,Bool.or_eq_true,decide_eq_true_eq] at h;obtain ⟨hl,h1,hz,h⟩:=h;rw [qv (x:=y+1) (by omega) (by omega),qv (x:=y+2) (by omega) (by omega)]
 by_cases hq:y+1 >= x.length
 ·obtain ⟨v,e,h2,h3⟩:=a80_err 2 x (y+1) hq hl;rw [h2]
  show jn (jn (brO (e != 0) _ _) _) _=_;rw [qp (by simpa using h3)];rfl
 ·obtain ⟨h2,h3,h4⟩:=h.resolve_left hq;rw [a80_1 0 x (y+1) (by omega) (by omega) hl h2 h3]
  show jn (jn (some (.inl [(.int .u64 (qk x (y+1).toNat)),(.bool (decide (IntKind.wrap .i64 (y+2+IntKind.wrap .i64 (qk x (y+1).toNat)) >(Int.ofNat (List.length x)))))])) _) _=_;rw [qv h2 (by omega),qv (by omega) (by omega),show decide (y+2+qk x (y+1).toNat > Int.ofNat (List.length x))=true by simp; omega];rfl
theorem QM:wX Tryz.prog env 215 [.fs .u8,.int .i64] B215:=
 mK (cal:=cal215 A80) (H:=H215) (body:=D215.body) (vM S80) mix Tryz.func215 rfl (by decide) rfl (fun C _=>OvOk.none (by intro id; rfl)) (fun C hC=>QJ C hC)
  (fun xs hB hw=>by
   obtain ⟨x,y,rfl⟩:=wt2 hw
   exact ⟨2,VB x y hB⟩)
def A182:Fun:=fun n xs=>D182.runR Tryz.prog env (cal182 A128 A215) H182 (uQ (Tryz.f213.body.getD .skip)) 4 [2,3] n xs
theorem S182:K 182 D182 A182:=FnD.soundR (yz S128 S215) mix (H:=H182) Tryz.func182 rfl (by decide) rfl rfl (by kernel_rfl) (g:=213) (gn:=Tryz.f213) (i:=0) (at1:=#[]) (q1:=jY 0 0 (Tryz.f213.body.getD .skip)) (q2:=jY 0 1 (Tryz.f213.body.getD .skip)) (X:=uQ (Tryz.f213.body.getD .skip)) (e1:=2) (e2:=3) (ts:=[2,3]) (o1:=jY 1 0 D182.body) (o2:=jY 1 1 D182.body) rfl (by kernel_rfl) (by kernel_rfl) (by kernel_rfl) (by kernel_rfl) (by kernel_rfl) (by kernel_rfl) (by kernel_rfl) (by kernel_rfl)
  (fun C' hC hp id ops draw hreg hne φ hφ=>by
  have hφ0:=hφ;unfold H182 at hφ0;dsimp only at hφ0
  split at hφ0
  ·exact so (P:=Tryz.prog) (E:=env) (cal:=cal214) wq mix (J:=eS) (q:=.tmp 36) (xs:=#[]) (ats:=#[]) (by kernel_rfl) (by kernel_rfl) (by kernel_rfl) (by kernel_rfl) Tryz.func214 rfl (by decide) rfl rfl (by intro id; rfl) (by intro id; rfl) hC (Zv hp (by decide) (by decide)) lM (H:=H182) rfl hreg φ hφ
  ·exact so (P:=Tryz.prog) (E:=env) (cal:=cal214) wq mix (J:=iJ) (q:=.tmp 56) (xs:=#[]) (ats:=#[]) (by kernel_rfl) (by kernel_rfl) (by kernel_rfl) (by kernel_rfl) Tryz.func214 rfl (by decide) rfl rfl (by intro id; rfl) (by intro id; rfl) hC (Zv hp (by decide) (by decide)) lM (H:=H182) rfl hreg φ hφ
  ·exact (hne rfl).elim
  ·cases hφ0)
  (fun C hC=>Vt QM C hC) Tryz.func213 (by kernel_rfl) (by decide) rfl (by kernel_rfl) (by kernel_rfl) (by kernel_rfl) (by kernel_rfl) (by kernel_rfl) (by decide) (by decide) (mH (by kernel_rfl)) (mn (by kernel_rfl))
def A90:Fun:=fun n xs=>D90.run Tryz.prog env (cal90 A129 A130 A131 A133 A134) (H90 A130 A133 A134 A181 A182) n xs
theorem S90:K 90 D90 A90:=FnD.soundOv (fA S129 S130 S131 S133 S134) mix Tryz.func90 rfl (by decide) rfl rfl (by kernel_rfl) (fun C hC hp id ops draw hreg φ hφ=>by
  have hφ0:=hφ;unfold H90 at hφ0;dsimp only at hφ0
  split at hφ0
  ·exact so (P:=Tryz.prog) (E:=env) (cal:=cal132 A130 A133 A134 A181 A182) (fA S130 S133 S134 S181 S182) mix (J:=oQ) (q:=.func 132) (xs:=#[.tmp 8,.tmp 44]) (ats:=#[197,193]) (by kernel_rfl) (by kernel_rfl) (by kernel_rfl) (by kernel_rfl) Tryz.func132 rfl (by decide) rfl rfl (by intro id; rfl) (by intro id; rfl) hC (Zv hp (by decide) (by decide)) (Jg _) (H:=(H90 A130 A133 A134 A181 A182)) rfl hreg φ hφ
  ·cases hφ0) (fun C _=>PanH.none (by intro id; rfl))
def A52:Fun:=D52.R (cal52 A89 A90) H52
theorem S52:K 52 D52 A52:=sq (yz S89 S90) Tryz.func52
def A23:Fun:=D23.R (cal23 A26 A49 A50 A51 A52) H23
theorem S23:K 23 D23 A23:=sq (fA S26 S49 S50 S51 S52) Tryz.func23
def A30:Fun:=fun n l=>D30.run Tryz.prog env cal30 H30 n l
theorem S30:K 30 D30 A30:=sq wq Tryz.func30
def A44:Fun:=fun n l=>D44.run Tryz.prog env cal44 H44 n l
theorem S44:K 44 D44 A44:=sq wq Tryz.func44
def A76:Fun:=D76.R cal76 H76
theorem S76:K 76 D76 A76:=sq wq Tryz.func76
def A45:Fun:=fun n l=>D45.run Tryz.prog env (cal45 A17 A76) H45 n l
theorem S45:K 45 D45 A45:=sq (yz S17 S76) Tryz.func45
def A22:Fun:=D22.R (cal22 A32) H22
theorem S22:K 22 D22 A22:=sq (vM S32) Tryz.func22
def A24:Fun:=D24.R (cal24 A13 A23) H24
theorem S24:K 24 D24 A24:=sq (yz S13 S23) Tryz.func24
end
end Go.Proofs.YtlmnjnhmhacgkaaGreatDoor.Am
end
