/-
  Parse, and what is written is read as it was.
-/
import Derived.Test.YtlmnjnhmhacgkaaGreatDoorPkI
import Derived.Test.YtlmnjnhmhacgkaaGreatDoorPkF
import Derived.Test.YtlmnjnhmhacgkaaGreatDoorPkE
section
set_option linter.unusedVariables false
set_option linter.unusedSimpArgs false
set_option maxRecDepth 100000
namespace Go.Proofs.YtlmnjnhmhacgkaaGreatDoor.Am
open Go Go.Am Go.Proofs
theorem Qd {x y:Int} (h1:0<=x) (h2:x<=255) (h3:0<=y) (h4:y<=255):BitVec.toNat ((BitVec.ofInt 64 (x * 256)) ||| (BitVec.ofInt 64 y))=(x * 256+y).toNat:=by
 obtain ⟨a,rfl⟩:=Int.eq_ofNat_of_zero_le h1;obtain ⟨b,rfl⟩:=Int.eq_ofNat_of_zero_le h3
 have e1:(BitVec.ofInt 64 ((a:Int) * 256)).toNat=2 ^ 8 * a:=by
  rw [show (a:Int) * 256=((2 ^ 8 * a:Nat):Int) by omega,zt (by omega)]
 rw [BitVec.toNat_or,e1,zt (by omega),<-Nat.two_pow_add_eq_or_of_lt (by omega:b<2 ^ 8)];omega
theorem a78 (n:Nat) (b:List Int) (i:Nat) (hb:Bytes b) (h:i+1<b.length) (hl:b.length<2 ^ 44):A78 n [.fs .u8 b,.int .i64 (i:Nat)]=some [.int .i64 (two b i)]:=by
 show run78 n b (i:Nat)=_;rw [eq78];have g0:=hb.get i;have g1:=hb.get (i+1);have w:IntKind.wrap .i64 ((i:Int)+1)=((i+1:Nat):Int):=by rw [qv (by omega) (by omega)]; omega
 simp only [w,ql (show i<b.length by omega),ql h,bT,Int.toNat_natCast,Jw];rw [qv (x:=qk b i) (by omega) (by omega),qv (x:=qk b (i+1)) (by omega) (by omega),qv (x:=qk b i * 256) (by omega) (by omega),Qd g0.1 g0.2 g1.1 g1.2];unfold two;have:Int.ofNat (qk b i * 256+qk b (i+1)).toNat=qk b i * 256+qk b (i+1):=Int.toNat_of_nonneg (by omega);rw [this,qv (by omega) (by omega)]
theorem er {x:Int} {k:Nat} (h1:0<=x) (h2:x<2 ^ 62) (hk:k<=40):IntKind.wrap .i64 (Int.ofNat (BitVec.toNat ((BitVec.ofInt 64 x) &&& (BitVec.ofInt 64 ((2 ^ k - 1:Nat):Int)))))=x % (2 ^ k:Nat):=by
 obtain ⟨a,rfl⟩:=Int.eq_ofNat_of_zero_le h1;have hp:2 ^ k<=2 ^ 40:=Nat.pow_le_pow_right (by decide) hk
 have e:(BitVec.ofInt 64 ((a:Nat):Int) &&& BitVec.ofInt 64 ((2 ^ k - 1:Nat):Int)).toNat=a % 2 ^ k:=by
  rw [BitVec.toNat_and,zt (by omega),zt (by omega)];exact Nat.and_two_pow_sub_one_eq_mod a k
 have hm:a % 2 ^ k<2 ^ 40:=Nat.lt_of_lt_of_le (Nat.mod_lt _ (Nat.two_pow_pos k)) hp;rw [e];exact (qv (x:=((a % 2 ^ k:Nat):Int)) (by omega) (by omega)).trans (Int.natCast_emod a (2 ^ k))
theorem shr {x:Int} {k:Nat} (h1:0<=x) (hk:k<=63):Int.fdiv x (Int.ofNat (2 ^ (Min.min (Int.toNat (k:Int)) (IntKind.bits .i64))))=x / (2 ^ k:Nat):=by
 have:Min.min (Int.toNat (k:Int)) (IntKind.bits .i64)=k:=by
  rw [Int.toNat_natCast]; exact Nat.min_eq_left (by show k<=64; omega)
 rw [this];exact Int.fdiv_eq_ediv_of_nonneg _ (Int.natCast_nonneg _)
def ya (b:List Int) (s:List Tag × Nat):Int × List Tag × Nat:=zQ b (2 - s.1.length) s.1 s.2
def nk (b:List Int) (s:List Tag × Nat) (t:Int):AV:=Frm.av ⟨b.take 6,(b.take 12).drop 6,s.1,t,[]⟩
def pH (b:List Int) (s:List Tag × Nat):Sum (List AV) (List AV):=
 if (ya b s).1≠0 then .inr [Frm.z.av,.int .i64 (ya b s).1]
 else .inl [.fs .u8 b,Frm.z.av,nk b (ya b s).2 (two b (ya b s).2.2),.int .i64 ((ya b s).2.2:Nat)]
theorem yo {b:List Int} {s:List Tag × Nat} {e:Int} {r:List Tag × Nat} (h:ya b s=(e,r)) (he:e≠0):pH b s=.inr [Frm.z.av,.int .i64 e]:=by
 unfold pH; rw [h,if_pos he]
theorem lm {b:List Int} {s r:List Tag × Nat} (h:ya b s=(0,r)):pH b s=.inl [.fs .u8 b,Frm.z.av,nk b r (two b r.2),.int .i64 (r.2:Nat)]:=by
 unfold pH; rw [h,if_neg (fun h=>h rfl)]
theorem lJ (b:List Int):∀ (k:Nat) (ts:List Tag) (i:Nat),i+2<=b.length->(zQ b k ts i).1=0->(zQ b k ts i).2.2+2<=b.length
 | 0,ts,i,h,hz=>by
  unfold zQ at hz ⊢
  split
  ·rename_i hx; rw [if_pos hx] at hz; cases hz
  ·exact h
 | k+1,ts,i,h,hz=>by
  unfold zQ at hz ⊢
  split
  ·rename_i hx;rw [if_pos hx] at hz
   split
   ·rename_i hy; rw [if_pos hy] at hz; cases hz
   ·rename_i hy;rw [if_neg hy] at hz
    split
    ·rename_i hw; rw [if_pos hw] at hz; cases hz
    ·rename_i hw;rw [if_neg hw] at hz
     split
     ·rename_i hv; rw [if_pos hv] at hz; cases hz
     ·rename_i hv;rw [if_neg hv] at hz;exact lJ b k _ _ (by omega) hz
  ·exact h
theorem QZ {b:List Int} (hb:Bytes b) (i:Nat):0<=two b i/\two b i<=65535:=by
 have:=hb.get i;have:=hb.get (i+1);unfold two;omega
theorem a49 (n:Nat) (hn:2 ^ 63<n) (b:List Int) (hb:Bytes b) (hl:b.length<2 ^ 44):A49 n [.fs .u8 b]=some [(qo b).1.av,.int .i64 (qo b).2]:=by
 show run49 A77 A78 A79 n b=_;rw [eq49];unfold qo
 by_cases h1:b.length > 65535
 ·rw [if_pos h1,qp (by exact decide_eq_true (by show (65535:Int)<((b.length:Nat):Int); omega))];rfl
 rw [if_neg h1,qi (by exact decide_eq_false (by show ¬ (65535:Int)<((b.length:Nat):Int); omega))]
 by_cases h2:b.length<14
 ·rw [if_pos h2,qp (by exact decide_eq_true (by show ((b.length:Nat):Int)<14; omega))];rfl
 rw [if_neg h2,qi (by exact decide_eq_false (by show ¬ ((b.length:Nat):Int)<14; omega))];have c6:decide ((6:Int)<=Int.ofNat b.length)=true:=decide_eq_true (by show (6:Int)<=((b.length:Nat):Int); omega);have c12:decide ((12:Int)<=Int.ofNat b.length)=true:=decide_eq_true (by show (12:Int)<=((b.length:Nat):Int); omega);have cl:decide (Int.ofNat b.length<=Int.ofNat b.length)=true:=decide_eq_true (Int.le_refl _);have t6:Nat.ble 6 (List.length (List.take 6 b))=true:=Nat.ble_eq_true_of_le (by rw [List.length_take]; omega);have t12:Nat.ble 6 (List.length (List.take 6 (List.drop 6 b)))=true:=Nat.ble_eq_true_of_le (by rw [List.length_take,List.length_drop]; omega);have e6:List.take 6 (List.take 6 b)=b.take 6:=by rw [List.take_take]; rfl
 have e12:List.take 6 (List.take 6 (List.drop 6 b))=(b.take 12).drop 6:=by rw [List.take_take,List.drop_take]; rfl
 simp only [ZZ,c6,c12,cl,t6,t12,Bool.and_self,e6,e12];rw [a77 n _ ((hb.take 12).drop 6)]
 by_cases h3:xQ ((b.take 12).drop 6)
 ·rw [if_pos h3];simp only [ZZ,decide_eq_true h3];rfl
 rw [if_neg h3];simp only [ZZ,decide_eq_false h3];have hz:(AV.agg [(.arr .u8 6 [0,0,0,0,0,0]),(.arr .u8 6 [0,0,0,0,0,0]),(.fv s79 []),(.int .i64 0),(.fs .u8 [])])=Frm.z.av:=rfl;have hf:(AV.agg [(.arr .u8 6 (b.take 6)),(.arr .u8 6 ((b.take 12).drop 6)),(.fv s79 []),(.int .i64 0),(.fs .u8 [])])=nk b ([],12) 0:=rfl;refine wZ (fun s:List Tag × Nat=>[.fs .u8 b,Frm.z.av,nk b s 0,.int .i64 (s.2:Nat)]) (fun s=>2 - s.1.length)
  (fun s=>pH b s) (fun s=>s.1.length<=2/\s.2+2<=b.length) ([],12) (by show 2 - 0<n; omega) ⟨by decide,by show 12+2<=b.length; omega⟩ (fun s K hs hK=>?_) ?_
 ·obtain ⟨ts,i⟩:=s;dsimp only at hs hK ⊢;simp only [ZZ];rw [a78 n b i hb (by omega) hl];have ht:=QZ hb i;have h79:=a79 n (two b i);simp only [ZZ,h79]
  by_cases c1:wV (two b i)
  ·have c1' : decide (wV (two b i))=true:=decide_eq_true c1;rw [c1'];simp only [ZZ,Bool.not_true];have hfi:∀ t,(nk b (ts,i) t).item 2=.fv s79 (ts.map Tag.av):=fun t=>rfl
   have hm:(Int.ofNat (List.map Tag.av ts).length)=((ts.length:Nat):Int):=by rw [List.length_map]; rfl
   simp only [hfi,ZZ,hm]
   by_cases c2:ts.length=2
   ·have d:(((ts.length:Nat):Int) == 2)=true:=by rw [c2]; rfl
    have he:ya b (ts,i)=(51,[],0):=by
     show zQ b (2 - ts.length) ts i=_;rw [c2]; show zQ b 0 ts i=_; unfold zQ; rw [if_pos c1]
    rw [yo he (by decide)];simp only [ZZ,d];rfl
   ·have d:(((ts.length:Nat):Int) == 2)=false:=by simp; omega
    obtain ⟨k,hk⟩ : ∃ k,2 - ts.length=k+1:=⟨1 - ts.length,by omega⟩;have hE:ya b (ts,i)=zQ b (k+1) ts i:=by show zQ b (2 - ts.length) ts i=_; rw [hk]
    rw [show zQ b (k+1) ts i=_ from by rw [zQ,if_pos c1]] at hE;simp only [ZZ,d];refine pD (y:=if (ts.length=1/\two b i=34984)\/b.length<i+6 then some (Sum.inr (Sum.inr [Frm.z.av,.int .i64 (if ts.length=1/\two b i=34984 then 51 else 50)])) else some (Sum.inl [.fs .u8 b,Frm.z.av,nk b (ts,i) 0,.int .i64 (i:Nat),.int .i64 (two b i)])) ?_ ?_
    ·have w6:IntKind.wrap .i64 ((i:Int)+6)=((i+6:Nat):Int):=by rw [qv (by omega) (by omega)]; omega
     refine pD (y:=some (Sum.inl [.fs .u8 b,Frm.z.av,nk b (ts,i) 0,.int .i64 (i:Nat),.int .i64 (two b i),.bool (decide (ts.length=1/\two b i=34984))])) ?_ ?_
     ·by_cases c3:ts.length=1
      ·have d3:(((ts.length:Nat):Int) == 1)=true:=by rw [c3]; rfl
       have d4:(two b i == 34984)=decide (ts.length=1/\two b i=34984):=by simp [c3]; rfl
       simp only [ZZ,d3,d4];rfl
      ·have d3:(((ts.length:Nat):Int) == 1)=false:=by simp; omega
       have d4:decide (ts.length=1/\two b i=34984)=false:=decide_eq_false (fun h=>c3 h.1);simp only [ZZ,d3,d4];rfl
     ·simp only [ZZ,w6]
      by_cases c4:ts.length=1/\two b i=34984
      ·rw [if_pos (.inl c4),if_pos c4];simp only [ZZ,decide_eq_true c4];rfl
      ·simp only [ZZ,decide_eq_false c4]
       by_cases c5:b.length<i+6
       ·rw [if_pos (.inr c5),if_neg c4];refine (qp (by exact decide_eq_true (by show ((b.length:Nat):Int)<_; omega))).trans ?_;rfl
       ·rw [if_neg (fun h=>h.elim c4 c5)];refine (qi (by exact decide_eq_false (by show ¬ ((b.length:Nat):Int)<_; omega))).trans ?_;rfl
    ·by_cases c4:ts.length=1/\two b i=34984
     ·rw [if_pos (.inl c4),if_pos c4];rw [if_pos c4] at hE;rw [yo hE (by decide)];rfl
     ·rw [if_neg c4] at hE
      by_cases c5:b.length<i+6
      ·rw [if_pos (.inr c5),if_neg c4];rw [if_pos c5] at hE;rw [yo hE (by decide)];rfl
      ·rw [if_neg c5] at hE;rw [if_neg (fun h=>h.elim c4 c5)];have w2:IntKind.wrap .i64 ((i:Int)+2)=((i+2:Nat):Int):=by rw [qv (by omega) (by omega)]; omega
       have w4:IntKind.wrap .i64 ((i:Int)+4)=((i+4:Nat):Int):=by rw [qv (by omega) (by omega)]; omega
       have hw:=QZ hb (i+2);have l12:IntKind.wrap .i64 (Int.ofNat (BitVec.toNat ((BitVec.ofInt 64 (two b (i+2))) &&& (BitVec.ofInt 64 4095))))=two b (i+2) % 4096:=er (k:=12) hw.1 (by omega) (by decide);simp only [ZZ,w2];rw [a78 n b (i+2) hb (by omega) hl];simp only [ZZ,l12]
       by_cases c6:two b (i+2) % 4096=4095
       ·rw [if_pos c6] at hE;rw [yo hE (by decide)];simp only [ZZ,show (two b (i+2) % 4096 == 4095)=true by simpa using c6];rfl
       ·rw [if_neg c6] at hE
        have hE2:ya b (ts,i)=ya b (ts++[fg (two b i) (two b (i+2))],i+4):=by
         rw [hE]
         show _=zQ b (2 - (ts++[fg (two b i) (two b (i+2))]).length) _ _;rw [List.length_append,show 2 - (ts.length+[fg (two b i) (two b (i+2))].length)=k by simp; omega]
        have hO:pH b (ts,i)=pH b (ts++[fg (two b i) (two b (i+2))],i+4):=by unfold pH; rw [hE2]
        have hK1:=hK (ts++[fg (two b i) (two b (i+2))],i+4) (by show 2 - (ts++_).length<2 - ts.length; rw [List.length_append]; simp; omega) ⟨by show (ts++_).length<=2; rw [List.length_append]; simp; omega,by show i+4+2<=b.length; omega⟩;dsimp only at hK1;rw [hO,<-hK1];have hble:Nat.ble (((List.map Tag.av ts).length+1) * 32) 140737488355328=true:=qT (by rw [List.length_map]; omega);have s13:=shr (x:=two b (i+2)) (k:=13) hw.1 (by decide);have s12:=shr (x:=two b (i+2)) (k:=12) hw.1 (by decide);have q1:IntKind.wrap .i64 (Int.ofNat (BitVec.toNat ((BitVec.ofInt 64 (two b (i+2) / 4096)) &&& (BitVec.ofInt 64 1))))=two b (i+2) / 4096 % 2:=er (k:=1) (by omega) (by omega) (by decide);have s13' : Int.fdiv (two b (i+2)) (Int.ofNat (2 ^ (Min.min (Int.toNat 13) (IntKind.bits .i64))))=two b (i+2) / 8192:=s13;have s12' : Int.fdiv (two b (i+2)) (Int.ofNat (2 ^ (Min.min (Int.toNat 12) (IntKind.bits .i64))))=two b (i+2) / 4096:=s12;simp only [ZZ,show (two b (i+2) % 4096 == 4095)=false by simpa using c6,hfi,hble,s13',s12',q1,w4];refine congrArg K ?_;unfold nk
        show [_,_,AV.agg [_,_,.fv s79 (List.map Tag.av ts++[_]),_,_],_]=[_,_,AV.agg [_,_,.fv s79 (List.map Tag.av (ts++[fg (two b i) (two b (i+2))])),_,_],_];rw [List.map_append];rfl
  ·have c1' : decide (wV (two b i))=false:=decide_eq_false c1;rw [c1'];simp only [ZZ,Bool.not_false]
   have he:ya b (ts,i)=(0,ts,i):=by
    show zQ b (2 - ts.length) ts i=_
    cases hk:2 - ts.length with
    | zero=>unfold zQ; rw [if_neg c1]
    | succ k=>rw [zQ,if_neg c1]
   rw [lm he];rfl
 ·have hE:ya b ([],12)=zQ b 2 [] 12:=rfl
  by_cases c1:(zQ b 2 [] 12).1=0
  ·rw [if_neg (by simpa using c1)];rw [lm (r:=(zQ b 2 [] 12).2) (by rw [hE,<-c1])];have hle:=lJ b 2 [] 12 (by omega) c1;generalize (zQ b 2 [] 12).2=r at *;obtain ⟨ts,i⟩:=r;dsimp only at hle ⊢;have hfi:∀ t,(nk b (ts,i) t).item 3=.int .i64 t:=fun t=>rfl
   have w2:IntKind.wrap .i64 ((i:Int)+2)=((i+2:Nat):Int):=by rw [qv (by omega) (by omega)]; omega
   simp only [ZZ,hfi,w2]
   by_cases c2:two b i<1536
   ·rw [if_pos c2];refine (qp (by exact decide_eq_true c2)).trans ?_;rfl
   ·rw [if_neg c2];refine (qi (by exact decide_eq_false c2)).trans ?_;have d1:decide ((0:Int)<=((i+2:Nat):Int))=true:=decide_eq_true (by omega);have d2:decide (((i+2:Nat):Int)<=Int.ofNat b.length)=true:=decide_eq_true (by show _<=((b.length:Nat):Int); omega);simp only [ZZ,d1,d2];refine (qp (by exact decide_eq_true (Int.le_refl (Int.ofNat b.length)))).trans ?_;have e2:List.take (b.length - (i+2)) (List.drop (i+2) b)=b.drop (i+2):=List.take_of_length_le (by rw [List.length_drop]; omega)
    show some [AV.agg [_,_,_,_,.fs .u8 (List.take (b.length - (i+2)) (List.drop (i+2) b))],_]=_;rw [e2];rfl
  ·rw [if_pos (by simpa using c1)];rw [yo (r:=(zQ b 2 [] 12).2) hE c1];rfl
theorem Qy {R σ:Type} {g:List AV->(List AV->Option R)->Option R} (enc:σ->List AV) (μ:σ->Nat) (P:σ->R->Prop) (Good:σ->Prop)
  (hstep:∀ x k,Good x->(∀ y,μ y<μ x->Good y->∃ o,k (enc y)=some o/\P y o)->∃ o,g (enc x) k=some o/\P x o):∀ n x,μ x<n->Good x->∃ o,iter g n (enc x)=some o/\P x o:=by
 intro n
 induction n with
 | zero=>intro x h; omega
 | succ n ih=>
  intro x h hg;exact hstep x (iter g n) hg (fun y hy hgy=>ih y (by omega) hgy)
theorem QV {R σ:Type} {g:List AV->(List AV->Option (Sum (List AV) R))->Option (Sum (List AV) R)} {n:Nat} {K:List AV->Option R} {r:Option R} (enc:σ->List AV) (μ:σ->Nat) (P:σ->Sum (List AV) R->Prop) (Good:σ->Prop) (x:σ) (hμ:μ x<n) (hg:Good x)
  (hstep:∀ x k,Good x->(∀ y,μ y<μ x->Good y->∃ o,k (enc y)=some o/\P y o)->∃ o,g (enc x) k=some o/\P x o) (hK:∀ o,P x o->jn (some o) K=r):jn (iter g n (enc x)) K=r:=by
 obtain ⟨o,e,h⟩:=Qy enc μ P Good hstep n x hμ hg;rw [e];exact hK o h
theorem a120_2 (n:Nat):A120 n [.int .i64 2]=some [.bool true]:=rfl
def bw (x:List Int) (y:Nat):Nat->Int
 | 0=>0
 | 1=>qk x y
 | _=>two x y
theorem aa {x:List Int} (hb:Bytes x) (y:Nat):∀ {t:Nat},t<2->0<=bw x y t/\bw x y t<=255/\bw x y (t+1)=bw x y t * 256+qk x (y+t)
 | 0,_=>⟨Int.le_refl 0,by show (0:Int)<=255; decide,by show qk x y=0 * 256+qk x (y+0); rw [Nat.add_zero]; omega⟩
 | 1,_=>⟨(hb.get y).1,(hb.get y).2,rfl⟩
theorem a122_2 (n:Nat) (hn:2 ^ 63<n) (x:List Int) (y:Nat) (hb:Bytes x) (h2:y+1<x.length) (hl:x.length<2 ^ 44):A122 n [.fs .u8 x,.int .i64 (y:Nat),.int .i64 2]=some [.int .u64 (two x y)]:=by
 show run122 A126 n x (y:Nat) 2=_;rw [eq122];have d1:decide (((y:Nat):Int)<0)=false:=decide_eq_false (by omega);have d2:decide (((y:Nat):Int) > Int.ofNat x.length)=false:=decide_eq_false (by show ¬ ((x.length:Nat):Int)<_; omega);simp only [ZZ,d1,d2];have g0:=hb.get y;have g1:=hb.get (y+1);refine xi (fun t:Nat=>[.fs .u8 x,.int .i64 (y:Nat),.int .u64 (bw x y t),.int .i64 2,.int .i64 (t:Nat)]) (fun t=>2 - t) (fun _=>[.int .u64 (two x y)]) (fun t=>t<=2) 0 (by show 2 - 0<n; omega) (Nat.zero_le _) (fun t K ht hK=>?_) ?_
 ·simp only [ZZ]
  by_cases ht2:t<2
  ·have w:IntKind.wrap .i64 ((y:Int)+(t:Int))=((y+t:Nat):Int):=by rw [qv (by omega) (by omega)]; omega
   have w1:IntKind.wrap .i64 ((t:Int)+1)=((t+1:Nat):Int):=by rw [qv (by omega) (by omega)]; omega
   have hK1:=hK (t+1) (by show 2 - (t+1)<2 - t; omega) (by show t+1<=2; omega);have h126:=a126 n x ((y+t:Nat):Int) (by omega) (by omega);rw [Int.toNat_natCast] at h126;have hgt:=hb.get (y+t);refine (qp (by exact decide_eq_true (by omega))).trans ?_;refine (qi (by rw [Bool.or_eq_false_iff]; exact ⟨decide_eq_false (by rw [w]; omega),decide_eq_false (by rw [w]; show ¬ ((x.length:Nat):Int)<=_; omega)⟩)).trans ?_;rw [w,h126];have hacc:=aa hb y ht2
   have sh:bw x y t * (Int.ofNat (2 ^ (Min.min (Int.toNat 8) (IntKind.bits .u64))))=bw x y t * 256:=by
    have:(Int.ofNat (2 ^ (Min.min (Int.toNat 8) (IntKind.bits .u64))))=256:=by decide
    rw [this]
   have e:Int.ofNat (bw x y t * 256+qk x (y+t)).toNat=bw x y t * 256+qk x (y+t):=Int.toNat_of_nonneg (by omega);simp only [ZZ,sh,w1];rw [kA (x:=bw x y t * 256) (by omega) (by omega),kA (x:=qk x (y+t)) (by omega) (by omega),Qd hacc.1 hacc.2.1 hgt.1 hgt.2,e,kA (by omega) (by omega),<-hacc.2.2];exact hK1
  ·have:t=2:=by omega
   subst this;rw [qi (by exact decide_eq_false (by omega))];rfl
 ·simp only [ZZ]
theorem a80_2 (n:Nat) (hn:2 ^ 63<n) (x:List Int) (y:Nat) (hb:Bytes x) (h2:y+1<x.length) (hl:x.length<2 ^ 44):A80 n [.fs .u8 x,.int .i64 (y:Nat),.int .i64 2]=some [.int .u64 (two x y),.int .i64 0]:=by
 show run80 A120 A122 n x (y:Nat) 2=_;rw [eq80,a120_2]
 show brO (decide (x.length<=2 ^ 47) && (decide (((y:Nat):Int)<0) || (decide (((y:Nat):Int) >(x.length:Nat)) || (decide ((0:Int)<2) && (decide ((2:Int)<=8) && decide (((y:Nat):Int)+2 >(x.length:Nat))))))) _ _=_;rw [qi (by simp; omega),a122_2 n hn x y hb h2 hl];rfl
theorem QA {x y:Int} (h1:0<=x/\x<=255) (h2:0<=y/\y<=255) (h:Go.Am.toU8 x=Go.Am.toU8 y):x=y:=by
 have e:∀ z:Int,0<=z/\z<=255->(Go.Am.toU8 z).toNat=z.toNat:=fun z hz=>by
  unfold Go.Am.toU8;rw [UInt8.toNat_ofNat'];omega
 have:=congrArg UInt8.toNat h;rw [e x h1,e y h2] at this;omega
theorem iq:∀ {l m:List Int},Bytes l->Bytes m->l.map Go.Am.toU8=m.map Go.Am.toU8->l=m
 | [],[],_,_,_=>rfl
 | [],y::m,_,_,h=>by cases h
 | x::l,[],_,_,h=>by cases h
 | x::l,y::m,hl,hm,h=>by
  injection h with h1 h2;rw [QA (hl x (List.mem_cons_self ..)) (hm y (List.mem_cons_self ..)) h1,iq (fun z hz=>hl z (List.mem_cons_of_mem _ hz)) (fun z hz=>hm z (List.mem_cons_of_mem _ hz)) h2]
theorem Zc {l:List Int} (h:Bytes l):((List.map Go.Am.toU8 l) ==[0,1,8,0,6,4])=decide (l=wP):=by
 have e:List.map Go.Am.toU8 wP=[0,1,8,0,6,4]:=by decide
 have hf:Bytes wP:=by unfold Bytes wP; decide
 rw [<-e]
 by_cases c:l=wP
 ·rw [c,decide_eq_true rfl]; exact beq_self_eq_true _
 ·rw [decide_eq_false c]
  cases hb:List.map Go.Am.toU8 l == List.map Go.Am.toU8 wP with
  | false=>rfl
  | true=>exact absurd (iq h hf (eq_of_beq hb)) c
theorem a50 (n:Nat) (hn:2 ^ 63<n) (b:List Int) (hb:Bytes b) (hl:b.length<2 ^ 44):A50 n [.fs .u8 b]=some [(zy b).1.av,.int .i64 (zy b).2]:=by
 show run50 A80 A81 A82 n b=_;rw [eq50];unfold zy
 by_cases h1:b.length > 65535
 ·rw [if_pos h1,qp (by exact decide_eq_true (by show (65535:Int)<((b.length:Nat):Int); omega))];rfl
 rw [if_neg h1,qi (by exact decide_eq_false (by show ¬ (65535:Int)<((b.length:Nat):Int); omega))]
 by_cases h2:b.length<28
 ·rw [if_pos h2,qp (by exact decide_eq_true (by show ((b.length:Nat):Int)<28; omega))];rfl
 rw [if_neg h2,qi (by exact decide_eq_false (by show ¬ ((b.length:Nat):Int)<28; omega))];have cL:∀ k:Nat,k<=28->decide ((k:Int)<=Int.ofNat b.length)=true:=fun k hk=>decide_eq_true (by show (k:Int)<=((b.length:Nat):Int); omega)
 have c6:decide ((6:Int)<=Int.ofNat b.length)=true:=cL 6 (by decide);have c14:decide ((14:Int)<=Int.ofNat b.length)=true:=cL 14 (by decide);have c18:decide ((18:Int)<=Int.ofNat b.length)=true:=cL 18 (by decide);have c24:decide ((24:Int)<=Int.ofNat b.length)=true:=cL 24 (by decide);have c28:decide ((28:Int)<=Int.ofNat b.length)=true:=cL 28 (by decide);have cl:decide (Int.ofNat b.length<=Int.ofNat b.length)=true:=decide_eq_true (Int.le_refl _);have hf:=Zc (hb.take 6)
 by_cases h3:b.take 6=wP
 ·rw [if_neg (by simpa using h3)];rw [decide_eq_true h3] at hf;have h80:A80 n [.fs .u8 b,.int .i64 6,.int .i64 2]=_:=a80_2 n hn b 6 hb (by omega) hl;have t6:Nat.ble 6 (List.length (List.take 6 (List.drop 8 b)))=true:=Nat.ble_eq_true_of_le (by rw [List.length_take,List.length_drop]; omega);have t18:Nat.ble 6 (List.length (List.take 6 (List.drop 18 b)))=true:=Nat.ble_eq_true_of_le (by rw [List.length_take,List.length_drop]; omega);have e8:List.take 6 (List.take 6 (List.drop 8 b))=(b.take 14).drop 8:=by rw [List.take_take,List.drop_take]; rfl
  have e18:List.take 6 (List.take 6 (List.drop 18 b))=(b.take 24).drop 18:=by rw [List.take_take,List.drop_take]; rfl
  have h811:=a81 n (List.take 4 (List.drop 14 b)) (by rw [List.length_take,List.length_drop]; omega);have h812:=a81 n (List.take 4 (List.drop 24 b)) (by rw [List.length_take,List.length_drop]; omega);rw [a4_take] at h811 h812;have ht:=QZ hb 6;have w:IntKind.wrap .i64 (two b 6)=two b 6:=qv (by omega) (by omega);have h82:=a82 n (two b 6) ((b.take 14).drop 8) ((hb.take 14).drop 8);simp only [ZZ,c6,c14,c18,c24,c28,cl,Bool.and_self,hf,Bool.not_true,h80,t6,t18,h811,h812,w,e8,e18,h82]
  by_cases h4:wE (two b 6) ((b.take 14).drop 8)=0
  ·rw [if_neg (by simpa using h4)];simp only [ZZ,show (wE (two b 6) ((b.take 14).drop 8) != 0)=false by simpa using h4]
  ·rw [if_pos (by simpa using h4)];simp only [ZZ,show (wE (two b 6) ((b.take 14).drop 8) != 0)=true by simpa using h4];rfl
 ·rw [if_pos (by simpa using h3)];rw [decide_eq_false h3] at hf;simp only [ZZ,c6,cl,Bool.and_self,hf,Bool.not_false];rfl
theorem a88 (n:Nat) (l:List Int) (h:l.length=4):A88 n [.fs .u8 l]=some [Ip.av ⟨4,a4 l⟩]:=by
 match l,h with
 | [a,b,c,d],_=>exact eq88 n [a,b,c,d]
def WG (l:List Opt):Option (List Opt)->Sum (List AV) (List AV)->Prop
 | none,o=>o=.inr [.fv s93 [],.int .i64 65]
 | some m,o=>o=.inl [.fv s93 ((l++m).map Opt.av)]\/o=.inr [.fv s93 ((l++m).map Opt.av),.int .i64 0]
theorem QW (l:List Opt) (x:Opt) (m:Option (List Opt)) (o:Sum (List AV) (List AV)):WG l (m.map (fun y=>x::y)) o=WG (l++[x]) m o:=by
 cases m with
 | none=>rfl
 | some m=>show (_\/_)=(_\/_); rw [List.append_assoc]; rfl
theorem a85 (n:Nat) (hn:2 ^ 63<n) (b:List Int) (hb:Bytes b) (hl:b.length<2 ^ 44):A85 n [.fs .u8 b]=some [.fv s93 ((kH b).1.map Opt.av),.int .i64 (kH b).2]:=by
 show run85 n b=_;rw [eq85];unfold kH
 by_cases h40:b.length > 40
 ·rw [if_pos h40,qp (by simp; omega)];rfl
 ·rw [if_neg h40,qi (by simp; omega)];refine QV (fun s:Nat × List Opt=>[.fs .u8 b,.fv s93 (s.2.map Opt.av),.int .i64 (s.1:Nat)]) (fun s=>b.length - s.1)
   (fun s=>WG s.2 (gS fQ (b.drop s.1))) (fun s=>s.1<=b.length/\s.2.length<=s.1) (0,[]) (by show b.length - 0<n; omega) ⟨Nat.zero_le _,by simp⟩ (fun s K hs hK=>?_) ?_
  ·obtain ⟨i,l⟩:=s;dsimp only at hs hK ⊢;simp only [ZZ,List.length_map,Int.ofNat_eq_natCast]
   by_cases hi:i<b.length
   ·have hk:=hb.get i;have w0:IntKind.wrap .i64 (qk b i)=qk b i:=qv (by omega) (by omega);have w1:IntKind.wrap .i64 ((i:Int)+1)=((i+1:Nat):Int):=by rw [qv (by omega) (by omega)]; omega
    rw [qp (by simpa using hi),ql hi];simp only [ZZ,Int.toNat_natCast,w0,w1]
    by_cases k0:qk b i=0
    ·rw [qp (by simpa using k0),List.drop_eq_getElem_cons hi,<-jT hi,k0,bo];exact ⟨_,rfl,.inr (by simp)⟩
    rw [qi (by simpa using k0)]
    by_cases k1:qk b i=1
    ·rw [qp (by simpa using k1),List.drop_eq_getElem_cons hi,<-jT hi,k1,rB];exact hK (i+1,l) (by show b.length - (i+1)<b.length - i; omega) ⟨by show i+1<=b.length; omega,by show l.length<=i+1; omega⟩
    rw [qi (by simpa using k1)]
    by_cases he:i+1=b.length
    ·rw [qp (by simp; omega),da he,rf k0 k1];exact ⟨_,rfl,rfl⟩
    rw [qi (by simp; omega),ql (show i+1<b.length by omega),di (show i+1<b.length by omega)];have hn1:=hb.get (i+1);have w2:IntKind.wrap .i64 (qk b (i+1))=qk b (i+1):=qv (by omega) (by omega);have w3:IntKind.wrap .i64 ((i:Int)+qk b (i+1))=(i:Int)+qk b (i+1):=qv (by omega) (by omega);have w4:IntKind.wrap .i64 ((i:Int)+2)=(i:Int)+2:=qv (by omega) (by omega);have hdl:(b.drop (i+2)).length=b.length - (i+2):=List.length_drop;simp only [ZZ,w2,Int.toNat_natCast,w3,w4];generalize hkk:qk b i=k at hk k0 k1 w0 ⊢;generalize hmm:qk b (i+1)=m at hn1 ⊢;rw [tz k0 k1,hdl]
    by_cases c1:m<2
    ·rw [if_pos (.inl c1)];exact ⟨_,by simp [ZY,c1],rfl⟩
    by_cases c2:(i:Int)+m > b.length
    ·rw [if_pos (.inr (.inl (by omega)))];exact ⟨_,by simp [ZY,c1,c2],rfl⟩
    have c4:¬ (m<2\/m - 2 >((b.length - (i+2):Nat):Int)\/fQ k m=false):=fun h=>by
     rcases h with h | h | h
     ·exact c1 h
     ·omega
     ·cases h
    rw [if_neg c4];obtain ⟨o,e,hP⟩:=hK (i+m.toNat,l++[⟨k,(b.drop (i+2)).take (m - 2).toNat⟩]) (by show b.length - (i+m.toNat)<b.length - i; omega) ⟨by show i+m.toNat<=b.length; omega,by show (l++[_]).length<=i+m.toNat; rw [List.length_append]; simp; omega⟩;dsimp only at e hP;rw [List.drop_drop,show i+2+(m - 2).toNat=i+m.toNat by omega];refine ⟨o,Eq.trans ?_ e,by rw [QW]; exact hP⟩;have d1:(0:Int)<=(i:Int)+2:=by omega
    have d2:(i:Int)+2<=(i:Int)+m:=by omega
    have d3:(i:Int)+m<=b.length:=by omega
    have d4:Nat.ble ((l.length+1) * 32) 140737488355328=true:=qT (by omega);have d5:((i:Int)+m).toNat - (i+2)=(m - 2).toNat:=by omega
    have w5:IntKind.wrap .i64 ((i:Int)+m)=(i:Int)+m:=qv (by omega) (by omega);have d6:((i:Int)+2).toNat=i+2:=by omega
    have d7:((i:Int)+m)=((i+m.toNat:Nat):Int):=by omega
    simp only [ZZ,c1,c2,w5,w4,w0,hkk,decide_false,List.length_map,Bool.not_true,d1,d2,d3,decide_true,Bool.and_self,Bool.and_true,d4,d5,d6,Int.le_refl,ql hi,Int.toNat_natCast];refine congrArg K ?_;rw [d7];simp [Opt.av]
   ·have:i=b.length:=by omega
    subst this;rw [qi (by simp),List.drop_length];exact ⟨_,rfl,.inl (by simp)⟩
  ·intro o ho;dsimp only at ho;rw [List.drop_zero] at ho;unfold gS at ho
   cases hg:vG fQ b.length b with
   | none=>rw [hg] at ho; rw [show o=_ from ho]; rfl
   | some m=>
    rw [hg] at ho
    rcases ho with ho | ho <;>(rw [ho]; rfl)
theorem a83f (n:Nat) (hn:2 ^ 63<n) (b:List Int) (hb:Bytes b) (hl:20<=b.length) (hl2:b.length<2 ^ 60):A83 n [.fs .u8 b,.int .i64 0,.fs .i64 [4,4,8,16,16,1,1,1,13,8,8,16]]=some [.fs .i64 [fld b 0 4,fld b 4 4,fld b 8 8,fld b 16 16,fld b 32 16,fld b 48 1,fld b 49 1,fld b 50 1,fld b 51 13,fld b 64 8,fld b 72 8,fld b 80 16],.int .i64 12,.int .i64 0]:=by
 obtain ⟨k,rfl⟩ : ∃ k,n=k+16:=⟨n - 16,by omega⟩;exact a83 (k+16) b 0 [4,4,8,16,16,1,1,1,13,8,8,16] (by unfold WOk; decide) 12 rfl (by decide) (by omega) (by show 12<k+16; omega) (by decide) (by omega) hl2 hb (Wd k)
theorem a51 (n:Nat) (hn:2 ^ 63<n) (b:List Int) (hb:Bytes b) (hl:b.length<2 ^ 44):A51 n [.fs .u8 b]=some [(qO b).1.av,.int .i64 (qO b).2]:=by
 show run51 A83 A84 A85 A86 A87 A88 n b=_;rw [eq51];unfold qO
 by_cases h1:b.length > 65535
 ·rw [if_pos h1,qp (by exact decide_eq_true (by show (65535:Int)<((b.length:Nat):Int); omega))];rfl
 rw [if_neg h1,qi (by exact decide_eq_false (by show ¬ (65535:Int)<((b.length:Nat):Int); omega))]
 by_cases h2:b.length<20
 ·rw [if_pos h2,qp (by exact decide_eq_true (by show ((b.length:Nat):Int)<20; omega))];rfl
 rw [if_neg h2,qi (by exact decide_eq_false (by show ¬ ((b.length:Nat):Int)<20; omega))];have h83:=a83f n hn b hb (by omega) (by omega);have r1:=cA b 4 4;have r3:=cA b 16 16;have r8:=cA b 51 13;have hw:IntKind.wrap .i64 (4 * fld b 4 4)=4 * fld b 4 4:=qv (by omega) (by omega);have hw8:IntKind.wrap .i64 (8 * fld b 51 13)=8 * fld b 51 13:=qv (by omega) (by omega);obtain ⟨L,hL,l12,g0,g1,g2,g3,g4,g6,g7,g8,g9,g10⟩ : ∃ L,A83 n [.fs .u8 b,.int .i64 0,.fs .i64 [4,4,8,16,16,1,1,1,13,8,8,16]]=some [.fs .i64 L,.int .i64 12,.int .i64 0]/\L.length=12/\qk L 0=fld b 0 4/\qk L 1=fld b 4 4/\qk L 2=fld b 8 8/\qk L 3=fld b 16 16/\qk L 4=fld b 32 16/\qk L 6=fld b 49 1/\qk L 7=fld b 50 1/\qk L 8=fld b 51 13/\qk L 9=fld b 64 8/\qk L 10=fld b 72 8:=⟨_,h83,rfl,rfl,rfl,rfl,rfl,rfl,rfl,rfl,rfl,rfl,rfl⟩;have i0:inR 0 12=true:=rfl;have i1:inR 1 12=true:=rfl;have i2:inR 2 12=true:=rfl;have i3:inR 3 12=true:=rfl;have i4:inR 4 12=true:=rfl;have i6:inR 6 12=true:=rfl;have i7:inR 7 12=true:=rfl;have i8:inR 8 12=true:=rfl;have i9:inR 9 12=true:=rfl;have i10:inR 10 12=true:=rfl;have ht:((b.take (4 * fld b 4 4).toNat).drop 20).length<2 ^ 44:=by rw [List.length_drop,List.length_take]; omega
 have h85:=a85 n hn ((b.take (4 * fld b 4 4).toNat).drop 20) ((hb.take _).drop _) ht;generalize hO:(kH ((b.take (4 * fld b 4 4).toNat).drop 20))=op at *;have h84:=a84 n [b.take (4 * fld b 4 4).toNat] (fun q hq=>by rw [List.mem_singleton.1 hq]; exact ⟨hb.take _,by rw [List.length_take]; omega⟩) (by simp) hn;rw [show fsL [b.take (4 * fld b 4 4).toNat]=[.fs .u8 (b.take (4 * fld b 4 4).toNat)] from rfl,show [b.take (4 * fld b 4 4).toNat].flatten=b.take (4 * fld b 4 4).toNat by simp] at h84;simp only [ZZ,hL,l12,i0,i1,i3,g0,g1,g3,hw]
 refine pD (y:=if fld b 0 4≠4 then some (.inr [Ip4.z.av,.int .i64 61]) else if 4 * fld b 4 4<20\/4 * fld b 4 4 > b.length then some (.inr [Ip4.z.av,.int .i64 62])
  else if fld b 16 16<4 * fld b 4 4\/fld b 16 16 > b.length then some (.inr [Ip4.z.av,.int .i64 63]) else if zm (b.take (4 * fld b 4 4).toNat)≠65535 then some (.inr [Ip4.z.av,.int .i64 64])
  else some (.inl [.fs .u8 b,Ip4.z.av,.fs .i64 L,.int .i64 (4 * fld b 4 4),.int .i64 (fld b 16 16)])) ?_ ?_
 ·by_cases c1:fld b 0 4=4
  ·rw [if_neg (by simpa using c1)];simp only [ZZ,show (fld b 0 4 != 4)=false by simpa using c1];refine pD (y:=some (.inl [.fs .u8 b,Ip4.z.av,.fs .i64 L,.int .i64 (4 * fld b 4 4),.int .i64 (fld b 16 16),.bool (decide (4 * fld b 4 4<20\/4 * fld b 4 4 > b.length))])) ?_ ?_
   ·by_cases c2:4 * fld b 4 4<20
    ·refine (qp (by exact decide_eq_true c2)).trans ?_;rw [decide_eq_true (p:=4 * fld b 4 4<20\/_) (.inl c2)];rfl
    ·refine (qi (by exact decide_eq_false c2)).trans ?_
     by_cases c3:4 * fld b 4 4 > b.length
     ·rw [decide_eq_true (p:=4 * fld b 4 4<20\/_) (.inr c3),decide_eq_true (p:=4 * fld b 4 4 > Int.ofNat b.length) c3];rfl
     ·rw [decide_eq_false (p:=4 * fld b 4 4<20\/_) (fun h=>h.elim c2 c3),decide_eq_false (p:=4 * fld b 4 4 > Int.ofNat b.length) c3];rfl
   ·by_cases c2:4 * fld b 4 4<20\/4 * fld b 4 4 > b.length
    ·rw [if_pos c2];simp only [ZZ,decide_eq_true c2];rfl
    ·rw [if_neg c2];simp only [ZZ,decide_eq_false c2];refine pD (y:=some (.inl [.fs .u8 b,Ip4.z.av,.fs .i64 L,.int .i64 (4 * fld b 4 4),.int .i64 (fld b 16 16),.bool (decide (fld b 16 16<4 * fld b 4 4\/fld b 16 16 > b.length))])) ?_ ?_
     ·by_cases c3:fld b 16 16<4 * fld b 4 4
      ·refine (qp (by exact decide_eq_true c3)).trans ?_;rw [decide_eq_true (p:=fld b 16 16<4 * fld b 4 4\/_) (.inl c3)]
      ·refine (qi (by exact decide_eq_false c3)).trans ?_
       by_cases c4:fld b 16 16 > b.length
       ·rw [decide_eq_true (p:=fld b 16 16<4 * fld b 4 4\/_) (.inr c4)];refine congrArg (fun z=>some (Sum.inl [_,_,_,_,_,AV.bool z])) ?_;exact decide_eq_true c4
       ·rw [decide_eq_false (p:=fld b 16 16<4 * fld b 4 4\/_) (fun h=>h.elim c3 c4)];refine congrArg (fun z=>some (Sum.inl [_,_,_,_,_,AV.bool z])) ?_;exact decide_eq_false c4
     ·by_cases c3:fld b 16 16<4 * fld b 4 4\/fld b 16 16 > b.length
      ·rw [if_pos c3];simp only [ZZ,decide_eq_true c3];rfl
      ·rw [if_neg c3];simp only [ZZ,decide_eq_false c3];refine (qp (by rw [Bool.and_eq_true,Bool.and_eq_true]; exact ⟨decide_eq_true (show (0:Int)<=4 * fld b 4 4 by omega),decide_eq_true (show 4 * fld b 4 4<=((b.length:Nat):Int) by omega),decide_eq_true (Int.le_refl _)⟩)).trans ?_;simp only [ZZ,Nat.sub_zero,List.drop_zero,h84]
       by_cases c5:zm (b.take (4 * fld b 4 4).toNat)=65535
       ·rw [if_neg (by simpa using c5)];simp only [ZZ,show (zm (b.take (4 * fld b 4 4).toNat) == 65535)=true by simpa using c5,Bool.not_true]
       ·rw [if_pos (by simpa using c5)];simp only [ZZ,show (zm (b.take (4 * fld b 4 4).toNat) == 65535)=false by simpa using c5,Bool.not_false];rfl
  ·rw [if_pos (by simpa using c1)];simp only [ZZ,show (fld b 0 4 != 4)=true by simpa using c1];rfl
 by_cases c1:fld b 0 4=4
 ·rw [if_neg (show ¬ (fld b 0 4≠4) from fun h=>h c1),if_neg (show ¬ (fld b 0 4≠4) from fun h=>h c1)]
  by_cases c2:4 * fld b 4 4<20\/4 * fld b 4 4 > b.length
  ·rw [if_pos c2,if_pos c2]; rfl
  ·rw [if_neg c2,if_neg c2]
   by_cases c3:fld b 16 16<4 * fld b 4 4\/fld b 16 16 > b.length
   ·rw [if_pos c3,if_pos c3]; rfl
   ·rw [if_neg c3,if_neg c3]
    by_cases c5:zm (b.take (4 * fld b 4 4).toNat)=65535
    ·rw [if_neg (show ¬ (zm (b.take (4 * fld b 4 4).toNat)≠65535) from fun h=>h c5),if_neg (show ¬ (zm (b.take (4 * fld b 4 4).toNat)≠65535) from fun h=>h c5)];have e1:List.take ((4 * fld b 4 4).toNat - 20) (List.drop 20 b)=(b.take (4 * fld b 4 4).toNat).drop 20:=by rw [List.drop_take]
     simp only [ZZ];refine (qp (by rw [Bool.and_eq_true,Bool.and_eq_true]; exact ⟨decide_eq_true (show (20:Int)<=4 * fld b 4 4 by omega),decide_eq_true (Int.le_refl _),decide_eq_true (show 4 * fld b 4 4<=((b.length:Nat):Int) by omega)⟩)).trans ?_;have e20:Int.toNat 20=20:=rfl;have hTH:IntKind.wrap .i64 (fld b 16 16 - 4 * fld b 4 4)=fld b 16 16 - 4 * fld b 4 4:=qv (by omega) (by omega);have h86:=a86 n (fld b 50 1 == 1) (8 * fld b 51 13) (fld b 16 16 - 4 * fld b 4 4) (by omega) (by omega) (by omega) (by omega);have h87:=a87 n (fld b 50 1);have h87':=a87 n (fld b 49 1);simp only [ZZ,e20,e1,h85]
     by_cases c6:op.2=0
     ·rw [if_neg (by simpa using c6)];simp only [ZZ,show (op.2 == 0)=true by simpa using c6,l12,i7,i8,g7,g8,h87,hw8,hTH,h86]
      by_cases c7:fy (fld b 50 1 == 1) (8 * fld b 51 13) (fld b 16 16 - 4 * fld b 4 4)=0
      ·rw [if_neg (by simpa using c7)];have d16:decide ((16:Int)<=Int.ofNat b.length)=true:=decide_eq_true (by show (16:Int)<=((b.length:Nat):Int); omega);have d20:decide ((20:Int)<=Int.ofNat b.length)=true:=decide_eq_true (by show (20:Int)<=((b.length:Nat):Int); omega);have cl:decide (Int.ofNat b.length<=Int.ofNat b.length)=true:=decide_eq_true (Int.le_refl _);have h881:=a88 n (List.take 4 (List.drop 12 b)) (by rw [List.length_take,List.length_drop]; omega);have h882:=a88 n (List.take 4 (List.drop 16 b)) (by rw [List.length_take,List.length_drop]; omega);rw [a4_take] at h881 h882;simp only [ZZ,show (fy (fld b 50 1 == 1) (8 * fld b 51 13) (fld b 16 16 - 4 * fld b 4 4) != 0)=false by simpa using c7,l12,i2,i4,i6,i7,i8,i9,i10,g2,g4,g6,g7,g8,g9,g10,h87,h87',hw8];refine (qp (by rw [Bool.and_eq_true]; exact ⟨decide_eq_true (show (16:Int)<=((b.length:Nat):Int) by omega),decide_eq_true (Int.le_refl _)⟩)).trans ?_;simp only [ZZ,h881];refine (qp (by rw [Bool.and_eq_true]; exact ⟨decide_eq_true (show (20:Int)<=((b.length:Nat):Int) by omega),decide_eq_true (Int.le_refl _)⟩)).trans ?_;simp only [ZZ,h882];refine (qp (by rw [Bool.and_eq_true,Bool.and_eq_true,Bool.and_eq_true]; exact ⟨decide_eq_true (show (0:Int)<=4 * fld b 4 4 by omega),decide_eq_true (show 4 * fld b 4 4<=fld b 16 16 by omega),decide_eq_true (Int.le_refl _),decide_eq_true (show fld b 16 16<=((b.length:Nat):Int) by omega)⟩)).trans ?_;have e2:List.take ((fld b 16 16).toNat - (4 * fld b 4 4).toNat) (List.drop (4 * fld b 4 4).toNat b)=(b.take (fld b 16 16).toNat).drop (4 * fld b 4 4).toNat:=by rw [List.drop_take]
       simp only [ZZ,e2]
      ·rw [if_pos (by simpa using c7)];simp only [ZZ,show (fy (fld b 50 1 == 1) (8 * fld b 51 13) (fld b 16 16 - 4 * fld b 4 4) != 0)=true by simpa using c7];rfl
     ·rw [if_pos (by simpa using c6)];simp only [ZZ,show (op.2 == 0)=false by simpa using c6,show (op.2 != 0)=true by simpa using c6];rfl
    ·rw [if_pos (show zm (b.take (4 * fld b 4 4).toNat)≠65535 from c5),if_pos (show zm (b.take (4 * fld b 4 4).toNat)≠65535 from c5)]; rfl
 ·rw [if_pos (show fld b 0 4≠4 from c1),if_pos (show fld b 0 4≠4 from c1)];rfl
theorem a128 (n:Nat) (b:List Int) (y z:Nat) (h:y+z<=b.length) (hl:b.length<2 ^ 44):A128 n [.fs .u8 b,.int .i64 (y:Nat),.int .i64 (z:Nat)]=some [.fs .u8 ((b.drop y).take z),.int .i64 0]:=by
 show run128 A125 n b (y:Nat) (z:Nat)=_;rw [eq128];have w:IntKind.wrap .i64 ((Int.ofNat b.length) - (y:Nat))=((b.length - y:Nat):Int):=(qv (x:=((b.length:Nat):Int) - (y:Nat)) (by omega) (by omega)).trans (by omega);have h125:=a125 n b (y:Nat) (z:Nat) (by omega) (by omega) (by omega) (by omega);rw [Int.toNat_natCast,Int.toNat_natCast] at h125;rw [qi (by exact decide_eq_false (by omega))];dsimp only
 rw [w,qi (by
  rw [Bool.or_eq_false_iff,Bool.or_eq_false_iff]
  exact ⟨decide_eq_false (by omega),decide_eq_false (by show ¬ ((b.length:Nat):Int)<_; omega),decide_eq_false (by omega)⟩),h125]
 rfl
theorem a128_err (n:Nat) (b:List Int) (y z:Nat) (h:y<=b.length) (h2:b.length<y+z) (hl:b.length<2 ^ 44):A128 n [.fs .u8 b,.int .i64 (y:Nat),.int .i64 (z:Nat)]=some [.fs .u8 [],.int .i64 10]:=by
 show run128 A125 n b (y:Nat) (z:Nat)=_;rw [eq128];have w:IntKind.wrap .i64 ((Int.ofNat b.length) - (y:Nat))=((b.length - y:Nat):Int):=(qv (x:=((b.length:Nat):Int) - (y:Nat)) (by omega) (by omega)).trans (by omega);rw [qi (by exact decide_eq_false (by omega))];dsimp only
 rw [w,qp (by
  rw [Bool.or_eq_true,Bool.or_eq_true]
  exact .inr (.inr (decide_eq_true (by omega))))]
def cur (b:List Int) (i:Nat):AV:=.agg [.fs .u8 b,.int .i64 (i:Nat)]
theorem nB (m:List AV) (c:AV):getE (m++[c]) m.length=c:=by
 unfold getE;simp [List.getD_eq_getElem?_getD]
theorem ex (m:List AV) (c d:AV):(m++[c]).set m.length d=m++[d]:=by simp
theorem a129 (n:Nat) (b:List Int) (m:List AV):A129 n [.fs .u8 b,.tup m]=some [.pt 1 (some m.length),.tup (m++[cur b 0])]:=eq129 n b m
theorem a134 (n:Nat) (b:List Int) (i:Nat) (m:List AV) (hi:i<=b.length) (hl:b.length<2 ^ 44):A134 n [.pt 1 (some m.length),.tup (m++[cur b i])]=some [.int .i64 (b.length - i:Nat),.tup (m++[cur b i])]:=by
 show run134 n (some m.length) (m++[cur b i])=_;rw [eq134];have e:Option.getD (some m.length) 0=m.length:=rfl;rw [e,nB]
 show some [AV.int .i64 (IntKind.wrap .i64 (((b.length:Nat):Int) - (i:Nat))),_]=_;rw [qv (by omega) (by omega)];have:((b.length:Nat):Int) - (i:Nat)=((b.length - i:Nat):Int):=by omega
 rw [this]
theorem a181 (n:Nat) (hn:2 ^ 63<n) (b:List Int) (i:Nat) (m:List AV) (hb:Bytes b) (hi:i<b.length) (hl:b.length<2 ^ 44):A181 n [.pt 1 (some m.length),.int .i64 1,.tup (m++[cur b i])]=some [.int .u64 (qk b i),.int .i64 0,.tup (m++[cur b (i+1)])]:=by
 show run181 A80 n (some m.length) 1 (m++[cur b i])=_;rw [eq181];have e:Option.getD (some m.length) 0=m.length:=rfl;have hg:=hb.get i;obtain ⟨k,rfl⟩ : ∃ k,n=k+2:=⟨n - 2,by omega⟩;have h80:=a80_1 k b (i:Nat) (by omega) (by omega) (by omega) (by rw [Int.toNat_natCast]; exact hg.1) (by rw [Int.toNat_natCast]; omega);rw [Int.toNat_natCast] at h80;have w:IntKind.wrap .i64 ((i:Int)+1)=((i+1:Nat):Int):=by rw [qv (by omega) (by omega)]; omega
 have hs:Option.isSome (some m.length)=true:=rfl;have c0:(cur b i).item 0=.fs .u8 b:=rfl;have c1:(cur b i).item 1=.int .i64 (i:Nat):=rfl;simp only [e,nB,hs,ZZ,c0,c1,h80,show ((0:Int) == 0)=true from rfl,w,ex];rfl
theorem a133 (n:Nat) (b:List Int) (i z:Nat) (m:List AV) (h:i+z<=b.length) (hl:b.length<2 ^ 44):A133 n [.pt 1 (some m.length),.int .i64 (z:Nat),.tup (m++[cur b i])]=some [.fs .u8 ((b.drop i).take z),.int .i64 0,.tup (m++[cur b (i+z)])]:=by
 show run133 A128 n (some m.length) (z:Nat) (m++[cur b i])=_;rw [eq133];have e:Option.getD (some m.length) 0=m.length:=rfl;have h128:=a128 n b i z h hl;have w:IntKind.wrap .i64 ((i:Int)+(z:Int))=((i+z:Nat):Int):=by rw [qv (by omega) (by omega)]; omega
 have hs:Option.isSome (some m.length)=true:=rfl;have c0:(cur b i).item 0=.fs .u8 b:=rfl;have c1:(cur b i).item 1=.int .i64 (i:Nat):=rfl;simp only [e,nB,hs,ZZ,c0,c1,h128,show ((0:Int) == 0)=true from rfl,w,ex];rfl
theorem a133_err (n:Nat) (b:List Int) (i z:Nat) (m:List AV) (hi:i<=b.length) (h:b.length<i+z) (hl:b.length<2 ^ 44):A133 n [.pt 1 (some m.length),.int .i64 (z:Nat),.tup (m++[cur b i])]=some [.fs .u8 [],.int .i64 10,.tup (m++[cur b i])]:=by
 show run133 A128 n (some m.length) (z:Nat) (m++[cur b i])=_;rw [eq133];have e:Option.getD (some m.length) 0=m.length:=rfl;have h128:=a128_err n b i z hi h hl;have hs:Option.isSome (some m.length)=true:=rfl;have c0:(cur b i).item 0=.fs .u8 b:=rfl;have c1:(cur b i).item 1=.int .i64 (i:Nat):=rfl;simp only [e,nB,hs,ZZ,c0,c1,h128,show ((10:Int) == 0)=false from rfl]
theorem a215 (n:Nat) (hn:2 ^ 63<n) (b:List Int) (i:Nat) (hb:Bytes b) (h:i+1<b.length) (hl:b.length<2 ^ 44) (h2:(i:Int)+2+qk b (i+1)<=b.length):A215 n [.fs .u8 b,.int .i64 (i:Nat)]=some [.int .i64 (2+qk b (i+1))]:=by
 show run215 A80 n b (i:Nat)=_;rw [eq215];have hg:=hb.get (i+1);obtain ⟨k,rfl⟩ : ∃ k,n=k+2:=⟨n - 2,by omega⟩;have h80:=a80_1 k b ((i+1:Nat):Int) (by omega) (by omega) (by omega) (by rw [Int.toNat_natCast]; exact hg.1) (by rw [Int.toNat_natCast]; omega);rw [Int.toNat_natCast] at h80;have w:IntKind.wrap .i64 ((i:Int)+1)=((i+1:Nat):Int):=by rw [qv (by omega) (by omega)]; omega
 have w2:IntKind.wrap .i64 ((i:Int)+2)=(i:Int)+2:=qv (by omega) (by omega);have wg:IntKind.wrap .i64 (qk b (i+1))=qk b (i+1):=qv (by omega) (by omega);have w3:IntKind.wrap .i64 ((i:Int)+2+qk b (i+1))=(i:Int)+2+qk b (i+1):=qv (by omega) (by omega);have w4:IntKind.wrap .i64 (2+qk b (i+1))=2+qk b (i+1):=qv (by omega) (by omega);rw [w,h80];have d:decide ((i:Int)+2+qk b (i+1) > Int.ofNat b.length)=false:=decide_eq_false (by show ¬ ((b.length:Nat):Int)<_; omega);simp only [ZZ,show ((0:Int) != 0)=false from rfl,w2,wg,w3,w4];refine pD (qi (by exact decide_eq_false (by show ¬ ((b.length:Nat):Int)<_; omega))) ?_;simp only [ZZ,wg,w4]
def Vr (l:List Opt):Option (List Opt)->Sum (List AV) (List AV)->Prop
 | none,o=>o=.inr [.fv s93 [],.int .i64 75]
 | some m,o=>∃ (L:List Opt) (R:Nat),o=.inl [.fv s93 (L.map Opt.av),.int .i64 0,.int .i64 (R:Nat)]/\L++wo R []=l++m/\R<2 ^ 44/\L.length<2 ^ 41
theorem iH (run:Nat) (m:List Opt):wo run m=wo run []++m:=by
 unfold wo
 split <;> rfl
theorem QN (l:List Opt) (run:Nat) (x:Opt) (m:Option (List Opt)) (o:Sum (List AV) (List AV)):Vr l (m.map (fun y=>wo run (x::y))) o↔Vr (l++wo run []++[x]) m o:=by
 cases m with
 | none=>exact Iff.rfl
 | some m=>
  have e:l++wo run (x::m)=l++wo run []++[x]++m:=by rw [iH]; simp
  show (∃ _ _,_/\_=l++wo run (x::m)/\_)↔(∃ _ _,_/\_=l++wo run []++[x]++m/\_);rw [e]
theorem aP (run:Nat):(wo run []).length<=1:=by unfold wo; split <;> simp
theorem bY {run:Nat} (h:0<run):wo run []=[⟨0,List.replicate run 0⟩]:=by unfold wo; rw [if_neg (by omega)]
theorem dM:wo 0 []=[]:=rfl
theorem a182 (n:Nat) (hn:2 ^ 63<n) (b:List Int) (hb:Bytes b) (hl:b.length<=2 ^ 40):A182 n [.fs .u8 b]=match vC 0 b with | none=>some [.fv s93 [],.int .i64 75] | some l=>some [.fv s93 (l.map Opt.av),.int .i64 0]:=by
 show run182 A128 A215 n b=_;rw [eq182];refine QV (fun s:List Opt × Nat × Nat=>[.fs .u8 b,.fv s93 (s.1.map Opt.av),.int .i64 0,.int .i64 (s.2.1:Nat),.int .i64 (s.2.2:Nat)]) (fun s=>b.length - s.2.2)
  (fun s=>Vr s.1 (vC s.2.1 (b.drop s.2.2))) (fun s=>s.2.2<=b.length/\s.1.length<=s.2.2/\s.2.1<=s.2.2) ([],0,0) (by show b.length - 0<n; omega) ⟨Nat.zero_le _,by simp,by simp⟩ (fun s K hs hK=>?_) ?_
 ·obtain ⟨l,run,i⟩:=s;dsimp only at hs hK ⊢;simp only [ZZ,Int.ofNat_eq_natCast]
  by_cases hi:i<b.length
  ·have hk:=hb.get i;have w0:IntKind.wrap .i64 (qk b i)=qk b i:=qv (by omega) (by omega);have wr:IntKind.wrap .i64 ((run:Int)+1)=((run+1:Nat):Int):=by rw [qv (by omega) (by omega)]; omega
   have wi:IntKind.wrap .i64 ((i:Int)+1)=((i+1:Nat):Int):=by rw [qv (by omega) (by omega)]; omega
   rw [qp (by simpa using hi),ql hi];simp only [ZZ,Int.toNat_natCast,w0,wr,wi]
   by_cases k0:qk b i=0
   ·rw [qp (by simpa using k0),List.drop_eq_getElem_cons hi,<-jT hi,k0,uA];exact hK (l,run+1,i+1) (by show b.length - (i+1)<b.length - i; omega) ⟨by show i+1<=b.length; omega,by show l.length<=i+1; omega,by show run+1<=i+1; omega⟩
   rw [qi (by simpa using k0)];have i1:((i:Int)+1).toNat=i+1:=by omega
   by_cases he:i+1=b.length
   ·rw [da he,iY k0]
    refine ⟨_,(qp (by
     rw [Bool.and_eq_true,Bool.and_eq_true,Bool.and_eq_true,Bool.or_eq_true]
     exact ⟨decide_eq_true (by omega),decide_eq_true (by omega),decide_eq_true (by show _<=((2 ^ 47:Nat):Int); omega),.inl (decide_eq_true (by omega))⟩)).trans rfl,rfl⟩
   have hi1:i+1<b.length:=by omega
   have hn1:=hb.get (i+1);have hdl:(b.drop (i+2)).length=b.length - (i+2):=List.length_drop;rw [di hi1,fH k0,hdl]
   by_cases c2:(i:Int)+2+qk b (i+1) > b.length
   ·rw [if_pos (by omega)]
    refine ⟨_,(qp (by
     rw [Bool.and_eq_true,Bool.and_eq_true,Bool.and_eq_true,Bool.or_eq_true,Bool.and_eq_true,Bool.and_eq_true]
     exact ⟨decide_eq_true (by omega),decide_eq_true (by omega),decide_eq_true (by show _<=((2 ^ 47:Nat):Int); omega),.inr ⟨decide_eq_true (by rw [i1]; omega),decide_eq_true (by rw [i1]; omega),decide_eq_true (by rw [i1]; omega)⟩⟩)).trans rfl,rfl⟩
   rw [if_neg (by omega),qi (by
    rw [Bool.and_eq_false_iff,Bool.and_eq_false_iff,Bool.and_eq_false_iff,Bool.or_eq_false_iff,Bool.and_eq_false_iff,Bool.and_eq_false_iff]
    exact .inr (.inr (.inr ⟨decide_eq_false (by omega),.inr (.inr (decide_eq_false (by rw [i1]; omega)))⟩)))]
   have h215:=a215 n hn b i hb hi1 (by omega) (by omega);generalize hmm:qk b (i+1)=mm at hn1 c2 h215 ⊢;have wm:IntKind.wrap .i64 ((run:Int)+(2+mm))=((run+2+mm.toNat:Nat):Int):=by rw [qv (by omega) (by omega)]; omega
   have wim:IntKind.wrap .i64 ((i:Int)+(2+mm))=((i+2+mm.toNat:Nat):Int):=by rw [qv (by omega) (by omega)]; omega
   have wi2:IntKind.wrap .i64 ((i:Int)+2)=((i+2:Nat):Int):=by rw [qv (by omega) (by omega)]; omega
   have wm2:IntKind.wrap .i64 (2+mm - 2)=(mm.toNat:Int):=by rw [qv (by omega) (by omega)]; omega
   rw [List.drop_drop]
   by_cases k1:qk b i=1
   ·rw [if_pos k1];simp only [ZZ,h215,show (qk b i == 1)=true by simpa using k1,wm,wim];exact hK (l,run+2+mm.toNat,i+2+mm.toNat) (by show b.length - (i+2+mm.toNat)<b.length - i; omega) ⟨by show i+2+mm.toNat<=b.length; omega,by show l.length<=i+2+mm.toNat; omega,by show run+2+mm.toNat<=i+2+mm.toNat; omega⟩
   ·rw [if_neg k1];have h128:=a128 n b (i+2) mm.toNat (by omega) (by omega);have hfl:=aP run;obtain ⟨o,e,hP⟩:=hK (l++wo run []++[⟨qk b i,(b.drop (i+2)).take mm.toNat⟩],0,i+2+mm.toNat) (by show b.length - (i+2+mm.toNat)<b.length - i; omega) ⟨by show i+2+mm.toNat<=b.length; omega,by show (l++wo run []++[_]).length<=i+2+mm.toNat; simp only [List.length_append,List.length_cons,List.length_nil]; omega,Nat.zero_le _⟩;dsimp only at e hP;refine ⟨o,Eq.trans ?_ e,(QN l run _ _ o).2 hP⟩;simp only [ZZ,h215,show (qk b i == 1)=false by simpa using k1];refine pD (y:=some (.inl [.fs .u8 b,.fv s93 ((l++wo run []++[(⟨qk b i,(b.drop (i+2)).take mm.toNat⟩ : Opt)]).map Opt.av),.int .i64 0,.int .i64 0,.int .i64 (i:Nat),.int .i64 (2+mm)])) ?_ ?_
    ·by_cases r0:0<run
     ·rw [bY r0];refine (qp (by exact decide_eq_true (by omega))).trans ?_;rw [dw];refine (qp (by rw [Bool.and_eq_true,Bool.and_eq_true]; exact ⟨decide_eq_true (by omega),beq_self_eq_true _,decide_eq_true (by omega)⟩)).trans ?_;have b1:Nat.ble (((l.map Opt.av).length+1) * 32) 140737488355328=true:=qT (by rw [List.length_map]; omega);have b2:Nat.ble (((l.map Opt.av++[Opt.av ⟨0,List.replicate run 0⟩]).length+1) * 32) 140737488355328=true:=qT (by rw [List.length_append,List.length_map]; simp only [List.length_cons,List.length_nil]; omega);simp only [ZZ,b1,wi2,wm2,h128,Int.toNat_natCast,b2];simp [Opt.av]
     ·obtain rfl:run=0:=by omega
      rw [dM,List.append_nil];refine (qi (by exact decide_eq_false (by omega))).trans ?_;have b1:Nat.ble (((l.map Opt.av).length+1) * 32) 140737488355328=true:=qT (by rw [List.length_map]; omega);simp only [ZZ,b1,wi2,wm2,h128];simp [Opt.av]
    ·simp only [ZZ,wim];rfl
  ·have:i=b.length:=by omega
   subst this;rw [qi (by simp),List.drop_length,ap];exact ⟨_,rfl,l,run,rfl,rfl,by omega,by omega⟩
 ·intro o ho;dsimp only at ho;rw [List.drop_zero] at ho
  cases hg:vC 0 b with
  | none=>rw [hg] at ho; rw [show o=_ from ho]; rfl
  | some m=>
   rw [hg] at ho;obtain ⟨L,R,rfl,h1,h2,h3⟩:=ho;rw [List.nil_append] at h1;simp only [ZZ]
   by_cases r0:0<R
   ·rw [bY r0] at h1;rw [<-h1];refine (qp (by exact decide_eq_true (by omega))).trans ?_;rw [dw];refine (qp (by rw [Bool.and_eq_true,Bool.and_eq_true]; exact ⟨decide_eq_true (by omega),beq_self_eq_true _,decide_eq_true (by rw [show Int.ofNat 1=1 from rfl]; omega)⟩)).trans ?_;have b1:Nat.ble (((L.map Opt.av).length+1) * 32) 140737488355328=true:=qT (by rw [List.length_map]; omega);simp only [ZZ,b1,Int.toNat_natCast];simp [Opt.av]
   ·obtain rfl:R=0:=by omega
    rw [dM,List.append_nil] at h1;rw [<-h1];exact qi (by exact decide_eq_false (by omega))
theorem a83x (n:Nat) (hn:2 ^ 63<n) (b:List Int) (hb:Bytes b) (hl:b.length=8):A83 n [.fs .u8 b,.int .i64 0,.fs .i64 [8,8,13,2,1,32]]=some [.fs .i64 (vx b 0 [8,8,13,2,1,32]),.int .i64 8,.int .i64 0]:=by
 obtain ⟨k,rfl⟩ : ∃ k,n=k+16:=⟨n - 16,by omega⟩;exact a83 (k+16) b 0 [8,8,13,2,1,32] (by unfold WOk; decide) 8 rfl (by decide) (by omega) (by show 6<k+16; omega) (by decide) (by omega) (by omega) hb (WW k)
theorem a83y (n:Nat) (hn:2 ^ 63<n) (b:List Int) (hb:Bytes b) (hl:40<=b.length) (hl2:b.length<2 ^ 60):A83 n [.fs .u8 b,.int .i64 0,.fs .i64 [4,8,20,16,8,8]]=some [.fs .i64 (vx b 0 [4,8,20,16,8,8]),.int .i64 8,.int .i64 0]:=by
 obtain ⟨k,rfl⟩ : ∃ k,n=k+16:=⟨n - 16,by omega⟩;exact a83 (k+16) b 0 [4,8,20,16,8,8] (by unfold WOk; decide) 8 rfl (by decide) (by omega) (by show 6<k+16; omega) (by decide) (by omega) hl2 hb (WZ k)
theorem a131 (n:Nat) (hn:2 ^ 63<n) (c:Chn) (hc:c.frag=Frag.z) (b:List Int) (i:Nat) (m:List AV) (hb:Bytes b) (hi:i<=b.length) (hl:b.length<=65535):∃ m',A131 n [c.av,.pt 1 (some m.length),.tup (m++[cur b i])]=some [(pz c.exts (b.drop i)).1.av,.int .i64 (pz c.exts (b.drop i)).2,.tup m']:=by
 show ∃ m',run131 A83 A133 A134 A180 n c.av (some m.length) (m++[cur b i])=_;rw [eq131];have hrl:(b.drop i).length=b.length - i:=List.length_drop;unfold pz
 by_cases h1:(b.drop i).length<8
 ·have h133:=a133_err n b i 8 m hi (by omega) (by omega);rw [if_pos h1];refine ⟨m++[cur b i],?_⟩;rw [show A133 n [.pt 1 (some m.length),.int .i64 8,.tup (m++[cur b i])]=_ from h133];rfl
 rw [if_neg h1];have h133:A133 n [.pt 1 (some m.length),.int .i64 8,.tup (m++[cur b i])]=_:=a133 n b i 8 m (by omega) (by omega);have h83:=a83x n hn ((b.drop i).take 8) ((hb.drop i).take 8) (by rw [List.length_take]; omega);rw [<-pw (b.drop i) 8 [8,8,13,2,1,32] 0 (by decide)] at h83;obtain ⟨L,hL,l6,g0,g2,g4,g5⟩ : ∃ L,A83 n [.fs .u8 ((b.drop i).take 8),.int .i64 0,.fs .i64 [8,8,13,2,1,32]]=some [.fs .i64 L,.int .i64 8,.int .i64 0]/\L.length=6/\qk L 0=fld (b.drop i) 0 8/\qk L 2=fld (b.drop i) 16 13/\qk L 4=fld (b.drop i) 31 1/\qk L 5=fld (b.drop i) 32 32:=⟨_,h83,rfl,rfl,rfl,rfl,rfl⟩;have i0:inR 0 6=true:=rfl;have i2:inR 2 6=true:=rfl;have i4:inR 4 6=true:=rfl;have i5:inR 5 6=true:=rfl;have h134:=a134 n b (i+8) m (by omega) (by omega);have h133':=a133 n b (i+8) (b.length - (i+8)) m (by omega) (by omega);have e1:(b.drop (i+8)).take (b.length - (i+8))=(b.drop i).drop 8:=by rw [List.drop_drop,List.take_of_length_le (by rw [List.length_drop]; omega)]
 rw [e1] at h133';have r2:=cA (b.drop i) 16 13;have w8:IntKind.wrap .i64 (8 * fld (b.drop i) 16 13)=8 * fld (b.drop i) 16 13:=qv (by omega) (by omega)
 have hk:Int.ofNat ((b.drop i).drop 8).length=((b.drop i).length:Int) - 8:=by
  show ((((b.drop i).drop 8).length:Nat):Int)=_;rw [List.length_drop]; omega
 have h180:=a180 n ⟨true,fld (b.drop i) 31 1 == 1,fld (b.drop i) 32 32,8 * fld (b.drop i) 16 13⟩ (((b.drop i).length:Int) - 8) (by show 0<=8 * fld (b.drop i) 16 13; omega) (by show 8 * fld (b.drop i) 16 13<=_; omega) (by omega) (by omega);simp only [ZZ,h133,show ((0:Int) != 0)=false from rfl,hL,l6,i0,i2,i4,i5,g0,g2,g4,g5,h134,h133',w8,hk,h180]
 by_cases c2:pA ⟨true,fld (b.drop i) 31 1 == 1,fld (b.drop i) 32 32,8 * fld (b.drop i) 16 13⟩ (((b.drop i).length:Int) - 8)=true
 ·rw [if_neg (by rw [c2]; decide)];simp only [ZZ,c2,Bool.not_true];exact ⟨_,rfl⟩
 ·have c2':=Bool.eq_false_iff.2 c2;rw [if_pos c2'];simp only [ZZ,c2',Bool.not_false];exact ⟨_,rfl⟩
theorem a89 (n:Nat) (hn:2 ^ 63<n) (b:List Int) (hb:Bytes b) (hl:b.length<2 ^ 44):A89 n [.fs .u8 b] =
  if b.length > 65535 then some [.fs .i64 [],.fs .u8 [],.int .i64 2] else if b.length<40 then some [.fs .i64 [],.fs .u8 [],.int .i64 70] else if fld b 0 4≠6 then some [.fs .i64 [],.fs .u8 [],.int .i64 71]
  else if fld b 32 16 >(b.length:Int) - 40 then some [.fs .i64 [],.fs .u8 [],.int .i64 70] else some [.fs .i64 (vx b 0 [4,8,20,16,8,8]),.fs .u8 ((b.drop 40).take (fld b 32 16).toNat),.int .i64 0]:=by
 show run89 A83 A128 n b=_;rw [eq89]
 by_cases h1:b.length > 65535
 ·rw [if_pos h1];exact qp (by exact decide_eq_true (by show (65535:Int)<((b.length:Nat):Int); omega))
 rw [if_neg h1,qi (by exact decide_eq_false (by show ¬ (65535:Int)<((b.length:Nat):Int); omega))]
 by_cases h2:b.length<40
 ·rw [if_pos h2];exact qp (by exact decide_eq_true (by show ((b.length:Nat):Int)<40; omega))
 rw [if_neg h2,qi (by exact decide_eq_false (by show ¬ ((b.length:Nat):Int)<40; omega))];have h83:=a83y n hn b hb (by omega) (by omega);obtain ⟨L,hL,l6,g0,g3,hE⟩ : ∃ L,A83 n [.fs .u8 b,.int .i64 0,.fs .i64 [4,8,20,16,8,8]]=some [.fs .i64 L,.int .i64 8,.int .i64 0]/\L.length=6/\qk L 0=fld b 0 4/\qk L 3=fld b 32 16/\vx b 0 [4,8,20,16,8,8]=L:=⟨_,h83,rfl,rfl,rfl,rfl⟩;have i0:inR 0 6=true:=rfl;have i3:inR 3 6=true:=rfl;have r3:=cA b 32 16;have w:IntKind.wrap .i64 (8+32)=((40:Nat):Int):=by decide
 rw [hE]
 by_cases h3:fld b 0 4=6
 ·rw [if_neg (fun h=>h h3)]
  by_cases h4:fld b 32 16 >(b.length:Int) - 40
  ·have h128:=a128_err n b 40 (fld b 32 16).toNat (by omega) (by omega) hl;rw [Int.toNat_of_nonneg r3.1] at h128;rw [if_pos h4];simp only [ZZ,hL,l6,i0,i3,g0,g3,show (fld b 0 4 != 6)=false by simpa using h3,w,h128,show ((10:Int) != 0)=true from rfl]
  ·have h128:=a128 n b 40 (fld b 32 16).toNat (by omega) hl;rw [Int.toNat_of_nonneg r3.1] at h128;rw [if_neg h4];simp only [ZZ,hL,l6,i0,i3,g0,g3,show (fld b 0 4 != 6)=false by simpa using h3,w,h128,show ((0:Int) != 0)=false from rfl]
 ·rw [if_pos h3];simp only [ZZ,hL,l6,i0,g0,show (fld b 0 4 != 6)=true by simpa using h3]
theorem Vx {R σ τ:Type} {g:List AV->(List AV->Option (Sum (List AV) R))->Option (Sum (List AV) R)} {n:Nat} {K:List AV->Option R} {F:τ->Option R} (enc:σ->List AV) (μ:σ->Nat) (P:σ->Sum (List AV) R->Prop) (Good:σ->Prop) (x:σ) (hμ:μ x<n) (hg:Good x)
  (hstep:∀ x k,Good x->(∀ y,μ y<μ x->Good y->∃ o,k (enc y)=some o/\P y o)->∃ o,g (enc x) k=some o/\P x o) (hK:∀ o,P x o->∃ t,jn (some o) K=F t):∃ t,jn (iter g n (enc x)) K=F t:=by
 obtain ⟨o,e,h⟩:=Qy enc μ P Good hstep n x hμ hg;rw [e];exact hK o h
theorem Jp {R:Type} {x:Option (Sum (List AV) (Sum (List AV) (Sum (List AV) R)))} {K1:List AV->Option (Sum (List AV) (Sum (List AV) R))} {K2:List AV->Option (Sum (List AV) R)} {K3:List AV->Option R} {y z:List AV} {P:R->Prop}
  (h:x=some (.inl y)) (h1:K1 y=some (.inl z)) (h2:∃ o,jn (K2 z) K3=some o/\P o):∃ o,jn (jn (jn x K1) K2) K3=some o/\P o:=by
 rw [h]
 show ∃ o,jn (jn (K1 y) K2) K3=some o/\P o;rw [h1];exact h2
theorem ej {R:Type} {x y:Option (Sum (List AV) R)} {K:List AV->Option R} {P:R->Prop} (h:x=y) (h2:∃ o,jn y K=some o/\P o):∃ o,jn x K=some o/\P o:=by rw [h]; exact h2
theorem tPt (f:Nat) (o:Option Nat):AV.toPt (.pt f o)=o:=rfl
def Wh (b:List Int) (m:List AV) (w:Chn × Int) (o:Sum (List AV) (List AV)):Prop:=
 (∃ (exts:List Ext) (next:Int) (j:Nat),w=(⟨exts,Frag.z,next,b.drop j⟩,0)/\j<=b.length/\o=.inl [.tup (m++[cur b j]),Chn.z.av,Chn.av ⟨exts,Frag.z,next,[]⟩,.pt 1 (some m.length)])\/∃ m',o=.inr [w.1.av,.int .i64 w.2,.tup m']
theorem a90 (n:Nat) (hn:2 ^ 63<n) (next:Int) (b:List Int) (m:List AV) (hb:Bytes b) (hl:b.length<=65535):∃ m',A90 n [.int .i64 next,.fs .u8 b,.bool false,.tup m]=some [(wJ 9 true [] next b).1.av,.int .i64 (wJ 9 true [] next b).2,.tup m']:=by
 show ∃ m',run90 A129 A130 A131 A133 A134 A181 A182 n next b false m=_;rw [eq90,a129];simp only [ZZ,tPt];refine Vx (fun s:List Ext × Int × Nat=>[.tup (m++[cur b s.2.2]),.bool false,Chn.z.av,Chn.av ⟨s.1,Frag.z,s.2.1,[]⟩,.pt 1 (some m.length),.int .i64 (s.1.length:Nat)]) (fun s=>9 - s.1.length)
  (fun s=>Wh b m (wJ (9 - s.1.length) (decide (s.1.length=0)) s.1 s.2.1 (b.drop s.2.2))) (fun s=>s.2.2<=b.length/\s.1.length<=8) ([],next,0) (by show 9 - 0<n; omega) ⟨Nat.zero_le _,Nat.zero_le _⟩ (fun s K hs hK=>?_) ?_
 ·obtain ⟨exts,nx,i⟩:=s;dsimp only at hs hK ⊢;have h130:=a130 n hn nx;obtain ⟨k,hk⟩ : ∃ k,9 - exts.length=k+1:=⟨8 - exts.length,by omega⟩;simp only [ZZ,tPt,h130,hk];rw [wJ];have hrl:(b.drop i).length=b.length - i:=List.length_drop
  by_cases c0:wy nx=0
  ·rw [if_pos c0];simp only [ZZ,show (wy nx != 0)=false by simpa using c0];exact ⟨_,rfl,.inl ⟨exts,nx,i,rfl,hs.1,rfl⟩⟩
  rw [if_neg c0];simp only [ZZ,show (wy nx != 0)=true by simpa using c0]
  by_cases c3:wy nx=3
  ·rw [if_pos c3];obtain ⟨m',h131⟩:=a131 n hn ⟨exts,Frag.z,nx,[]⟩ rfl b i m hb hs.1 hl;simp only [ZZ,tPt,show (wy nx == 3)=true by simpa using c3,h131];exact ⟨_,rfl,.inr ⟨m',rfl⟩⟩
  rw [if_neg c3];simp only [ZZ,show (wy nx == 3)=false by simpa using c3]
  by_cases c7:nx=0/\decide (exts.length=0)=false
  ·rw [if_pos c7];have e0:exts.length≠0:=of_decide_eq_false c7.2;refine ⟨.inr [Chn.z.av,.int .i64 73,.tup (m++[cur b i])],?_,.inr ⟨_,rfl⟩⟩;refine pD (pD (pD (y:=some (.inl [.tup (m++[cur b i]),.bool false,Chn.z.av,Chn.av ⟨exts,Frag.z,nx,[]⟩,.pt 1 (some m.length),.int .i64 (exts.length:Nat),.bool true])) ?_ rfl) rfl) rfl;refine (qp (by simpa using c7.1)).trans ?_;exact qp (by exact decide_eq_true (by omega))
  rw [if_neg c7];refine Jp (y:=[.tup (m++[cur b i]),.bool false,Chn.z.av,Chn.av ⟨exts,Frag.z,nx,[]⟩,.pt 1 (some m.length),.int .i64 (exts.length:Nat),.bool false]) (z:=[.tup (m++[cur b i]),.bool false,Chn.z.av,Chn.av ⟨exts,Frag.z,nx,[]⟩,.pt 1 (some m.length),.int .i64 (exts.length:Nat)]) ?_ rfl ?_
  ·by_cases n0:nx=0
   ·have e0:exts.length=0:=Decidable.byContradiction fun hx=>c7 ⟨n0,decide_eq_false hx⟩
    refine (qp (by simpa using n0)).trans ?_;exact qi (by exact decide_eq_false (by omega))
   ·exact qi (by simpa using n0)
  have hm:Int.ofNat (List.map Ext.av exts).length=((exts.length:Nat):Int):=by rw [List.length_map]; rfl
  simp only [ZZ,tPt,hm]
  by_cases e8:exts.length=8
  ·rw [if_pos e8];refine ej (qp (by rw [e8]; rfl)) ⟨_,rfl,.inr ⟨_,rfl⟩⟩
  rw [if_neg e8];refine ej (qi (by simp; omega)) ?_;have h134:=a134 n b i m hs.1 (by omega);simp only [h134,ZZ,tPt]
  by_cases c8:(b.drop i).length<8
  ·rw [if_pos c8];exact ej (qp (by exact decide_eq_true (by omega))) ⟨_,rfl,.inr ⟨_,rfl⟩⟩
  rw [if_neg c8];refine ej (qi (by exact decide_eq_false (by omega))) ?_;have h181:=a181 n hn b i m hb (by omega) (by omega);have h181':=a181 n hn b (i+1) m hb (by omega) (by omega);have g0:=hb.get i;have g1:=hb.get (i+1);have hg0:qk (b.drop i) 0=qk b i:=by rw [gT]; rfl
  have hg1:qk (b.drop i) 1=qk b (i+1):=by rw [gT]
  have hlen:yT (b.drop i)=8 * (qk b (i+1)).toNat+6:=by unfold yT; rw [hg1]
  have wz:IntKind.wrap .i64 (IntKind.wrap .i64 (8 * IntKind.wrap .i64 (qk b (i+1)))+6)=((yT (b.drop i):Nat):Int):=by
   rw [hlen,qv (x:=qk b (i+1)) (by omega) (by omega),qv (x:=8 * qk b (i+1)) (by omega) (by omega),qv (by omega) (by omega)]; omega
  have w0:IntKind.wrap .i64 (qk b i)=qk b i:=qv (by omega) (by omega);have hzl:yT (b.drop i)<=2046:=by rw [hlen]; omega
  have hdd:(b.drop i).drop 2=b.drop (i+2):=List.drop_drop;have hdz:(b.drop i).drop (2+yT (b.drop i))=b.drop (i+2+yT (b.drop i)):=by rw [List.drop_drop,Nat.add_assoc]
  rw [hdd,hdz,hg0];simp only [h181,ZZ,tPt,h181',wz,w0];generalize yT (b.drop i)=z at *
  by_cases c9:z >(b.drop i).length - 2
  ·rw [if_pos c9];have h133:=a133_err n b (i+1+1) z m (by omega) (by omega) (by omega);simp only [h133,ZZ,show ((10:Int) != 0)=true from rfl];exact ⟨_,rfl,.inr ⟨_,rfl⟩⟩
  rw [if_neg c9];have h133:=a133 n b (i+1+1) z m (by omega) (by omega);rw [show i+1+1=i+2 from rfl] at h133 ⊢;have hdb:Bytes ((b.drop (i+2)).take z):=(hb.drop _).take _;have hdl:((b.drop (i+2)).take z).length<=2 ^ 40:=by rw [List.length_take]; omega
  have h182:=a182 n hn ((b.drop (i+2)).take z) hdb hdl;generalize (b.drop (i+2)).take z=D at *;have b1:Nat.ble (((List.map Ext.av exts).length+1) * 56) 140737488355328=true:=qT (by rw [List.length_map]; omega);have we:IntKind.wrap .i64 (((exts.length:Nat):Int)+1)=((exts.length+1:Nat):Int):=by rw [qv (by omega) (by omega)]; omega
  have next:∀ x:Ext,∃ o,K [.tup (m++[cur b (i+2+z)]),.bool false,Chn.z.av,Chn.av ⟨exts++[x],Frag.z,qk b i,[]⟩,.pt 1 (some m.length),.int .i64 (exts.length+1:Nat)]=some o/\Wh b m (wJ k false (exts++[x]) (qk b i) (b.drop (i+2+z))) o:=fun x=>by
   have hl1:(exts++[x]).length=exts.length+1:=by simp
   obtain ⟨o,h1,h2⟩:=hK (exts++[x],qk b i,i+2+z) (by show 9 - (exts++[x]).length<9 - exts.length; omega) ⟨by show i+2+z<=b.length; omega,by show (exts++[x]).length<=8; omega⟩;dsimp only at h1 h2;rw [hl1] at h1 h2;rw [show 9 - (exts.length+1)=k by omega,show decide (exts.length+1=0)=false from decide_eq_false (by omega)] at h2;exact ⟨o,h1,h2⟩
  simp only [h133,ZZ,tPt,show ((0:Int) != 0)=false from rfl,h130]
  by_cases c2:wy nx=2
  ·rw [if_pos c2];simp only [show (wy nx == 2)=true by simpa using c2,ZZ,b1,we];obtain ⟨o,h1,h2⟩:=next ⟨nx,[],D⟩;refine ⟨o,Eq.trans ?_ h1,h2⟩;refine congrArg K ?_
   show [_,_,_,AV.agg [.fv s124 (List.map Ext.av exts++[_]),_,_,_],_,_]=[_,_,_,AV.agg [.fv s124 (List.map Ext.av (exts++[_])),_,_,_],_,_];rw [List.map_append];rfl
  ·rw [if_neg c2];simp only [show (wy nx == 2)=false by simpa using c2,ZZ]
   cases ho:vC 0 D with
   | none=>
    rw [ho] at h182;simp only [h182,ZZ,show ((75:Int) != 0)=true from rfl];exact ⟨_,rfl,.inr ⟨_,rfl⟩⟩
   | some l=>
    rw [ho] at h182;simp only [h182,ZZ,show ((0:Int) != 0)=false from rfl,b1,tPt,we];obtain ⟨o,h1,h2⟩:=next ⟨nx,l,[]⟩;refine ⟨o,Eq.trans ?_ h1,h2⟩;refine congrArg K ?_
    show [_,_,_,AV.agg [.fv s124 (List.map Ext.av exts++[_]),_,_,_],_,_]=[_,_,_,AV.agg [.fv s124 (List.map Ext.av (exts++[_])),_,_,_],_,_];rw [List.map_append];rfl
 ·intro o ho;dsimp only at ho;rw [List.drop_zero] at ho
  rcases ho with ⟨exts,nx,j,hw,hj,rfl⟩ | ⟨m',rfl⟩
  ·have hw' : wJ 9 true [] next b=(⟨exts,Frag.z,nx,b.drop j⟩,0):=hw;rw [hw'];have h134:=a134 n b j m hj (by omega);have h133:=a133 n b j (b.length - j) m (by omega) (by omega);rw [List.take_of_length_le (by rw [List.length_drop]; omega)] at h133;simp only [ZZ,tPt,h134,h133];exact ⟨_,rfl⟩
  ·exact ⟨m',rfl⟩
theorem ti {b:List Int} (hb:Bytes b) (h:(qo b).2=0):((qo b).1.dst.length=6/\Bytes (qo b).1.dst)/\((qo b).1.src.length=6/\Bytes (qo b).1.src)/\Bytes (qo b).1.data/\(qo b).1.data.length<=65535:=by
 unfold qo at h ⊢
 split
 ·rename_i h1; rw [if_pos h1] at h; cases h
 ·rename_i h1;rw [if_neg h1] at h
  split
  ·rename_i h2; rw [if_pos h2] at h; cases h
  ·rename_i h2;rw [if_neg h2] at h
   split
   ·rename_i h3; rw [if_pos h3] at h; cases h
   ·rename_i h3;rw [if_neg h3] at h
    split
    ·rename_i h4; rw [if_pos h4] at h; exact absurd h h4
    ·rename_i h4;rw [if_neg h4] at h
     split
     ·rename_i h5; rw [if_pos h5] at h; cases h
     ·refine ⟨⟨by show (b.take 6).length=6; rw [List.length_take]; omega,hb.take 6⟩,⟨by show ((b.take 12).drop 6).length=6; rw [List.length_drop,List.length_take]; omega,(hb.take 12).drop 6⟩,hb.drop _,?_⟩
      show (b.drop _).length<=65535;rw [List.length_drop]; omega
theorem a4_ok {l:List Int} (h:Bytes l) (v:Int):Ip.Ok ⟨v,a4 l⟩:=by
 refine ⟨rfl,?_⟩;have z:(0:Int)<=0/\(0:Int)<=255:=by decide
 show Bytes [qk l 0,qk l 1,qk l 2,qk l 3,0,0,0,0,0,0,0,0,0,0,0,0];intro x hx;simp only [List.mem_cons,List.mem_nil_iff,or_false] at hx
 rcases hx with rfl | rfl | rfl | rfl | rfl | rfl | rfl | rfl | rfl | rfl | rfl | rfl | rfl | rfl | rfl | rfl
 ·exact h.get 0
 ·exact h.get 1
 ·exact h.get 2
 ·exact h.get 3
 all_goals exact z
theorem ly {b:List Int} (hb:Bytes b) (h:(zy b).2=0):((zy b).1.smac.length=6/\Bytes (zy b).1.smac)/\((zy b).1.tmac.length=6/\Bytes (zy b).1.tmac)/\(zy b).1.sip.Ok/\(zy b).1.tip.Ok:=by
 unfold zy at h ⊢
 split
 ·rename_i h1; rw [if_pos h1] at h; cases h
 ·rename_i h1;rw [if_neg h1] at h
  split
  ·rename_i h2; rw [if_pos h2] at h; cases h
  ·rename_i h2;rw [if_neg h2] at h
   split
   ·rename_i h3; rw [if_pos h3] at h; cases h
   ·rename_i h3;rw [if_neg h3] at h
    split
    ·rename_i h4; rw [if_pos h4] at h; exact absurd h h4
    ·exact ⟨⟨by show ((b.take 14).drop 8).length=6; rw [List.length_drop,List.length_take]; omega,(hb.take 14).drop 8⟩,⟨by show ((b.take 24).drop 18).length=6; rw [List.length_drop,List.length_take]; omega,(hb.take 24).drop 18⟩,a4_ok (hb.drop 14) 4,a4_ok (hb.drop 24) 4⟩
theorem wL {x:Int} {l:List Int} (h:Bytes (x::l)):Bytes l:=fun y hy=>h y (List.mem_cons_of_mem _ hy)
theorem yR {R:Int->Int->Bool}:∀ (f:Nat) (b:List Int) (l:List Opt),Bytes b->vG R f b=some l->∀ o∈l,Bytes o.data
 | 0,b,l,_,h,o,ho=>by rw [vG] at h; injection h with h; subst h; cases ho
 | f+1,[],l,_,h,o,ho=>by rw [vG] at h; injection h with h; subst h; cases ho
 | f+1,[k],l,hb,h,o,ho=>by
  rw [vG] at h
  split at h
  ·injection h with h; subst h; cases ho
  ·split at h
   ·exact yR f [] l qg h o ho
   ·cases h
 | f+1,k::n::r,l,hb,h,o,ho=>by
  rw [vG] at h
  split at h
  ·injection h with h; subst h; cases ho
  ·split at h
   ·exact yR f (n::r) l (wL hb) h o ho
   ·split at h
    ·cases h
    ·cases hg:vG R f (r.drop (n - 2).toNat) with
     | none=>rw [hg] at h; cases h
     | some m=>
      rw [hg] at h;injection h with h;subst h
      cases ho with
      | head=>exact (wL (wL hb)).take _
      | tail _ ho=>exact yR f _ m ((wL (wL hb)).drop _) hg o ho
theorem nP {b:List Int} (hb:Bytes b):∀ o∈(kH b).1,Bytes o.data:=by
 unfold kH
 split
 ·intro o ho; cases ho
 ·cases hg:vG fQ b.length b with
  | none=>intro o ho; cases ho
  | some l=>exact yR _ _ _ hb hg
theorem lq {b:List Int} (hb:Bytes b) (h:(qO b).2=0):(qO b).1.src.Ok/\(qO b).1.dst.Ok/\(∀ o∈(qO b).1.opts,Bytes o.data)/\Bytes (qO b).1.data/\(qO b).1.data.length<=65535:=by
 unfold qO at h ⊢
 split
 ·rename_i h1; rw [if_pos h1] at h; cases h
 ·rename_i h1;rw [if_neg h1] at h
  split
  ·rename_i h2; rw [if_pos h2] at h; cases h
  ·rename_i h2;rw [if_neg h2] at h
   split
   ·rename_i h3; rw [if_pos h3] at h; cases h
   ·rename_i h3;rw [if_neg h3] at h
    split
    ·rename_i h4; rw [if_pos h4] at h; cases h
    ·rename_i h4;rw [if_neg h4] at h
     split
     ·rename_i h5; rw [if_pos h5] at h; cases h
     ·rename_i h5;rw [if_neg h5] at h
      split
      ·rename_i h6; rw [if_pos h6] at h; cases h
      ·rename_i h6;rw [if_neg h6] at h
       split
       ·rename_i h7; rw [if_pos h7] at h; exact absurd h h7
       ·rename_i h7;rw [if_neg h7] at h
        split
        ·rename_i h8; rw [if_pos h8] at h; exact absurd h h8
        ·refine ⟨a4_ok (hb.drop 12) 4,a4_ok (hb.drop 16) 4,nP ((hb.take _).drop 20),(hb.take _).drop _,?_⟩
         show ((b.take _).drop _).length<=65535;rw [List.length_drop,List.length_take]; omega
theorem iP (k:Nat):Bytes (List.replicate k 0):=fun x hx=>by rw [List.eq_of_mem_replicate hx]; decide
theorem ub {run:Nat} {l:List Opt} (h:∀ o∈l,Bytes o.data):∀ o∈wo run l,Bytes o.data:=by
 unfold wo
 split
 ·exact h
 ·intro o ho
  cases ho with
  | head=>exact iP run
  | tail _ ho=>exact h o ho
theorem ky:∀ (f run:Nat) (b:List Int) (l:List Opt),Bytes b->jh f run b=some l->∀ o∈l,Bytes o.data
 | f,run,[],l,_,h=>by
  have h' : some (wo run [])=some l:=by cases f <;> exact h
  injection h' with h';rw [<-h'];exact ub (fun o ho=>by cases ho)
 | 0,run,x::r,l,_,h=>by cases h
 | f+1,run,[k],l,hb,h=>by
  rw [jh] at h
  split at h
  ·exact ky f (run+1) [] l qg h
  ·cases h
 | f+1,run,k::n::r,l,hb,h=>by
  rw [jh] at h
  split at h
  ·exact ky f (run+1) (n::r) l (wL hb) h
  ·split at h
   ·cases h
   ·split at h
    ·exact ky f _ _ l ((wL (wL hb)).drop _) h
    ·cases hg:jh f 0 (r.drop n.toNat) with
     | none=>rw [hg] at h; cases h
     | some m=>
      rw [hg] at h;injection h with h;rw [<-h];refine ub (fun o ho=>?_)
      cases ho with
      | head=>exact (wL (wL hb)).take _
      | tail _ ho=>exact ky f 0 _ m ((wL (wL hb)).drop _) hg o ho
def iX (x:Ext):Prop:=Bytes x.data/\∀ o∈x.opts,Bytes o.data
theorem cP:∀ (f:Nat) (g:Bool) (exts:List Ext) (next:Int) (r:List Int),Bytes r->(∀ x∈exts,iX x)->(∀ x∈(wJ f g exts next r).1.exts,iX x)/\Bytes (wJ f g exts next r).1.data/\(wJ f g exts next r).1.data.length<=r.length
 | 0,g,exts,next,r,hr,hx=>by
  show (∀ x∈Chn.z.exts,iX x)/\Bytes Chn.z.data/\Chn.z.data.length<=r.length;exact ⟨fun x h=>(by cases h),qg,Nat.zero_le _⟩
 | f+1,g,exts,next,r,hr,hx=>by
  have hz:(∀ x∈Chn.z.exts,iX x)/\Bytes Chn.z.data/\Chn.z.data.length<=r.length:=⟨fun x h=>(by cases h),qg,Nat.zero_le _⟩
  have happ:∀ y,iX y->∀ x∈exts++[y],iX x:=fun y hy x h=>by
   rcases List.mem_append.1 h with h | h
   ·exact hx x h
   ·rw [List.mem_singleton.1 h]; exact hy
  rw [wJ]
  split
  ·exact ⟨hx,hr,Nat.le_refl _⟩
  ·split
   ·unfold pz
    split
    ·exact hz
    ·split
     ·exact hz
     ·exact ⟨hx,hr.drop 8,by show (r.drop 8).length<=_; rw [List.length_drop]; omega⟩
   ·split
    ·exact hz
    ·split
     ·exact hz
     ·split
      ·exact hz
      ·split
       ·exact hz
       ·split
        ·have:=cP f false (exts++[⟨next,[],(r.drop 2).take (yT r)⟩]) (qk r 0) (r.drop (2+yT r)) (hr.drop _) (happ _ ⟨(hr.drop 2).take _,fun o ho=>by cases ho⟩);exact ⟨this.1,this.2.1,Nat.le_trans this.2.2 (by rw [List.length_drop]; omega)⟩
        ·split
         ·exact hz
         ·rename_i l hl;have:=cP f false (exts++[⟨next,l,[]⟩]) (qk r 0) (r.drop (2+yT r)) (hr.drop _) (happ _ ⟨qg,ky ((r.drop 2).take (yT r)).length 0 ((r.drop 2).take (yT r)) l ((hr.drop 2).take _) hl⟩);exact ⟨this.1,this.2.1,Nat.le_trans this.2.2 (by rw [List.length_drop]; omega)⟩
theorem lX {b:List Int} (hb:Bytes b) (h:(zv b).2=0):(zv b).1.src.Ok/\(zv b).1.dst.Ok/\(∀ x∈(zv b).1.exts,Bytes x.data/\∀ o∈x.opts,Bytes o.data)/\Bytes (zv b).1.data/\(zv b).1.data.length<=65535:=by
 unfold zv at h ⊢
 split
 ·rename_i h1; rw [if_pos h1] at h; cases h
 ·rename_i h1;rw [if_neg h1] at h
  split
  ·rename_i h2; rw [if_pos h2] at h; cases h
  ·rename_i h2;rw [if_neg h2] at h
   split
   ·rename_i h3; rw [if_pos h3] at h; cases h
   ·rename_i h3;rw [if_neg h3] at h
    split
    ·rename_i h4; rw [if_pos h4] at h; cases h
    ·rename_i h4;rw [if_neg h4] at h
     split
     ·rename_i h5; rw [if_pos h5] at h; exact absurd h h5
     ·have hw:=cP 9 true [] (fld b 48 8) ((b.drop 40).take (fld b 32 16).toNat) ((hb.drop 40).take _) (fun x hx=>by cases hx);refine ⟨⟨by show ((b.take 24).drop 8).length=16; rw [List.length_drop,List.length_take]; omega,(hb.take 24).drop 8⟩,⟨by show ((b.take 40).drop 24).length=16; rw [List.length_drop,List.length_take]; omega,(hb.take 40).drop 24⟩,hw.1,hw.2.1,Nat.le_trans hw.2.2 ?_⟩;rw [List.length_take,List.length_drop]; omega
theorem Jh (m:List AV):B23 N0 [.fs .u8 wb,.tup m]=some [plain.av,.int .i64 0,.tup m]:=by kernel_rfl
theorem Jd (m:List AV):B16 N0 [.tup m]=some [.bool true,.tup m]:=by
 show run16 B13 A15 A17 A18 B23 A30 A44 A45 N0 m=_;rw [eq16];simp only [ZZ,w44,Jh,w30,v13,v15,w45,a17,v18];rfl
theorem a52 (n:Nat) (hn:2 ^ 63<n) (b:List Int) (m:List AV) (hb:Bytes b) (hl:b.length<2 ^ 44):∃ m',A52 n [.fs .u8 b,.tup m]=some [(zv b).1.av,.int .i64 (zv b).2,.tup m']:=by
 show ∃ m',run52 A89 A90 n b m=_;rw [eq52];have h89:=a89 n hn b hb hl;unfold zv
 by_cases h1:b.length > 65535
 ·rw [if_pos h1] at h89 ⊢;rw [h89];exact ⟨m,rfl⟩
 rw [if_neg h1] at h89 ⊢
 by_cases h2:b.length<40
 ·rw [if_pos h2] at h89 ⊢;rw [h89];exact ⟨m,rfl⟩
 rw [if_neg h2] at h89 ⊢
 by_cases h3:fld b 0 4≠6
 ·rw [if_pos h3] at h89 ⊢;rw [h89];exact ⟨m,rfl⟩
 rw [if_neg h3] at h89 ⊢
 by_cases h4:fld b 32 16 >(b.length:Int) - 40
 ·rw [if_pos h4] at h89 ⊢;rw [h89];exact ⟨m,rfl⟩
 rw [if_neg h4] at h89 ⊢;obtain ⟨L,hL,l6,g1,g2,g4,g5⟩ : ∃ L,A89 n [.fs .u8 b]=some [.fs .i64 L,.fs .u8 ((b.drop 40).take (fld b 32 16).toNat),.int .i64 0]/\L.length=6/\qk L 1=fld b 4 8/\qk L 2=fld b 12 20/\qk L 4=fld b 48 8/\qk L 5=fld b 56 8:=⟨_,h89,rfl,rfl,rfl,rfl,rfl⟩;have i1:inR 1 6=true:=rfl;have i2:inR 2 6=true:=rfl;have i4:inR 4 6=true:=rfl;have i5:inR 5 6=true:=rfl;have n5:Nat.ble 5 6=true:=rfl;have n2:Nat.ble 2 6=true:=rfl;have n3:Nat.ble 3 6=true:=rfl;have n6:Nat.ble 6 6=true:=rfl;obtain ⟨m',h90⟩:=a90 n hn (fld b 48 8) ((b.drop 40).take (fld b 32 16).toNat) m ((hb.drop 40).take _) (by rw [List.length_take,List.length_drop]; omega);generalize wJ 9 true [] (fld b 48 8) ((b.drop 40).take (fld b 32 16).toNat)=w at *;simp only [hL,ZZ,show ((0:Int) != 0)=false from rfl,l6,i4,n5,g4,h90]
 by_cases h5:w.2=0
 ·rw [if_neg (by simpa using h5)];have t8:Nat.ble 16 (List.length (List.take 16 (List.drop 8 b)))=true:=Nat.ble_eq_true_of_le (by rw [List.length_take,List.length_drop]; omega);have t24:Nat.ble 16 (List.length (List.take 16 (List.drop 24 b)))=true:=Nat.ble_eq_true_of_le (by rw [List.length_take,List.length_drop]; omega);have e8:List.take 16 (List.take 16 (List.drop 8 b))=(b.take 24).drop 8:=by rw [List.take_take,List.drop_take]; rfl
  have e24:List.take 16 (List.take 16 (List.drop 24 b))=(b.take 40).drop 24:=by rw [List.take_take,List.drop_take]; rfl
  have c24:decide ((24:Int)<=Int.ofNat b.length)=true:=decide_eq_true (by show (24:Int)<=((b.length:Nat):Int); omega);have c40:decide ((40:Int)<=Int.ofNat b.length)=true:=decide_eq_true (by show (40:Int)<=((b.length:Nat):Int); omega);have cl:decide (Int.ofNat b.length<=Int.ofNat b.length)=true:=decide_eq_true (Int.le_refl _);simp only [show (w.2 != 0)=false by simpa using h5,ZZ,i1,n2,i2,n3,i5,n6,g1,g2,g5,c24,c40,cl,Bool.and_self,t8,t24,e8,e24];exact ⟨m',rfl⟩
 ·rw [if_pos h5];simp only [show (w.2 != 0)=true by simpa using h5,ZZ];exact ⟨m',rfl⟩
theorem Wq {f:Frm} {k:Int} (h1:f.dst.length=6/\Bytes f.dst) (h2:f.src.length=6/\Bytes f.src):(bare f k).Ok:=by
 have hz:∀ o∈([]:List Opt),Bytes o.data:=fun o ho=>by cases ho
 exact ⟨kr,kr,kr,kr,h1,h2,im,im,kr,kr,hz,qg,fun x hx=>(by cases hx),qg,qg,qg,hz,qg⟩
theorem a23 (n:Nat) (hn:2 ^ 63<n) (b:List Int) (m:List AV) (hb:Bytes b) (hl:b.length<2 ^ 44):∃ m',A23 n [.fs .u8 b,.tup m]=some [(gQ b).1.av,.int .i64 (gQ b).2,.tup m']:=by
 show ∃ m',run23 A26 A49 A50 A51 A52 n b m=_;rw [eq23];have h49:=a49 n hn b hb hl;unfold gQ
 by_cases c1:(qo b).2=0
 ·rw [if_neg (by simpa using c1)];obtain ⟨o1,o2,o3,o4⟩:=ti hb c1;generalize (qo b).1=f at *;simp only [h49,ZZ,show ((qo b).2 != 0)=false by simpa using c1];have hbare:∀ k,(bare f k).Ok:=fun k=>Wq o1 o2
  by_cases t1:f.type=2054
  ·rw [if_pos t1];have h50:=a50 n hn f.data o3 (by omega);simp only [show (f.type == 2054)=true by simpa using t1,ZZ,h50]
   by_cases c2:(zy f.data).2=0
   ·rw [if_neg (by simpa using c2)];obtain ⟨p1,p2,p3,p4⟩:=ly o3 c2;have hb1:=hbare 1;have h26:=a26 n hn { bare f 1 with arp:=(zy f.data).1 } ⟨hb1.s4,hb1.d4,hb1.s6,hb1.d6,hb1.dst,hb1.src,p1,p2,p3,p4,hb1.o4,hb1.b4,hb1.x6,hb1.b6,hb1.bi,hb1.bu,hb1.ot,hb1.bt⟩ (by unfold qB; split <;> exact qg) (by unfold qB; split <;> exact Nat.two_pow_pos 44);simp only [show ((zy f.data).2 != 0)=false by simpa using c2,ZZ];refine ⟨m,?_⟩
    show Option.bind (A26 n [Pkt.av { bare f 1 with arp:=(zy f.data).1 }]) _=_;rw [h26];rfl
   ·rw [if_pos (by simpa using c2)];simp only [show ((zy f.data).2 != 0)=true by simpa using c2,ZZ];exact ⟨m,rfl⟩
  rw [if_neg t1]
  by_cases t2:f.type=2048
  ·rw [if_pos t2];have h51:=a51 n hn f.data o3 (by omega);simp only [show (f.type == 2054)=false by simpa using t1,show (f.type == 2048)=true by simpa using t2,ZZ,h51]
   by_cases c2:(qO f.data).2=0
   ·rw [if_neg (by simpa using c2)];obtain ⟨p1,p2,p3,p4,p5⟩:=lq o3 c2;have hb1:=hbare 2;have h26:=a26 n hn { bare f 2 with ip4:=(qO f.data).1 } ⟨p1,p2,hb1.s6,hb1.d6,hb1.dst,hb1.src,hb1.smac,hb1.tmac,hb1.sip,hb1.tip,p3,p4,hb1.x6,hb1.b6,hb1.bi,hb1.bu,hb1.ot,hb1.bt⟩ p4 (by show (qO f.data).1.data.length<_; omega);simp only [show ((qO f.data).2 != 0)=false by simpa using c2,ZZ];refine ⟨m,?_⟩
    show Option.bind (A26 n [Pkt.av { bare f 2 with ip4:=(qO f.data).1 }]) _=_;rw [h26];rfl
   ·rw [if_pos (by simpa using c2)];simp only [show ((qO f.data).2 != 0)=true by simpa using c2,ZZ];exact ⟨m,rfl⟩
  rw [if_neg t2]
  by_cases t3:f.type=34525
  ·rw [if_pos t3];obtain ⟨m',h52⟩:=a52 n hn f.data m o3 (by omega);simp only [show (f.type == 2054)=false by simpa using t1,show (f.type == 2048)=false by simpa using t2,show (f.type == 34525)=true by simpa using t3,ZZ,h52]
   by_cases c2:(zv f.data).2=0
   ·rw [if_neg (by simpa using c2)];obtain ⟨p1,p2,p3,p4,p5⟩:=lX o3 c2;have hb1:=hbare 3;have h26:=a26 n hn { bare f 3 with ip6:=(zv f.data).1 } ⟨hb1.s4,hb1.d4,p1,p2,hb1.dst,hb1.src,hb1.smac,hb1.tmac,hb1.sip,hb1.tip,hb1.o4,hb1.b4,p3,p4,hb1.bi,hb1.bu,hb1.ot,hb1.bt⟩ p4 (by show (zv f.data).1.data.length<_; omega);simp only [show ((zv f.data).2 != 0)=false by simpa using c2,ZZ];refine ⟨m',?_⟩
    show Option.bind (A26 n [Pkt.av { bare f 3 with ip6:=(zv f.data).1 }]) _=_;rw [h26];rfl
   ·rw [if_pos (by simpa using c2)];simp only [show ((zv f.data).2 != 0)=true by simpa using c2,ZZ];exact ⟨m',rfl⟩
  rw [if_neg t3];simp only [show (f.type == 2054)=false by simpa using t1,show (f.type == 2048)=false by simpa using t2,show (f.type == 34525)=false by simpa using t3,ZZ,show ((100:Int) != 0)=true from rfl];exact ⟨m,rfl⟩
 ·rw [if_pos (by simpa using c1)];simp only [h49,ZZ,show ((qo b).2 != 0)=true by simpa using c1];exact ⟨m,rfl⟩
theorem b5' (F13 F15 F16 F17 F22 F23:Fun) (n:Nat) (p:Pkt) (h:p.Sm) (h16:∀ m:List AV,F16 n [.tup m]=some [.bool true,.tup m]) (h17:∀ x:Int,F17 n [.int .i64 x]=some [.int .i64 x])
  (h13:F13 n [p.av]=some [.fs .u8 (xc p).1,.int .i64 (xc p).2]) (h22:F22 n [p.av]=some [.int .i64 (zX p).2])
  (h15:∀ a b:Pkt,a.Bz->b.Bz->F15 n [a.av,b.av]=some [.bool (decide (a=b))])
  (h23:∀ b:List Int,Bytes b->b.length<2 ^ 44->∃ m',F23 n [.fs .u8 b,.tup []]=some [(gQ b).1.av,.int .i64 (gQ b).2,.tup m']):run5 F13 F15 F16 F17 F22 F23 n p.av=some [.bool true]:=by
 rw [eq5]
 by_cases c:(zX p).2=0
 ·have hs:(xc p).2=0:=by unfold xc; rw [if_neg (by simpa using c)]
  have hk:=uJ h.ok hs
  have hl:(xc p).1.length<2 ^ 44:=by
   have:=bP h c;have e:(xc p).1=nQ (zX p).1:=by unfold xc; rw [if_neg (by simpa using c)]
   rw [e]; unfold nQ; rw [List.length_append,List.length_replicate]; omega
  obtain ⟨m',h23'⟩:=h23 (xc p).1 (sj h) hl;rw [hk] at h23';have e15:=h15 p p h.bz h.bz;rw [decide_eq_true rfl] at e15;simp only [ZZ,h22,h13,h17,hs,c,show ((0:Int) != 0)=false from rfl,h23',h16,show ((0:Int) == 0)=true from rfl,e15]
 ·have hs:(xc p).2=(zX p).2/\(xc p).1=[]:=by unfold xc; rw [if_pos c]; exact ⟨rfl,rfl⟩
  simp only [ZZ,h22,h13,h17,hs.1,hs.2,show ((zX p).2 !=(zX p).2)=false by simp,show ((zX p).2 != 0)=true by simpa using c,h16];rfl
noncomputable def B5:Fun:=D5.R (cal5 A13 A15 B16 A17 A22 A23) H5
theorem T5:K 5 D5 B5:=sq (Qp S13 S15 T16 S17 S22 S23) Tryz.func5
theorem b5 (p:Pkt) (h:p.Sm):B5 N0 [p.av]=some [.bool true]:=
 b5' A13 A15 B16 A17 A22 A23 N0 p h Jd (a17 N0) (a13 N0 hN0 p h) (a22 N0 hN0 p h) (a15 N0 hN0) (fun b hb hl=>a23 N0 hN0 b [] hb hl)
end Go.Proofs.YtlmnjnhmhacgkaaGreatDoor.Am
end
