/-
  Parse and Normal; what is read may be, and its canonical form is its own.
-/
import Derived.Test.YtlmnjnhmhacgkaaGreatDoorPkI
import Derived.Test.YtlmnjnhmhacgkaaGreatDoorPkF
import Derived.Test.YtlmnjnhmhacgkaaGreatDoorPkE
section
set_option linter.unusedVariables false
set_option linter.unusedSimpArgs false
set_option maxRecDepth 100000
namespace Go.Proofs.YtlmnjnhmhacgkaaGreatDoor.Am
open Go Go.Am Go.Proofs
theorem Qd {x y:Int} (h1:0<=x) (h2:x<=255) (h3:0<=y) (h4:y<=255):BitVec.toNat ((BitVec.ofInt 64 (x * 256)) ||| (BitVec.ofInt 64 y))=(x * 256+y).toNat:=by
 obtain ⟨a,rfl⟩:=Int.eq_ofNat_of_zero_le h1;obtain ⟨b,rfl⟩:=Int.eq_ofNat_of_zero_le h3
 have e1:(BitVec.ofInt 64 ((a:Int) * 256)).toNat=2 ^ 8 * a:=by
  rw [show (a:Int) * 256=((2 ^ 8 * a:Nat):Int) by omega,zt (by omega)]
 rw [BitVec.toNat_or,e1,zt (by omega),<-Nat.two_pow_add_eq_or_of_lt (by omega:b<2 ^ 8)];omega
theorem a78 (n:Nat) (b:List Int) (i:Nat) (hb:Bytes b) (h:i+1<b.length) (hl:b.length<2 ^ 44):A78 n [.fs .u8 b,.int .i64 (i:Nat)]=some [.int .i64 (two b i)]:=by
 show run78 n b (i:Nat)=_;rw [eq78];have g0:=hb.get i;have g1:=hb.get (i+1);have w:IntKind.wrap .i64 ((i:Int)+1)=((i+1:Nat):Int):=by rw [qv (by omega) (by omega)]; omega
 simp only [w,ql (show i<b.length by omega),ql h,bT,Int.toNat_natCast,Jw];rw [qv (x:=qk b i) (by omega) (by omega),qv (x:=qk b (i+1)) (by omega) (by omega),qv (x:=qk b i * 256) (by omega) (by omega),Qd g0.1 g0.2 g1.1 g1.2];unfold two;have:Int.ofNat (qk b i * 256+qk b (i+1)).toNat=qk b i * 256+qk b (i+1):=Int.toNat_of_nonneg (by omega);rw [this,qv (by omega) (by omega)]
theorem er {x:Int} {k:Nat} (h1:0<=x) (h2:x<2 ^ 62) (hk:k<=40):IntKind.wrap .i64 (Int.ofNat (BitVec.toNat ((BitVec.ofInt 64 x) &&& (BitVec.ofInt 64 ((2 ^ k - 1:Nat):Int)))))=x % (2 ^ k:Nat):=by
 obtain ⟨a,rfl⟩:=Int.eq_ofNat_of_zero_le h1;have hp:2 ^ k<=2 ^ 40:=Nat.pow_le_pow_right (by decide) hk
 have e:(BitVec.ofInt 64 ((a:Nat):Int) &&& BitVec.ofInt 64 ((2 ^ k - 1:Nat):Int)).toNat=a % 2 ^ k:=by
  rw [BitVec.toNat_and,zt (by omega),zt (by omega)];exact Nat.and_two_pow_sub_one_eq_mod a k
 have hm:a % 2 ^ k<2 ^ 40:=Nat.lt_of_lt_of_le (Nat.mod_lt _ (Nat.two_pow_pos k)) hp;rw [e];exact (qv (x:=((a % 2 ^ k:Nat):Int)) (by omega) (by omega)).trans (Int.natCast_emod a (2 ^ k))
theorem shr {x:Int} {k:Nat} (h1:0<=x) (hk:k<=63):Int.fdiv x (Int.ofNat (2 ^ (Min.min (Int.toNat (k:Int)) (IntKind.bits .i64))))=x / (2 ^ k:Nat):=by
 have:Min.min (Int.toNat (k:Int)) (IntKind.bits .i64)=k:=by
  rw [Int.toNat_natCast]; exact Nat.min_eq_left (by show k<=64; omega)
 rw [this];exact Int.fdiv_eq_ediv_of_nonneg _ (Int.natCast_nonneg _)
def ya (b:List Int) (s:List Tag × Nat):Int × List Tag × Nat:=zQ b (2 - s.1.length) s.1 s.2
def nk (b:List Int) (s:List Tag × Nat) (t:Int):AV:=Frm.av ⟨b.take 6,(b.take 12).drop 6,s.1,t,[]⟩
def pH (b:List Int) (s:List Tag × Nat):Sum (List AV) (List AV):=
 if (ya b s).1≠0 then .inr [Frm.z.av,.int .i64 (ya b s).1]
 else .inl [.fs .u8 b,Frm.z.av,nk b (ya b s).2 (two b (ya b s).2.2),.int .i64 ((ya b s).2.2:Nat)]
theorem yo {b:List Int} {s:List Tag × Nat} {e:Int} {r:List Tag × Nat} (h:ya b s=(e,r)) (he:e≠0):pH b s=.inr [Frm.z.av,.int .i64 e]:=by
 unfold pH; rw [h,if_pos he]
theorem lm {b:List Int} {s r:List Tag × Nat} (h:ya b s=(0,r)):pH b s=.inl [.fs .u8 b,Frm.z.av,nk b r (two b r.2),.int .i64 (r.2:Nat)]:=by
 unfold pH; rw [h,if_neg (fun h=>h rfl)]
theorem lJ (b:List Int):∀ (k:Nat) (ts:List Tag) (i:Nat),i+2<=b.length->(zQ b k ts i).1=0->(zQ b k ts i).2.2+2<=b.length
 | 0,ts,i,h,hz=>by
  unfold zQ at hz ⊢
  split
  ·rename_i hx; rw [if_pos hx] at hz; cases hz
  ·exact h
 | k+1,ts,i,h,hz=>by
  unfold zQ at hz ⊢
  split
  ·rename_i hx;rw [if_pos hx] at hz
   split
   ·rename_i hy; rw [if_pos hy] at hz; cases hz
   ·rename_i hy;rw [if_neg hy] at hz
    split
    ·rename_i hw; rw [if_pos hw] at hz; cases hz
    ·rename_i hw;rw [if_neg hw] at hz
     split
     ·rename_i hv; rw [if_pos hv] at hz; cases hz
     ·rename_i hv;rw [if_neg hv] at hz;exact lJ b k _ _ (by omega) hz
  ·exact h
theorem QZ {b:List Int} (hb:Bytes b) (i:Nat):0<=two b i/\two b i<=65535:=by
 have:=hb.get i;have:=hb.get (i+1);unfold two;omega
theorem a49 (n:Nat) (hn:2 ^ 63<n) (b:List Int) (hb:Bytes b) (hl:b.length<2 ^ 44):A49 n [.fs .u8 b]=some [(qo b).1.av,.int .i64 (qo b).2]:=by
 show run49 A77 A78 A79 n b=_;rw [eq49];unfold qo
 by_cases h1:b.length > 65535
 ·rw [if_pos h1,qp (by exact decide_eq_true (by show (65535:Int)<((b.length:Nat):Int); omega))];rfl
 rw [if_neg h1,qi (by exact decide_eq_false (by show ¬ (65535:Int)<((b.length:Nat):Int); omega))]
 by_cases h2:b.length<14
 ·rw [if_pos h2,qp (by exact decide_eq_true (by show ((b.length:Nat):Int)<14; omega))];rfl
 rw [if_neg h2,qi (by exact decide_eq_false (by show ¬ ((b.length:Nat):Int)<14; omega))];have c6:decide ((6:Int)<=Int.ofNat b.length)=true:=decide_eq_true (by show (6:Int)<=((b.length:Nat):Int); omega);have c12:decide ((12:Int)<=Int.ofNat b.length)=true:=decide_eq_true (by show (12:Int)<=((b.length:Nat):Int); omega);have cl:decide (Int.ofNat b.length<=Int.ofNat b.length)=true:=decide_eq_true (Int.le_refl _);have t6:Nat.ble 6 (List.length (List.take 6 b))=true:=Nat.ble_eq_true_of_le (by rw [List.length_take]; omega);have t12:Nat.ble 6 (List.length (List.take 6 (List.drop 6 b)))=true:=Nat.ble_eq_true_of_le (by rw [List.length_take,List.length_drop]; omega);have e6:List.take 6 (List.take 6 b)=b.take 6:=by rw [List.take_take]; rfl
 have e12:List.take 6 (List.take 6 (List.drop 6 b))=(b.take 12).drop 6:=by rw [List.take_take,List.drop_take]; rfl
 simp only [ZZ,c6,c12,cl,t6,t12,Bool.and_self,e6,e12];rw [a77 n _ ((hb.take 12).drop 6)]
 by_cases h3:xQ ((b.take 12).drop 6)
 ·rw [if_pos h3];simp only [ZZ,decide_eq_true h3];rfl
 rw [if_neg h3];simp only [ZZ,decide_eq_false h3];have hz:(AV.agg [(.arr .u8 6 [0,0,0,0,0,0]),(.arr .u8 6 [0,0,0,0,0,0]),(.fv s79 []),(.int .i64 0),(.fs .u8 [])])=Frm.z.av:=rfl;have hf:(AV.agg [(.arr .u8 6 (b.take 6)),(.arr .u8 6 ((b.take 12).drop 6)),(.fv s79 []),(.int .i64 0),(.fs .u8 [])])=nk b ([],12) 0:=rfl;refine wZ (fun s:List Tag × Nat=>[.fs .u8 b,Frm.z.av,nk b s 0,.int .i64 (s.2:Nat)]) (fun s=>2 - s.1.length)
  (fun s=>pH b s) (fun s=>s.1.length<=2/\s.2+2<=b.length) ([],12) (by show 2 - 0<n; omega) ⟨by decide,by show 12+2<=b.length; omega⟩ (fun s K hs hK=>?_) ?_
 ·obtain ⟨ts,i⟩:=s;dsimp only at hs hK ⊢;simp only [ZZ];rw [a78 n b i hb (by omega) hl];have ht:=QZ hb i;have h79:=a79 n (two b i);simp only [ZZ,h79]
  by_cases c1:wV (two b i)
  ·have c1' : decide (wV (two b i))=true:=decide_eq_true c1;rw [c1'];simp only [ZZ,Bool.not_true];have hfi:∀ t,(nk b (ts,i) t).item 2=.fv s79 (ts.map Tag.av):=fun t=>rfl
   have hm:(Int.ofNat (List.map Tag.av ts).length)=((ts.length:Nat):Int):=by rw [List.length_map]; rfl
   simp only [hfi,ZZ,hm]
   by_cases c2:ts.length=2
   ·have d:(((ts.length:Nat):Int) == 2)=true:=by rw [c2]; rfl
    have he:ya b (ts,i)=(51,[],0):=by
     show zQ b (2 - ts.length) ts i=_;rw [c2]; show zQ b 0 ts i=_; unfold zQ; rw [if_pos c1]
    rw [yo he (by decide)];simp only [ZZ,d];rfl
   ·have d:(((ts.length:Nat):Int) == 2)=false:=by simp; omega
    obtain ⟨k,hk⟩ : ∃ k,2 - ts.length=k+1:=⟨1 - ts.length,by omega⟩;have hE:ya b (ts,i)=zQ b (k+1) ts i:=by show zQ b (2 - ts.length) ts i=_; rw [hk]
    rw [show zQ b (k+1) ts i=_ from by rw [zQ,if_pos c1]] at hE;simp only [ZZ,d];refine pD (y:=if (ts.length=1/\two b i=34984)\/b.length<i+6 then some (Sum.inr (Sum.inr [Frm.z.av,.int .i64 (if ts.length=1/\two b i=34984 then 51 else 50)])) else some (Sum.inl [.fs .u8 b,Frm.z.av,nk b (ts,i) 0,.int .i64 (i:Nat),.int .i64 (two b i)])) ?_ ?_
    ·have w6:IntKind.wrap .i64 ((i:Int)+6)=((i+6:Nat):Int):=by rw [qv (by omega) (by omega)]; omega
     refine pD (y:=some (Sum.inl [.fs .u8 b,Frm.z.av,nk b (ts,i) 0,.int .i64 (i:Nat),.int .i64 (two b i),.bool (decide (ts.length=1/\two b i=34984))])) ?_ ?_
     ·by_cases c3:ts.length=1
      ·have d3:(((ts.length:Nat):Int) == 1)=true:=by rw [c3]; rfl
       have d4:(two b i == 34984)=decide (ts.length=1/\two b i=34984):=by simp [c3]; rfl
       simp only [ZZ,d3,d4];rfl
      ·have d3:(((ts.length:Nat):Int) == 1)=false:=by simp; omega
       have d4:decide (ts.length=1/\two b i=34984)=false:=decide_eq_false (fun h=>c3 h.1);simp only [ZZ,d3,d4];rfl
     ·simp only [ZZ,w6]
      by_cases c4:ts.length=1/\two b i=34984
      ·rw [if_pos (.inl c4),if_pos c4];simp only [ZZ,decide_eq_true c4];rfl
      ·simp only [ZZ,decide_eq_false c4]
       by_cases c5:b.length<i+6
       ·rw [if_pos (.inr c5),if_neg c4];refine (qp (by exact decide_eq_true (by show ((b.length:Nat):Int)<_; omega))).trans ?_;rfl
       ·rw [if_neg (fun h=>h.elim c4 c5)];refine (qi (by exact decide_eq_false (by show ¬ ((b.length:Nat):Int)<_; omega))).trans ?_;rfl
    ·by_cases c4:ts.length=1/\two b i=34984
     ·rw [if_pos (.inl c4),if_pos c4];rw [if_pos c4] at hE;rw [yo hE (by decide)];rfl
     ·rw [if_neg c4] at hE
      by_cases c5:b.length<i+6
      ·rw [if_pos (.inr c5),if_neg c4];rw [if_pos c5] at hE;rw [yo hE (by decide)];rfl
      ·rw [if_neg c5] at hE;rw [if_neg (fun h=>h.elim c4 c5)];have w2:IntKind.wrap .i64 ((i:Int)+2)=((i+2:Nat):Int):=by rw [qv (by omega) (by omega)]; omega
       have w4:IntKind.wrap .i64 ((i:Int)+4)=((i+4:Nat):Int):=by rw [qv (by omega) (by omega)]; omega
       have hw:=QZ hb (i+2);have l12:IntKind.wrap .i64 (Int.ofNat (BitVec.toNat ((BitVec.ofInt 64 (two b (i+2))) &&& (BitVec.ofInt 64 4095))))=two b (i+2) % 4096:=er (k:=12) hw.1 (by omega) (by decide);simp only [ZZ,w2];rw [a78 n b (i+2) hb (by omega) hl];simp only [ZZ,l12]
       by_cases c6:two b (i+2) % 4096=4095
       ·rw [if_pos c6] at hE;rw [yo hE (by decide)];simp only [ZZ,show (two b (i+2) % 4096 == 4095)=true by simpa using c6];rfl
       ·rw [if_neg c6] at hE
        have hE2:ya b (ts,i)=ya b (ts++[fg (two b i) (two b (i+2))],i+4):=by
         rw [hE]
         show _=zQ b (2 - (ts++[fg (two b i) (two b (i+2))]).length) _ _;rw [List.length_append,show 2 - (ts.length+[fg (two b i) (two b (i+2))].length)=k by simp; omega]
        have hO:pH b (ts,i)=pH b (ts++[fg (two b i) (two b (i+2))],i+4):=by unfold pH; rw [hE2]
        have hK1:=hK (ts++[fg (two b i) (two b (i+2))],i+4) (by show 2 - (ts++_).length<2 - ts.length; rw [List.length_append]; simp; omega) ⟨by show (ts++_).length<=2; rw [List.length_append]; simp; omega,by show i+4+2<=b.length; omega⟩;dsimp only at hK1;rw [hO,<-hK1];have hble:Nat.ble (((List.map Tag.av ts).length+1) * 32) 140737488355328=true:=qT (by rw [List.length_map]; omega);have s13:=shr (x:=two b (i+2)) (k:=13) hw.1 (by decide);have s12:=shr (x:=two b (i+2)) (k:=12) hw.1 (by decide);have q1:IntKind.wrap .i64 (Int.ofNat (BitVec.toNat ((BitVec.ofInt 64 (two b (i+2) / 4096)) &&& (BitVec.ofInt 64 1))))=two b (i+2) / 4096 % 2:=er (k:=1) (by omega) (by omega) (by decide);have s13' : Int.fdiv (two b (i+2)) (Int.ofNat (2 ^ (Min.min (Int.toNat 13) (IntKind.bits .i64))))=two b (i+2) / 8192:=s13;have s12' : Int.fdiv (two b (i+2)) (Int.ofNat (2 ^ (Min.min (Int.toNat 12) (IntKind.bits .i64))))=two b (i+2) / 4096:=s12;simp only [ZZ,show (two b (i+2) % 4096 == 4095)=false by simpa using c6,hfi,hble,s13',s12',q1,w4];refine congrArg K ?_;unfold nk
        show [_,_,AV.agg [_,_,.fv s79 (List.map Tag.av ts++[_]),_,_],_]=[_,_,AV.agg [_,_,.fv s79 (List.map Tag.av (ts++[fg (two b i) (two b (i+2))])),_,_],_];rw [List.map_append];rfl
  ·have c1' : decide (wV (two b i))=false:=decide_eq_false c1;rw [c1'];simp only [ZZ,Bool.not_false]
   have he:ya b (ts,i)=(0,ts,i):=by
    show zQ b (2 - ts.length) ts i=_
    cases hk:2 - ts.length with
    | zero=>unfold zQ; rw [if_neg c1]
    | succ k=>rw [zQ,if_neg c1]
   rw [lm he];rfl
 ·have hE:ya b ([],12)=zQ b 2 [] 12:=rfl
  by_cases c1:(zQ b 2 [] 12).1=0
  ·rw [if_neg (by simpa using c1)];rw [lm (r:=(zQ b 2 [] 12).2) (by rw [hE,<-c1])];have hle:=lJ b 2 [] 12 (by omega) c1;generalize (zQ b 2 [] 12).2=r at *;obtain ⟨ts,i⟩:=r;dsimp only at hle ⊢;have hfi:∀ t,(nk b (ts,i) t).item 3=.int .i64 t:=fun t=>rfl
   have w2:IntKind.wrap .i64 ((i:Int)+2)=((i+2:Nat):Int):=by rw [qv (by omega) (by omega)]; omega
   simp only [ZZ,hfi,w2]
   by_cases c2:two b i<1536
   ·rw [if_pos c2];refine (qp (by exact decide_eq_true c2)).trans ?_;rfl
   ·rw [if_neg c2];refine (qi (by exact decide_eq_false c2)).trans ?_;have d1:decide ((0:Int)<=((i+2:Nat):Int))=true:=decide_eq_true (by omega);have d2:decide (((i+2:Nat):Int)<=Int.ofNat b.length)=true:=decide_eq_true (by show _<=((b.length:Nat):Int); omega);simp only [ZZ,d1,d2];refine (qp (by exact decide_eq_true (Int.le_refl (Int.ofNat b.length)))).trans ?_;have e2:List.take (b.length - (i+2)) (List.drop (i+2) b)=b.drop (i+2):=List.take_of_length_le (by rw [List.length_drop]; omega)
    show some [AV.agg [_,_,_,_,.fs .u8 (List.take (b.length - (i+2)) (List.drop (i+2) b))],_]=_;rw [e2];rfl
  ·rw [if_pos (by simpa using c1)];rw [yo (r:=(zQ b 2 [] 12).2) hE c1];rfl
theorem Qy {R σ:Type} {g:List AV->(List AV->Option R)->Option R} (enc:σ->List AV) (μ:σ->Nat) (P:σ->R->Prop) (Good:σ->Prop)
  (hstep:∀ x k,Good x->(∀ y,μ y<μ x->Good y->∃ o,k (enc y)=some o/\P y o)->∃ o,g (enc x) k=some o/\P x o):∀ n x,μ x<n->Good x->∃ o,iter g n (enc x)=some o/\P x o:=by
 intro n
 induction n with
 | zero=>intro x h; omega
 | succ n ih=>
  intro x h hg;exact hstep x (iter g n) hg (fun y hy hgy=>ih y (by omega) hgy)
theorem QV {R σ:Type} {g:List AV->(List AV->Option (Sum (List AV) R))->Option (Sum (List AV) R)} {n:Nat} {K:List AV->Option R} {r:Option R} (enc:σ->List AV) (μ:σ->Nat) (P:σ->Sum (List AV) R->Prop) (Good:σ->Prop) (x:σ) (hμ:μ x<n) (hg:Good x)
  (hstep:∀ x k,Good x->(∀ y,μ y<μ x->Good y->∃ o,k (enc y)=some o/\P y o)->∃ o,g (enc x) k=some o/\P x o) (hK:∀ o,P x o->jn (some o) K=r):jn (iter g n (enc x)) K=r:=by
 obtain ⟨o,e,h⟩:=Qy enc μ P Good hstep n x hμ hg;rw [e];exact hK o h
theorem a120_2 (n:Nat):A120 n [.int .i64 2]=some [.bool true]:=rfl
def bw (x:List Int) (y:Nat):Nat->Int
 | 0=>0
 | 1=>qk x y
 | _=>two x y
theorem aa {x:List Int} (hb:Bytes x) (y:Nat):∀ {t:Nat},t<2->0<=bw x y t/\bw x y t<=255/\bw x y (t+1)=bw x y t * 256+qk x (y+t)
 | 0,_=>⟨Int.le_refl 0,by show (0:Int)<=255; decide,by show qk x y=0 * 256+qk x (y+0); rw [Nat.add_zero]; omega⟩
 | 1,_=>⟨(hb.get y).1,(hb.get y).2,rfl⟩
theorem a122_2 (n:Nat) (hn:2 ^ 63<n) (x:List Int) (y:Nat) (hb:Bytes x) (h2:y+1<x.length) (hl:x.length<2 ^ 44):A122 n [.fs .u8 x,.int .i64 (y:Nat),.int .i64 2]=some [.int .u64 (two x y)]:=by
 show run122 A126 n x (y:Nat) 2=_;rw [eq122];have d1:decide (((y:Nat):Int)<0)=false:=decide_eq_false (by omega);have d2:decide (((y:Nat):Int) > Int.ofNat x.length)=false:=decide_eq_false (by show ¬ ((x.length:Nat):Int)<_; omega);simp only [ZZ,d1,d2];have g0:=hb.get y;have g1:=hb.get (y+1);refine xi (fun t:Nat=>[.fs .u8 x,.int .i64 (y:Nat),.int .u64 (bw x y t),.int .i64 2,.int .i64 (t:Nat)]) (fun t=>2 - t) (fun _=>[.int .u64 (two x y)]) (fun t=>t<=2) 0 (by show 2 - 0<n; omega) (Nat.zero_le _) (fun t K ht hK=>?_) ?_
 ·simp only [ZZ]
  by_cases ht2:t<2
  ·have w:IntKind.wrap .i64 ((y:Int)+(t:Int))=((y+t:Nat):Int):=by rw [qv (by omega) (by omega)]; omega
   have w1:IntKind.wrap .i64 ((t:Int)+1)=((t+1:Nat):Int):=by rw [qv (by omega) (by omega)]; omega
   have hK1:=hK (t+1) (by show 2 - (t+1)<2 - t; omega) (by show t+1<=2; omega);have h126:=a126 n x ((y+t:Nat):Int) (by omega) (by omega);rw [Int.toNat_natCast] at h126;have hgt:=hb.get (y+t);refine (qp (by exact decide_eq_true (by omega))).trans ?_;refine (qi (by rw [Bool.or_eq_false_iff]; exact ⟨decide_eq_false (by rw [w]; omega),decide_eq_false (by rw [w]; show ¬ ((x.length:Nat):Int)<=_; omega)⟩)).trans ?_;rw [w,h126];have hacc:=aa hb y ht2
   have sh:bw x y t * (Int.ofNat (2 ^ (Min.min (Int.toNat 8) (IntKind.bits .u64))))=bw x y t * 256:=by
    have:(Int.ofNat (2 ^ (Min.min (Int.toNat 8) (IntKind.bits .u64))))=256:=by decide
    rw [this]
   have e:Int.ofNat (bw x y t * 256+qk x (y+t)).toNat=bw x y t * 256+qk x (y+t):=Int.toNat_of_nonneg (by omega);simp only [ZZ,sh,w1];rw [kA (x:=bw x y t * 256) (by omega) (by omega),kA (x:=qk x (y+t)) (by omega) (by omega),Qd hacc.1 hacc.2.1 hgt.1 hgt.2,e,kA (by omega) (by omega),<-hacc.2.2];exact hK1
  ·have:t=2:=by omega
   subst this;rw [qi (by exact decide_eq_false (by omega))];rfl
 ·simp only [ZZ]
theorem a80_2 (n:Nat) (hn:2 ^ 63<n) (x:List Int) (y:Nat) (hb:Bytes x) (h2:y+1<x.length) (hl:x.length<2 ^ 44):A80 n [.fs .u8 x,.int .i64 (y:Nat),.int .i64 2]=some [.int .u64 (two x y),.int .i64 0]:=by
 show run80 A120 A122 n x (y:Nat) 2=_;rw [eq80,a120_2]
 show brO (decide (x.length<=2 ^ 47) && (decide (((y:Nat):Int)<0) || (decide (((y:Nat):Int) >(x.length:Nat)) || (decide ((0:Int)<2) && (decide ((2:Int)<=8) && decide (((y:Nat):Int)+2 >(x.length:Nat))))))) _ _=_;rw [qi (by simp; omega),a122_2 n hn x y hb h2 hl];rfl
theorem QA {x y:Int} (h1:0<=x/\x<=255) (h2:0<=y/\y<=255) (h:Go.Am.toU8 x=Go.Am.toU8 y):x=y:=by
 have e:∀ z:Int,0<=z/\z<=255->(Go.Am.toU8 z).toNat=z.toNat:=fun z hz=>by
  unfold Go.Am.toU8;rw [UInt8.toNat_ofNat'];omega
 have:=congrArg UInt8.toNat h;rw [e x h1,e y h2] at this;omega
theorem iq:∀ {l m:List Int},Bytes l->Bytes m->l.map Go.Am.toU8=m.map Go.Am.toU8->l=m
 | [],[],_,_,_=>rfl
 | [],y::m,_,_,h=>by cases h
 | x::l,[],_,_,h=>by cases h
 | x::l,y::m,hl,hm,h=>by
  injection h with h1 h2;rw [QA (hl x (List.mem_cons_self ..)) (hm y (List.mem_cons_self ..)) h1,iq (fun z hz=>hl z (List.mem_cons_of_mem _ hz)) (fun z hz=>hm z (List.mem_cons_of_mem _ hz)) h2]
theorem Zc {l:List Int} (h:Bytes l):((List.map Go.Am.toU8 l) ==[0,1,8,0,6,4])=decide (l=wP):=by
 have e:List.map Go.Am.toU8 wP=[0,1,8,0,6,4]:=by decide
 have hf:Bytes wP:=by unfold Bytes wP; decide
 rw [<-e]
 by_cases c:l=wP
 ·rw [c,decide_eq_true rfl]; exact beq_self_eq_true _
 ·rw [decide_eq_false c]
  cases hb:List.map Go.Am.toU8 l == List.map Go.Am.toU8 wP with
  | false=>rfl
  | true=>exact absurd (iq h hf (eq_of_beq hb)) c
theorem a50 (n:Nat) (hn:2 ^ 63<n) (b:List Int) (hb:Bytes b) (hl:b.length<2 ^ 44):A50 n [.fs .u8 b]=some [(zy b).1.av,.int .i64 (zy b).2]:=by
 show run50 A80 A81 A82 n b=_;rw [eq50];unfold zy
 by_cases h1:b.length > 65535
 ·rw [if_pos h1,qp (by exact decide_eq_true (by show (65535:Int)<((b.length:Nat):Int); omega))];rfl
 rw [if_neg h1,qi (by exact decide_eq_false (by show ¬ (65535:Int)<((b.length:Nat):Int); omega))]
 by_cases h2:b.length<28
 ·rw [if_pos h2,qp (by exact decide_eq_true (by show ((b.length:Nat):Int)<28; omega))];rfl
 rw [if_neg h2,qi (by exact decide_eq_false (by show ¬ ((b.length:Nat):Int)<28; omega))];have cL:∀ k:Nat,k<=28->decide ((k:Int)<=Int.ofNat b.length)=true:=fun k hk=>decide_eq_true (by show (k:Int)<=((b.length:Nat):Int); omega)
 have c6:decide ((6:Int)<=Int.ofNat b.length)=true:=cL 6 (by decide);have c14:decide ((14:Int)<=Int.ofNat b.length)=true:=cL 14 (by decide);have c18:decide ((18:Int)<=Int.ofNat b.length)=true:=cL 18 (by decide);have c24:decide ((24:Int)<=Int.ofNat b.length)=true:=cL 24 (by decide);have c28:decide ((28:Int)<=Int.ofNat b.length)=true:=cL 28 (by decide);have cl:decide (Int.ofNat b.length<=Int.ofNat b.length)=true:=decide_eq_true (Int.le_refl _);have hf:=Zc (hb.take 6)
 by_cases h3:b.take 6=wP
 ·rw [if_neg (by simpa using h3)];rw [decide_eq_true h3] at hf;have h80:A80 n [.fs .u8 b,.int .i64 6,.int .i64 2]=_:=a80_2 n hn b 6 hb (by omega) hl;have t6:Nat.ble 6 (List.length (List.take 6 (List.drop 8 b)))=true:=Nat.ble_eq_true_of_le (by rw [List.length_take,List.length_drop]; omega);have t18:Nat.ble 6 (List.length (List.take 6 (List.drop 18 b)))=true:=Nat.ble_eq_true_of_le (by rw [List.length_take,List.length_drop]; omega);have e8:List.take 6 (List.take 6 (List.drop 8 b))=(b.take 14).drop 8:=by rw [List.take_take,List.drop_take]; rfl
  have e18:List.take 6 (List.take 6 (List.drop 18 b))=(b.take 24).drop 18:=by rw [List.take_take,List.drop_take]; rfl
  have h811:=a81 n (List.take 4 (List.drop 14 b)) (by rw [List.length_take,List.length_drop]; omega);have h812:=a81 n (List.take 4 (List.drop 24 b)) (by rw [List.length_take,List.length_drop]; omega);rw [a4_take] at h811 h812;have ht:=QZ hb 6;have w:IntKind.wrap .i64 (two b 6)=two b 6:=qv (by omega) (by omega);have h82:=a82 n (two b 6) ((b.take 14).drop 8) ((hb.take 14).drop 8);simp only [ZZ,c6,c14,c18,c24,c28,cl,Bool.and_self,hf,Bool.not_true,h80,t6,t18,h811,h812,w,e8,e18,h82]
  by_cases h4:wE (two b 6) ((b.take 14).drop 8)=0
  ·rw [if_neg (by simpa using h4)];simp only [ZZ,show (wE (two b 6) ((b.take 14).drop 8) != 0)=false by simpa using h4]
  ·rw [if_pos (by simpa using h4)];simp only [ZZ,show (wE (two b 6) ((b.take 14).drop 8) != 0)=true by simpa using h4];rfl
 ·rw [if_pos (by simpa using h3)];rw [decide_eq_false h3] at hf;simp only [ZZ,c6,cl,Bool.and_self,hf,Bool.not_false];rfl
theorem a88 (n:Nat) (l:List Int) (h:l.length=4):A88 n [.fs .u8 l]=some [Ip.av ⟨4,a4 l⟩]:=by
 match l,h with
 | [a,b,c,d],_=>exact eq88 n [a,b,c,d]
def WG (l:List Opt):Option (List Opt)->Sum (List AV) (List AV)->Prop
 | none,o=>o=.inr [.fv s93 [],.int .i64 65]
 | some m,o=>o=.inl [.fv s93 ((l++m).map Opt.av)]\/o=.inr [.fv s93 ((l++m).map Opt.av),.int .i64 0]
theorem QW (l:List Opt) (x:Opt) (m:Option (List Opt)) (o:Sum (List AV) (List AV)):WG l (m.map (fun y=>x::y)) o=WG (l++[x]) m o:=by
 cases m with
 | none=>rfl
 | some m=>show (_\/_)=(_\/_); rw [List.append_assoc]; rfl
theorem a85 (n:Nat) (hn:2 ^ 63<n) (b:List Int) (hb:Bytes b) (hl:b.length<2 ^ 44):A85 n [.fs .u8 b]=some [.fv s93 ((kH b).1.map Opt.av),.int .i64 (kH b).2]:=by
 show run85 n b=_;rw [eq85];unfold kH
 by_cases h40:b.length > 40
 ·rw [if_pos h40,qp (by simp; omega)];rfl
 ·rw [if_neg h40,qi (by simp; omega)];refine QV (fun s:Nat × List Opt=>[.fs .u8 b,.fv s93 (s.2.map Opt.av),.int .i64 (s.1:Nat)]) (fun s=>b.length - s.1)
   (fun s=>WG s.2 (gS fQ (b.drop s.1))) (fun s=>s.1<=b.length/\s.2.length<=s.1) (0,[]) (by show b.length - 0<n; omega) ⟨Nat.zero_le _,by simp⟩ (fun s K hs hK=>?_) ?_
  ·obtain ⟨i,l⟩:=s;dsimp only at hs hK ⊢;simp only [ZZ,List.length_map,Int.ofNat_eq_natCast]
   by_cases hi:i<b.length
   ·have hk:=hb.get i;have w0:IntKind.wrap .i64 (qk b i)=qk b i:=qv (by omega) (by omega);have w1:IntKind.wrap .i64 ((i:Int)+1)=((i+1:Nat):Int):=by rw [qv (by omega) (by omega)]; omega
    rw [qp (by simpa using hi),ql hi];simp only [ZZ,Int.toNat_natCast,w0,w1]
    by_cases k0:qk b i=0
    ·rw [qp (by simpa using k0),List.drop_eq_getElem_cons hi,<-jT hi,k0,bo];exact ⟨_,rfl,.inr (by simp)⟩
    rw [qi (by simpa using k0)]
    by_cases k1:qk b i=1
    ·rw [qp (by simpa using k1),List.drop_eq_getElem_cons hi,<-jT hi,k1,rB];exact hK (i+1,l) (by show b.length - (i+1)<b.length - i; omega) ⟨by show i+1<=b.length; omega,by show l.length<=i+1; omega⟩
    rw [qi (by simpa using k1)]
    by_cases he:i+1=b.length
    ·rw [qp (by simp; omega),da he,rf k0 k1];exact ⟨_,rfl,rfl⟩
    rw [qi (by simp; omega),ql (show i+1<b.length by omega),di (show i+1<b.length by omega)];have hn1:=hb.get (i+1);have w2:IntKind.wrap .i64 (qk b (i+1))=qk b (i+1):=qv (by omega) (by omega);have w3:IntKind.wrap .i64 ((i:Int)+qk b (i+1))=(i:Int)+qk b (i+1):=qv (by omega) (by omega);have w4:IntKind.wrap .i64 ((i:Int)+2)=(i:Int)+2:=qv (by omega) (by omega);have hdl:(b.drop (i+2)).length=b.length - (i+2):=List.length_drop;simp only [ZZ,w2,Int.toNat_natCast,w3,w4];generalize hkk:qk b i=k at hk k0 k1 w0 ⊢;generalize hmm:qk b (i+1)=m at hn1 ⊢;rw [tz k0 k1,hdl]
    by_cases c1:m<2
    ·rw [if_pos (.inl c1)];exact ⟨_,by simp [ZY,c1],rfl⟩
    by_cases c2:(i:Int)+m > b.length
    ·rw [if_pos (.inr (.inl (by omega)))];exact ⟨_,by simp [ZY,c1,c2],rfl⟩
    have c4:¬ (m<2\/m - 2 >((b.length - (i+2):Nat):Int)\/fQ k m=false):=fun h=>by
     rcases h with h | h | h
     ·exact c1 h
     ·omega
     ·cases h
    rw [if_neg c4];obtain ⟨o,e,hP⟩:=hK (i+m.toNat,l++[⟨k,(b.drop (i+2)).take (m - 2).toNat⟩]) (by show b.length - (i+m.toNat)<b.length - i; omega) ⟨by show i+m.toNat<=b.length; omega,by show (l++[_]).length<=i+m.toNat; rw [List.length_append]; simp; omega⟩;dsimp only at e hP;rw [List.drop_drop,show i+2+(m - 2).toNat=i+m.toNat by omega];refine ⟨o,Eq.trans ?_ e,by rw [QW]; exact hP⟩;have d1:(0:Int)<=(i:Int)+2:=by omega
    have d2:(i:Int)+2<=(i:Int)+m:=by omega
    have d3:(i:Int)+m<=b.length:=by omega
    have d4:Nat.ble ((l.length+1) * 32) 140737488355328=true:=qT (by omega);have d5:((i:Int)+m).toNat - (i+2)=(m - 2).toNat:=by omega
    have w5:IntKind.wrap .i64 ((i:Int)+m)=(i:Int)+m:=qv (by omega) (by omega);have d6:((i:Int)+2).toNat=i+2:=by omega
    have d7:((i:Int)+m)=((i+m.toNat:Nat):Int):=by omega
    simp only [ZZ,c1,c2,w5,w4,w0,hkk,decide_false,List.length_map,Bool.not_true,d1,d2,d3,decide_true,Bool.and_self,Bool.and_true,d4,d5,d6,Int.le_refl,ql hi,Int.toNat_natCast];refine congrArg K ?_;rw [d7];simp [Opt.av]
   ·have:i=b.length:=by omega
    subst this;rw [qi (by simp),List.drop_length];exact ⟨_,rfl,.inl (by simp)⟩
  ·intro o ho;dsimp only at ho;rw [List.drop_zero] at ho;unfold gS at ho
   cases hg:vG fQ b.length b with
   | none=>rw [hg] at ho; rw [show o=_ from ho]; rfl
   | some m=>
    rw [hg] at ho
    rcases ho with ho | ho <;>(rw [ho]; rfl)
theorem a83f (n:Nat) (hn:2 ^ 63<n) (b:List Int) (hb:Bytes b) (hl:20<=b.length) (hl2:b.length<2 ^ 60):A83 n [.fs .u8 b,.int .i64 0,.fs .i64 [4,4,8,16,16,1,1,1,13,8,8,16]]=some [.fs .i64 [fld b 0 4,fld b 4 4,fld b 8 8,fld b 16 16,fld b 32 16,fld b 48 1,fld b 49 1,fld b 50 1,fld b 51 13,fld b 64 8,fld b 72 8,fld b 80 16],.int .i64 12,.int .i64 0]:=by
 obtain ⟨k,rfl⟩ : ∃ k,n=k+16:=⟨n - 16,by omega⟩;exact a83 (k+16) b 0 [4,4,8,16,16,1,1,1,13,8,8,16] (by unfold WOk; decide) 12 rfl (by decide) (by omega) (by show 12<k+16; omega) (by decide) (by omega) hl2 hb (KQ k)
theorem a51 (n:Nat) (hn:2 ^ 63<n) (b:List Int) (hb:Bytes b) (hl:b.length<2 ^ 44):A51 n [.fs .u8 b]=some [(qO b).1.av,.int .i64 (qO b).2]:=by
 show run51 A83 A84 A85 A86 A87 A88 n b=_;rw [eq51];unfold qO
 by_cases h1:b.length > 65535
 ·rw [if_pos h1,qp (by exact decide_eq_true (by show (65535:Int)<((b.length:Nat):Int); omega))];rfl
 rw [if_neg h1,qi (by exact decide_eq_false (by show ¬ (65535:Int)<((b.length:Nat):Int); omega))]
 by_cases h2:b.length<20
 ·rw [if_pos h2,qp (by exact decide_eq_true (by show ((b.length:Nat):Int)<20; omega))];rfl
 rw [if_neg h2,qi (by exact decide_eq_false (by show ¬ ((b.length:Nat):Int)<20; omega))];have h83:=a83f n hn b hb (by omega) (by omega);have r1:=cA b 4 4;have r3:=cA b 16 16;have r8:=cA b 51 13;have hw:IntKind.wrap .i64 (4 * fld b 4 4)=4 * fld b 4 4:=qv (by omega) (by omega);have hw8:IntKind.wrap .i64 (8 * fld b 51 13)=8 * fld b 51 13:=qv (by omega) (by omega);obtain ⟨L,hL,l12,g0,g1,g2,g3,g4,g6,g7,g8,g9,g10⟩ : ∃ L,A83 n [.fs .u8 b,.int .i64 0,.fs .i64 [4,4,8,16,16,1,1,1,13,8,8,16]]=some [.fs .i64 L,.int .i64 12,.int .i64 0]/\L.length=12/\qk L 0=fld b 0 4/\qk L 1=fld b 4 4/\qk L 2=fld b 8 8/\qk L 3=fld b 16 16/\qk L 4=fld b 32 16/\qk L 6=fld b 49 1/\qk L 7=fld b 50 1/\qk L 8=fld b 51 13/\qk L 9=fld b 64 8/\qk L 10=fld b 72 8:=⟨_,h83,rfl,rfl,rfl,rfl,rfl,rfl,rfl,rfl,rfl,rfl,rfl⟩;have i0:inR 0 12=true:=rfl;have i1:inR 1 12=true:=rfl;have i2:inR 2 12=true:=rfl;have i3:inR 3 12=true:=rfl;have i4:inR 4 12=true:=rfl;have i6:inR 6 12=true:=rfl;have i7:inR 7 12=true:=rfl;have i8:inR 8 12=true:=rfl;have i9:inR 9 12=true:=rfl;have i10:inR 10 12=true:=rfl;have ht:((b.take (4 * fld b 4 4).toNat).drop 20).length<2 ^ 44:=by rw [List.length_drop,List.length_take]; omega
 have h85:=a85 n hn ((b.take (4 * fld b 4 4).toNat).drop 20) ((hb.take _).drop _) ht;generalize hO:(kH ((b.take (4 * fld b 4 4).toNat).drop 20))=op at *;have h84:=a84 n [b.take (4 * fld b 4 4).toNat] (fun q hq=>by rw [List.mem_singleton.1 hq]; exact ⟨hb.take _,by rw [List.length_take]; omega⟩) (by simp) hn;rw [show fsL [b.take (4 * fld b 4 4).toNat]=[.fs .u8 (b.take (4 * fld b 4 4).toNat)] from rfl,show [b.take (4 * fld b 4 4).toNat].flatten=b.take (4 * fld b 4 4).toNat by simp] at h84;simp only [ZZ,hL,l12,i0,i1,i3,g0,g1,g3,hw]
 refine pD (y:=if fld b 0 4≠4 then some (.inr [Ip4.z.av,.int .i64 61]) else if 4 * fld b 4 4<20\/4 * fld b 4 4 > b.length then some (.inr [Ip4.z.av,.int .i64 62])
  else if fld b 16 16<4 * fld b 4 4\/fld b 16 16 > b.length then some (.inr [Ip4.z.av,.int .i64 63]) else if zm (b.take (4 * fld b 4 4).toNat)≠65535 then some (.inr [Ip4.z.av,.int .i64 64])
  else some (.inl [.fs .u8 b,Ip4.z.av,.fs .i64 L,.int .i64 (4 * fld b 4 4),.int .i64 (fld b 16 16)])) ?_ ?_
 ·by_cases c1:fld b 0 4=4
  ·rw [if_neg (by simpa using c1)];simp only [ZZ,show (fld b 0 4 != 4)=false by simpa using c1];refine pD (y:=some (.inl [.fs .u8 b,Ip4.z.av,.fs .i64 L,.int .i64 (4 * fld b 4 4),.int .i64 (fld b 16 16),.bool (decide (4 * fld b 4 4<20\/4 * fld b 4 4 > b.length))])) ?_ ?_
   ·by_cases c2:4 * fld b 4 4<20
    ·refine (qp (by exact decide_eq_true c2)).trans ?_;rw [decide_eq_true (p:=4 * fld b 4 4<20\/_) (.inl c2)];rfl
    ·refine (qi (by exact decide_eq_false c2)).trans ?_
     by_cases c3:4 * fld b 4 4 > b.length
     ·rw [decide_eq_true (p:=4 * fld b 4 4<20\/_) (.inr c3),decide_eq_true (p:=4 * fld b 4 4 > Int.ofNat b.length) c3];rfl
     ·rw [decide_eq_false (p:=4 * fld b 4 4<20\/_) (fun h=>h.elim c2 c3),decide_eq_false (p:=4 * fld b 4 4 > Int.ofNat b.length) c3];rfl
   ·by_cases c2:4 * fld b 4 4<20\/4 * fld b 4 4 > b.length
    ·rw [if_pos c2];simp only [ZZ,decide_eq_true c2];rfl
    ·rw [if_neg c2];simp only [ZZ,decide_eq_false c2];refine pD (y:=some (.inl [.fs .u8 b,Ip4.z.av,.fs .i64 L,.int .i64 (4 * fld b 4 4),.int .i64 (fld b 16 16),.bool (decide (fld b 16 16<4 * fld b 4 4\/fld b 16 16 > b.length))])) ?_ ?_
     ·by_cases c3:fld b 16 16<4 * fld b 4 4
      ·refine (qp (by exact decide_eq_true c3)).trans ?_;rw [decide_eq_true (p:=fld b 16 16<4 * fld b 4 4\/_) (.inl c3)]
      ·refine (qi (by exact decide_eq_false c3)).trans ?_
       by_cases c4:fld b 16 16 > b.length
       ·rw [decide_eq_true (p:=fld b 16 16<4 * fld b 4 4\/_) (.inr c4)];refine congrArg (fun z=>some (Sum.inl [_,_,_,_,_,AV.bool z])) ?_;exact decide_eq_true c4
       ·rw [decide_eq_false (p:=fld b 16 16<4 * fld b 4 4\/_) (fun h=>h.elim c3 c4)];refine congrArg (fun z=>some (Sum.inl [_,_,_,_,_,AV.bool z])) ?_;exact decide_eq_false c4
     ·by_cases c3:fld b 16 16<4 * fld b 4 4\/fld b 16 16 > b.length
      ·rw [if_pos c3];simp only [ZZ,decide_eq_true c3];rfl
      ·rw [if_neg c3];simp only [ZZ,decide_eq_false c3];refine (qp (by rw [Bool.and_eq_true,Bool.and_eq_true]; exact ⟨decide_eq_true (show (0:Int)<=4 * fld b 4 4 by omega),decide_eq_true (show 4 * fld b 4 4<=((b.length:Nat):Int) by omega),decide_eq_true (Int.le_refl _)⟩)).trans ?_;simp only [ZZ,Nat.sub_zero,List.drop_zero,h84]
       by_cases c5:zm (b.take (4 * fld b 4 4).toNat)=65535
       ·rw [if_neg (by simpa using c5)];simp only [ZZ,show (zm (b.take (4 * fld b 4 4).toNat) == 65535)=true by simpa using c5,Bool.not_true]
       ·rw [if_pos (by simpa using c5)];simp only [ZZ,show (zm (b.take (4 * fld b 4 4).toNat) == 65535)=false by simpa using c5,Bool.not_false];rfl
  ·rw [if_pos (by simpa using c1)];simp only [ZZ,show (fld b 0 4 != 4)=true by simpa using c1];rfl
 by_cases c1:fld b 0 4=4
 ·rw [if_neg (show ¬ (fld b 0 4≠4) from fun h=>h c1),if_neg (show ¬ (fld b 0 4≠4) from fun h=>h c1)]
  by_cases c2:4 * fld b 4 4<20\/4 * fld b 4 4 > b.length
  ·rw [if_pos c2,if_pos c2]; rfl
  ·rw [if_neg c2,if_neg c2]
   by_cases c3:fld b 16 16<4 * fld b 4 4\/fld b 16 16 > b.length
   ·rw [if_pos c3,if_pos c3]; rfl
   ·rw [if_neg c3,if_neg c3]
    by_cases c5:zm (b.take (4 * fld b 4 4).toNat)=65535
    ·rw [if_neg (show ¬ (zm (b.take (4 * fld b 4 4).toNat)≠65535) from fun h=>h c5),if_neg (show ¬ (zm (b.take (4 * fld b 4 4).toNat)≠65535) from fun h=>h c5)];have e1:List.take ((4 * fld b 4 4).toNat - 20) (List.drop 20 b)=(b.take (4 * fld b 4 4).toNat).drop 20:=by rw [List.drop_take]
     simp only [ZZ];refine (qp (by rw [Bool.and_eq_true,Bool.and_eq_true]; exact ⟨decide_eq_true (show (20:Int)<=4 * fld b 4 4 by omega),decide_eq_true (Int.le_refl _),decide_eq_true (show 4 * fld b 4 4<=((b.length:Nat):Int) by omega)⟩)).trans ?_;have e20:Int.toNat 20=20:=rfl;have hTH:IntKind.wrap .i64 (fld b 16 16 - 4 * fld b 4 4)=fld b 16 16 - 4 * fld b 4 4:=qv (by omega) (by omega);have h86:=a86 n (fld b 50 1 == 1) (8 * fld b 51 13) (fld b 16 16 - 4 * fld b 4 4) (by omega) (by omega) (by omega) (by omega);have h87:=a87 n (fld b 50 1);have h87':=a87 n (fld b 49 1);simp only [ZZ,e20,e1,h85]
     by_cases c6:op.2=0
     ·rw [if_neg (by simpa using c6)];simp only [ZZ,show (op.2 == 0)=true by simpa using c6,l12,i7,i8,g7,g8,h87,hw8,hTH,h86]
      by_cases c7:fy (fld b 50 1 == 1) (8 * fld b 51 13) (fld b 16 16 - 4 * fld b 4 4)=0
      ·rw [if_neg (by simpa using c7)];have d16:decide ((16:Int)<=Int.ofNat b.length)=true:=decide_eq_true (by show (16:Int)<=((b.length:Nat):Int); omega);have d20:decide ((20:Int)<=Int.ofNat b.length)=true:=decide_eq_true (by show (20:Int)<=((b.length:Nat):Int); omega);have cl:decide (Int.ofNat b.length<=Int.ofNat b.length)=true:=decide_eq_true (Int.le_refl _);have h881:=a88 n (List.take 4 (List.drop 12 b)) (by rw [List.length_take,List.length_drop]; omega);have h882:=a88 n (List.take 4 (List.drop 16 b)) (by rw [List.length_take,List.length_drop]; omega);rw [a4_take] at h881 h882;simp only [ZZ,show (fy (fld b 50 1 == 1) (8 * fld b 51 13) (fld b 16 16 - 4 * fld b 4 4) != 0)=false by simpa using c7,l12,i2,i4,i6,i7,i8,i9,i10,g2,g4,g6,g7,g8,g9,g10,h87,h87',hw8];refine (qp (by rw [Bool.and_eq_true]; exact ⟨decide_eq_true (show (16:Int)<=((b.length:Nat):Int) by omega),decide_eq_true (Int.le_refl _)⟩)).trans ?_;simp only [ZZ,h881];refine (qp (by rw [Bool.and_eq_true]; exact ⟨decide_eq_true (show (20:Int)<=((b.length:Nat):Int) by omega),decide_eq_true (Int.le_refl _)⟩)).trans ?_;simp only [ZZ,h882];refine (qp (by rw [Bool.and_eq_true,Bool.and_eq_true,Bool.and_eq_true]; exact ⟨decide_eq_true (show (0:Int)<=4 * fld b 4 4 by omega),decide_eq_true (show 4 * fld b 4 4<=fld b 16 16 by omega),decide_eq_true (Int.le_refl _),decide_eq_true (show fld b 16 16<=((b.length:Nat):Int) by omega)⟩)).trans ?_;have e2:List.take ((fld b 16 16).toNat - (4 * fld b 4 4).toNat) (List.drop (4 * fld b 4 4).toNat b)=(b.take (fld b 16 16).toNat).drop (4 * fld b 4 4).toNat:=by rw [List.drop_take]
       simp only [ZZ,e2]
      ·rw [if_pos (by simpa using c7)];simp only [ZZ,show (fy (fld b 50 1 == 1) (8 * fld b 51 13) (fld b 16 16 - 4 * fld b 4 4) != 0)=true by simpa using c7];rfl
     ·rw [if_pos (by simpa using c6)];simp only [ZZ,show (op.2 == 0)=false by simpa using c6,show (op.2 != 0)=true by simpa using c6];rfl
    ·rw [if_pos (show zm (b.take (4 * fld b 4 4).toNat)≠65535 from c5),if_pos (show zm (b.take (4 * fld b 4 4).toNat)≠65535 from c5)]; rfl
 ·rw [if_pos (show fld b 0 4≠4 from c1),if_pos (show fld b 0 4≠4 from c1)];rfl
theorem a128 (n:Nat) (b:List Int) (y z:Nat) (h:y+z<=b.length) (hl:b.length<2 ^ 44):A128 n [.fs .u8 b,.int .i64 (y:Nat),.int .i64 (z:Nat)]=some [.fs .u8 ((b.drop y).take z),.int .i64 0]:=by
 show run128 A125 n b (y:Nat) (z:Nat)=_;rw [eq128];have w:IntKind.wrap .i64 ((Int.ofNat b.length) - (y:Nat))=((b.length - y:Nat):Int):=(qv (x:=((b.length:Nat):Int) - (y:Nat)) (by omega) (by omega)).trans (by omega);have h125:=a125 n b (y:Nat) (z:Nat) (by omega) (by omega) (by omega) (by omega);rw [Int.toNat_natCast,Int.toNat_natCast] at h125;rw [qi (by exact decide_eq_false (by omega))];dsimp only
 rw [w,qi (by
  rw [Bool.or_eq_false_iff,Bool.or_eq_false_iff]
  exact ⟨decide_eq_false (by omega),decide_eq_false (by show ¬ ((b.length:Nat):Int)<_; omega),decide_eq_false (by omega)⟩),h125]
 rfl
theorem a128_err (n:Nat) (b:List Int) (y z:Nat) (h:y<=b.length) (h2:b.length<y+z) (hl:b.length<2 ^ 44):A128 n [.fs .u8 b,.int .i64 (y:Nat),.int .i64 (z:Nat)]=some [.fs .u8 [],.int .i64 10]:=by
 show run128 A125 n b (y:Nat) (z:Nat)=_;rw [eq128];have w:IntKind.wrap .i64 ((Int.ofNat b.length) - (y:Nat))=((b.length - y:Nat):Int):=(qv (x:=((b.length:Nat):Int) - (y:Nat)) (by omega) (by omega)).trans (by omega);rw [qi (by exact decide_eq_false (by omega))];dsimp only
 rw [w,qp (by
  rw [Bool.or_eq_true,Bool.or_eq_true]
  exact .inr (.inr (decide_eq_true (by omega))))]
def cur (b:List Int) (i:Nat):AV:=.agg [.fs .u8 b,.int .i64 (i:Nat)]
theorem nB (m:List AV) (c:AV):getE (m++[c]) m.length=c:=by
 unfold getE;simp [List.getD_eq_getElem?_getD]
theorem ex (m:List AV) (c d:AV):(m++[c]).set m.length d=m++[d]:=by simp
theorem a129 (n:Nat) (b:List Int) (m:List AV):A129 n [.fs .u8 b,.tup m]=some [.pt 1 (some m.length),.tup (m++[cur b 0])]:=eq129 n b m
theorem a134 (n:Nat) (b:List Int) (i:Nat) (m:List AV) (hi:i<=b.length) (hl:b.length<2 ^ 44):A134 n [.pt 1 (some m.length),.tup (m++[cur b i])]=some [.int .i64 (b.length - i:Nat),.tup (m++[cur b i])]:=by
 show run134 n (some m.length) (m++[cur b i])=_;rw [eq134];have e:Option.getD (some m.length) 0=m.length:=rfl;rw [e,nB]
 show some [AV.int .i64 (IntKind.wrap .i64 (((b.length:Nat):Int) - (i:Nat))),_]=_;rw [qv (by omega) (by omega)];have:((b.length:Nat):Int) - (i:Nat)=((b.length - i:Nat):Int):=by omega
 rw [this]
theorem a181 (n:Nat) (hn:2 ^ 63<n) (b:List Int) (i:Nat) (m:List AV) (hb:Bytes b) (hi:i<b.length) (hl:b.length<2 ^ 44):A181 n [.pt 1 (some m.length),.int .i64 1,.tup (m++[cur b i])]=some [.int .u64 (qk b i),.int .i64 0,.tup (m++[cur b (i+1)])]:=by
 show run181 A80 n (some m.length) 1 (m++[cur b i])=_;rw [eq181];have e:Option.getD (some m.length) 0=m.length:=rfl;have hg:=hb.get i;obtain ⟨k,rfl⟩ : ∃ k,n=k+2:=⟨n - 2,by omega⟩;have h80:=a80_1 k b (i:Nat) (by omega) (by omega) (by omega) (by rw [Int.toNat_natCast]; exact hg.1) (by rw [Int.toNat_natCast]; omega);rw [Int.toNat_natCast] at h80;have w:IntKind.wrap .i64 ((i:Int)+1)=((i+1:Nat):Int):=by rw [qv (by omega) (by omega)]; omega
 have hs:Option.isSome (some m.length)=true:=rfl;have c0:(cur b i).item 0=.fs .u8 b:=rfl;have c1:(cur b i).item 1=.int .i64 (i:Nat):=rfl;simp only [e,nB,hs,ZZ,c0,c1,h80,show ((0:Int) == 0)=true from rfl,w,ex];rfl
theorem a133 (n:Nat) (b:List Int) (i z:Nat) (m:List AV) (h:i+z<=b.length) (hl:b.length<2 ^ 44):A133 n [.pt 1 (some m.length),.int .i64 (z:Nat),.tup (m++[cur b i])]=some [.fs .u8 ((b.drop i).take z),.int .i64 0,.tup (m++[cur b (i+z)])]:=by
 show run133 A128 n (some m.length) (z:Nat) (m++[cur b i])=_;rw [eq133];have e:Option.getD (some m.length) 0=m.length:=rfl;have h128:=a128 n b i z h hl;have w:IntKind.wrap .i64 ((i:Int)+(z:Int))=((i+z:Nat):Int):=by rw [qv (by omega) (by omega)]; omega
 have hs:Option.isSome (some m.length)=true:=rfl;have c0:(cur b i).item 0=.fs .u8 b:=rfl;have c1:(cur b i).item 1=.int .i64 (i:Nat):=rfl;simp only [e,nB,hs,ZZ,c0,c1,h128,show ((0:Int) == 0)=true from rfl,w,ex];rfl
theorem a133_err (n:Nat) (b:List Int) (i z:Nat) (m:List AV) (hi:i<=b.length) (h:b.length<i+z) (hl:b.length<2 ^ 44):A133 n [.pt 1 (some m.length),.int .i64 (z:Nat),.tup (m++[cur b i])]=some [.fs .u8 [],.int .i64 10,.tup (m++[cur b i])]:=by
 show run133 A128 n (some m.length) (z:Nat) (m++[cur b i])=_;rw [eq133];have e:Option.getD (some m.length) 0=m.length:=rfl;have h128:=a128_err n b i z hi h hl;have hs:Option.isSome (some m.length)=true:=rfl;have c0:(cur b i).item 0=.fs .u8 b:=rfl;have c1:(cur b i).item 1=.int .i64 (i:Nat):=rfl;simp only [e,nB,hs,ZZ,c0,c1,h128,show ((10:Int) == 0)=false from rfl]
theorem a215 (n:Nat) (hn:2 ^ 63<n) (b:List Int) (i:Nat) (hb:Bytes b) (h:i+1<b.length) (hl:b.length<2 ^ 44) (h2:(i:Int)+2+qk b (i+1)<=b.length):A215 n [.fs .u8 b,.int .i64 (i:Nat)]=some [.int .i64 (2+qk b (i+1))]:=by
 show run215 A80 n b (i:Nat)=_;rw [eq215];have hg:=hb.get (i+1);obtain ⟨k,rfl⟩ : ∃ k,n=k+2:=⟨n - 2,by omega⟩;have h80:=a80_1 k b ((i+1:Nat):Int) (by omega) (by omega) (by omega) (by rw [Int.toNat_natCast]; exact hg.1) (by rw [Int.toNat_natCast]; omega);rw [Int.toNat_natCast] at h80;have w:IntKind.wrap .i64 ((i:Int)+1)=((i+1:Nat):Int):=by rw [qv (by omega) (by omega)]; omega
 have w2:IntKind.wrap .i64 ((i:Int)+2)=(i:Int)+2:=qv (by omega) (by omega);have wg:IntKind.wrap .i64 (qk b (i+1))=qk b (i+1):=qv (by omega) (by omega);have w3:IntKind.wrap .i64 ((i:Int)+2+qk b (i+1))=(i:Int)+2+qk b (i+1):=qv (by omega) (by omega);have w4:IntKind.wrap .i64 (2+qk b (i+1))=2+qk b (i+1):=qv (by omega) (by omega);rw [w,h80];have d:decide ((i:Int)+2+qk b (i+1) > Int.ofNat b.length)=false:=decide_eq_false (by show ¬ ((b.length:Nat):Int)<_; omega);simp only [ZZ,show ((0:Int) != 0)=false from rfl,w2,wg,w3,w4];refine pD (qi (by exact decide_eq_false (by show ¬ ((b.length:Nat):Int)<_; omega))) ?_;simp only [ZZ,wg,w4]
def Vr (l:List Opt):Option (List Opt)->Sum (List AV) (List AV)->Prop
 | none,o=>o=.inr [.fv s93 [],.int .i64 75]
 | some m,o=>∃ (L:List Opt) (R:Nat),o=.inl [.fv s93 (L.map Opt.av),.int .i64 0,.int .i64 (R:Nat)]/\L++wo R []=l++m/\R<2 ^ 44/\L.length<2 ^ 41
theorem iH (run:Nat) (m:List Opt):wo run m=wo run []++m:=by
 unfold wo
 split <;> rfl
theorem QN (l:List Opt) (run:Nat) (x:Opt) (m:Option (List Opt)) (o:Sum (List AV) (List AV)):Vr l (m.map (fun y=>wo run (x::y))) o↔Vr (l++wo run []++[x]) m o:=by
 cases m with
 | none=>exact Iff.rfl
 | some m=>
  have e:l++wo run (x::m)=l++wo run []++[x]++m:=by rw [iH]; simp
  show (∃ _ _,_/\_=l++wo run (x::m)/\_)↔(∃ _ _,_/\_=l++wo run []++[x]++m/\_);rw [e]
theorem aP (run:Nat):(wo run []).length<=1:=by unfold wo; split <;> simp
theorem bY {run:Nat} (h:0<run):wo run []=[⟨0,List.replicate run 0⟩]:=by unfold wo; rw [if_neg (by omega)]
theorem dM:wo 0 []=[]:=rfl
theorem a182 (n:Nat) (hn:2 ^ 63<n) (b:List Int) (hb:Bytes b) (hl:b.length<=2 ^ 40):A182 n [.fs .u8 b]=match vC 0 b with | none=>some [.fv s93 [],.int .i64 75] | some l=>some [.fv s93 (l.map Opt.av),.int .i64 0]:=by
 show run182 A128 A215 n b=_;rw [eq182];refine QV (fun s:List Opt × Nat × Nat=>[.fs .u8 b,.fv s93 (s.1.map Opt.av),.int .i64 0,.int .i64 (s.2.1:Nat),.int .i64 (s.2.2:Nat)]) (fun s=>b.length - s.2.2)
  (fun s=>Vr s.1 (vC s.2.1 (b.drop s.2.2))) (fun s=>s.2.2<=b.length/\s.1.length<=s.2.2/\s.2.1<=s.2.2) ([],0,0) (by show b.length - 0<n; omega) ⟨Nat.zero_le _,by simp,by simp⟩ (fun s K hs hK=>?_) ?_
 ·obtain ⟨l,run,i⟩:=s;dsimp only at hs hK ⊢;simp only [ZZ,Int.ofNat_eq_natCast]
  by_cases hi:i<b.length
  ·have hk:=hb.get i;have w0:IntKind.wrap .i64 (qk b i)=qk b i:=qv (by omega) (by omega);have wr:IntKind.wrap .i64 ((run:Int)+1)=((run+1:Nat):Int):=by rw [qv (by omega) (by omega)]; omega
   have wi:IntKind.wrap .i64 ((i:Int)+1)=((i+1:Nat):Int):=by rw [qv (by omega) (by omega)]; omega
   rw [qp (by simpa using hi),ql hi];simp only [ZZ,Int.toNat_natCast,w0,wr,wi]
   by_cases k0:qk b i=0
   ·rw [qp (by simpa using k0),List.drop_eq_getElem_cons hi,<-jT hi,k0,uA];exact hK (l,run+1,i+1) (by show b.length - (i+1)<b.length - i; omega) ⟨by show i+1<=b.length; omega,by show l.length<=i+1; omega,by show run+1<=i+1; omega⟩
   rw [qi (by simpa using k0)];have i1:((i:Int)+1).toNat=i+1:=by omega
   by_cases he:i+1=b.length
   ·rw [da he,iY k0]
    refine ⟨_,(qp (by
     rw [Bool.and_eq_true,Bool.and_eq_true,Bool.and_eq_true,Bool.or_eq_true]
     exact ⟨decide_eq_true (by omega),decide_eq_true (by omega),decide_eq_true (by show _<=((2 ^ 47:Nat):Int); omega),.inl (decide_eq_true (by omega))⟩)).trans rfl,rfl⟩
   have hi1:i+1<b.length:=by omega
   have hn1:=hb.get (i+1);have hdl:(b.drop (i+2)).length=b.length - (i+2):=List.length_drop;rw [di hi1,fH k0,hdl]
   by_cases c2:(i:Int)+2+qk b (i+1) > b.length
   ·rw [if_pos (by omega)]
    refine ⟨_,(qp (by
     rw [Bool.and_eq_true,Bool.and_eq_true,Bool.and_eq_true,Bool.or_eq_true,Bool.and_eq_true,Bool.and_eq_true]
     exact ⟨decide_eq_true (by omega),decide_eq_true (by omega),decide_eq_true (by show _<=((2 ^ 47:Nat):Int); omega),.inr ⟨decide_eq_true (by rw [i1]; omega),decide_eq_true (by rw [i1]; omega),decide_eq_true (by rw [i1]; omega)⟩⟩)).trans rfl,rfl⟩
   rw [if_neg (by omega),qi (by
    rw [Bool.and_eq_false_iff,Bool.and_eq_false_iff,Bool.and_eq_false_iff,Bool.or_eq_false_iff,Bool.and_eq_false_iff,Bool.and_eq_false_iff]
    exact .inr (.inr (.inr ⟨decide_eq_false (by omega),.inr (.inr (decide_eq_false (by rw [i1]; omega)))⟩)))]
   have h215:=a215 n hn b i hb hi1 (by omega) (by omega);generalize hmm:qk b (i+1)=mm at hn1 c2 h215 ⊢;have wm:IntKind.wrap .i64 ((run:Int)+(2+mm))=((run+2+mm.toNat:Nat):Int):=by rw [qv (by omega) (by omega)]; omega
   have wim:IntKind.wrap .i64 ((i:Int)+(2+mm))=((i+2+mm.toNat:Nat):Int):=by rw [qv (by omega) (by omega)]; omega
   have wi2:IntKind.wrap .i64 ((i:Int)+2)=((i+2:Nat):Int):=by rw [qv (by omega) (by omega)]; omega
   have wm2:IntKind.wrap .i64 (2+mm - 2)=(mm.toNat:Int):=by rw [qv (by omega) (by omega)]; omega
   rw [List.drop_drop]
   by_cases k1:qk b i=1
   ·rw [if_pos k1];simp only [ZZ,h215,show (qk b i == 1)=true by simpa using k1,wm,wim];exact hK (l,run+2+mm.toNat,i+2+mm.toNat) (by show b.length - (i+2+mm.toNat)<b.length - i; omega) ⟨by show i+2+mm.toNat<=b.length; omega,by show l.length<=i+2+mm.toNat; omega,by show run+2+mm.toNat<=i+2+mm.toNat; omega⟩
   ·rw [if_neg k1];have h128:=a128 n b (i+2) mm.toNat (by omega) (by omega);have hfl:=aP run;obtain ⟨o,e,hP⟩:=hK (l++wo run []++[⟨qk b i,(b.drop (i+2)).take mm.toNat⟩],0,i+2+mm.toNat) (by show b.length - (i+2+mm.toNat)<b.length - i; omega) ⟨by show i+2+mm.toNat<=b.length; omega,by show (l++wo run []++[_]).length<=i+2+mm.toNat; simp only [List.length_append,List.length_cons,List.length_nil]; omega,Nat.zero_le _⟩;dsimp only at e hP;refine ⟨o,Eq.trans ?_ e,(QN l run _ _ o).2 hP⟩;simp only [ZZ,h215,show (qk b i == 1)=false by simpa using k1];refine pD (y:=some (.inl [.fs .u8 b,.fv s93 ((l++wo run []++[(⟨qk b i,(b.drop (i+2)).take mm.toNat⟩ : Opt)]).map Opt.av),.int .i64 0,.int .i64 0,.int .i64 (i:Nat),.int .i64 (2+mm)])) ?_ ?_
    ·by_cases r0:0<run
     ·rw [bY r0];refine (qp (by exact decide_eq_true (by omega))).trans ?_;rw [dw];refine (qp (by rw [Bool.and_eq_true,Bool.and_eq_true]; exact ⟨decide_eq_true (by omega),beq_self_eq_true _,decide_eq_true (by omega)⟩)).trans ?_;have b1:Nat.ble (((l.map Opt.av).length+1) * 32) 140737488355328=true:=qT (by rw [List.length_map]; omega);have b2:Nat.ble (((l.map Opt.av++[Opt.av ⟨0,List.replicate run 0⟩]).length+1) * 32) 140737488355328=true:=qT (by rw [List.length_append,List.length_map]; simp only [List.length_cons,List.length_nil]; omega);simp only [ZZ,b1,wi2,wm2,h128,Int.toNat_natCast,b2];simp [Opt.av]
     ·obtain rfl:run=0:=by omega
      rw [dM,List.append_nil];refine (qi (by exact decide_eq_false (by omega))).trans ?_;have b1:Nat.ble (((l.map Opt.av).length+1) * 32) 140737488355328=true:=qT (by rw [List.length_map]; omega);simp only [ZZ,b1,wi2,wm2,h128];simp [Opt.av]
    ·simp only [ZZ,wim];rfl
  ·have:i=b.length:=by omega
   subst this;rw [qi (by simp),List.drop_length,ap];exact ⟨_,rfl,l,run,rfl,rfl,by omega,by omega⟩
 ·intro o ho;dsimp only at ho;rw [List.drop_zero] at ho
  cases hg:vC 0 b with
  | none=>rw [hg] at ho; rw [show o=_ from ho]; rfl
  | some m=>
   rw [hg] at ho;obtain ⟨L,R,rfl,h1,h2,h3⟩:=ho;rw [List.nil_append] at h1;simp only [ZZ]
   by_cases r0:0<R
   ·rw [bY r0] at h1;rw [<-h1];refine (qp (by exact decide_eq_true (by omega))).trans ?_;rw [dw];refine (qp (by rw [Bool.and_eq_true,Bool.and_eq_true]; exact ⟨decide_eq_true (by omega),beq_self_eq_true _,decide_eq_true (by rw [show Int.ofNat 1=1 from rfl]; omega)⟩)).trans ?_;have b1:Nat.ble (((L.map Opt.av).length+1) * 32) 140737488355328=true:=qT (by rw [List.length_map]; omega);simp only [ZZ,b1,Int.toNat_natCast];simp [Opt.av]
   ·obtain rfl:R=0:=by omega
    rw [dM,List.append_nil] at h1;rw [<-h1];exact qi (by exact decide_eq_false (by omega))
theorem a83x (n:Nat) (hn:2 ^ 63<n) (b:List Int) (hb:Bytes b) (hl:b.length=8):A83 n [.fs .u8 b,.int .i64 0,.fs .i64 [8,8,13,2,1,32]]=some [.fs .i64 (vx b 0 [8,8,13,2,1,32]),.int .i64 8,.int .i64 0]:=by
 obtain ⟨k,rfl⟩ : ∃ k,n=k+16:=⟨n - 16,by omega⟩;exact a83 (k+16) b 0 [8,8,13,2,1,32] (by unfold WOk; decide) 8 rfl (by decide) (by omega) (by show 6<k+16; omega) (by decide) (by omega) (by omega) hb (WW k)
theorem a83y (n:Nat) (hn:2 ^ 63<n) (b:List Int) (hb:Bytes b) (hl:40<=b.length) (hl2:b.length<2 ^ 60):A83 n [.fs .u8 b,.int .i64 0,.fs .i64 [4,8,20,16,8,8]]=some [.fs .i64 (vx b 0 [4,8,20,16,8,8]),.int .i64 8,.int .i64 0]:=by
 obtain ⟨k,rfl⟩ : ∃ k,n=k+16:=⟨n - 16,by omega⟩;exact a83 (k+16) b 0 [4,8,20,16,8,8] (by unfold WOk; decide) 8 rfl (by decide) (by omega) (by show 6<k+16; omega) (by decide) (by omega) hl2 hb (WZ k)
theorem a131 (n:Nat) (hn:2 ^ 63<n) (c:Chn) (hc:c.frag=Frag.z) (b:List Int) (i:Nat) (m:List AV) (hb:Bytes b) (hi:i<=b.length) (hl:b.length<=65535):∃ m',A131 n [c.av,.pt 1 (some m.length),.tup (m++[cur b i])]=some [(pz c.exts (b.drop i)).1.av,.int .i64 (pz c.exts (b.drop i)).2,.tup m']:=by
 show ∃ m',run131 A83 A133 A134 A180 n c.av (some m.length) (m++[cur b i])=_;rw [eq131];have hrl:(b.drop i).length=b.length - i:=List.length_drop;unfold pz
 by_cases h1:(b.drop i).length<8
 ·have h133:=a133_err n b i 8 m hi (by omega) (by omega);rw [if_pos h1];refine ⟨m++[cur b i],?_⟩;rw [show A133 n [.pt 1 (some m.length),.int .i64 8,.tup (m++[cur b i])]=_ from h133];rfl
 rw [if_neg h1];have h133:A133 n [.pt 1 (some m.length),.int .i64 8,.tup (m++[cur b i])]=_:=a133 n b i 8 m (by omega) (by omega);have h83:=a83x n hn ((b.drop i).take 8) ((hb.drop i).take 8) (by rw [List.length_take]; omega);rw [<-pw (b.drop i) 8 [8,8,13,2,1,32] 0 (by decide)] at h83;obtain ⟨L,hL,l6,g0,g2,g4,g5⟩ : ∃ L,A83 n [.fs .u8 ((b.drop i).take 8),.int .i64 0,.fs .i64 [8,8,13,2,1,32]]=some [.fs .i64 L,.int .i64 8,.int .i64 0]/\L.length=6/\qk L 0=fld (b.drop i) 0 8/\qk L 2=fld (b.drop i) 16 13/\qk L 4=fld (b.drop i) 31 1/\qk L 5=fld (b.drop i) 32 32:=⟨_,h83,rfl,rfl,rfl,rfl,rfl⟩;have i0:inR 0 6=true:=rfl;have i2:inR 2 6=true:=rfl;have i4:inR 4 6=true:=rfl;have i5:inR 5 6=true:=rfl;have h134:=a134 n b (i+8) m (by omega) (by omega);have h133':=a133 n b (i+8) (b.length - (i+8)) m (by omega) (by omega);have e1:(b.drop (i+8)).take (b.length - (i+8))=(b.drop i).drop 8:=by rw [List.drop_drop,List.take_of_length_le (by rw [List.length_drop]; omega)]
 rw [e1] at h133';have r2:=cA (b.drop i) 16 13;have w8:IntKind.wrap .i64 (8 * fld (b.drop i) 16 13)=8 * fld (b.drop i) 16 13:=qv (by omega) (by omega)
 have hk:Int.ofNat ((b.drop i).drop 8).length=((b.drop i).length:Int) - 8:=by
  show ((((b.drop i).drop 8).length:Nat):Int)=_;rw [List.length_drop]; omega
 have h180:=a180 n ⟨true,fld (b.drop i) 31 1 == 1,fld (b.drop i) 32 32,8 * fld (b.drop i) 16 13⟩ (((b.drop i).length:Int) - 8) (by show 0<=8 * fld (b.drop i) 16 13; omega) (by show 8 * fld (b.drop i) 16 13<=_; omega) (by omega) (by omega);simp only [ZZ,h133,show ((0:Int) != 0)=false from rfl,hL,l6,i0,i2,i4,i5,g0,g2,g4,g5,h134,h133',w8,hk,h180]
 by_cases c2:pA ⟨true,fld (b.drop i) 31 1 == 1,fld (b.drop i) 32 32,8 * fld (b.drop i) 16 13⟩ (((b.drop i).length:Int) - 8)=true
 ·rw [if_neg (by rw [c2]; decide)];simp only [ZZ,c2,Bool.not_true];exact ⟨_,rfl⟩
 ·have c2':=Bool.eq_false_iff.2 c2;rw [if_pos c2'];simp only [ZZ,c2',Bool.not_false];exact ⟨_,rfl⟩
theorem a89 (n:Nat) (hn:2 ^ 63<n) (b:List Int) (hb:Bytes b) (hl:b.length<2 ^ 44):A89 n [.fs .u8 b] =
  if b.length > 65535 then some [.fs .i64 [],.fs .u8 [],.int .i64 2] else if b.length<40 then some [.fs .i64 [],.fs .u8 [],.int .i64 70] else if fld b 0 4≠6 then some [.fs .i64 [],.fs .u8 [],.int .i64 71]
  else if fld b 32 16 >(b.length:Int) - 40 then some [.fs .i64 [],.fs .u8 [],.int .i64 70] else some [.fs .i64 (vx b 0 [4,8,20,16,8,8]),.fs .u8 ((b.drop 40).take (fld b 32 16).toNat),.int .i64 0]:=by
 show run89 A83 A128 n b=_;rw [eq89]
 by_cases h1:b.length > 65535
 ·rw [if_pos h1];exact qp (by exact decide_eq_true (by show (65535:Int)<((b.length:Nat):Int); omega))
 rw [if_neg h1,qi (by exact decide_eq_false (by show ¬ (65535:Int)<((b.length:Nat):Int); omega))]
 by_cases h2:b.length<40
 ·rw [if_pos h2];exact qp (by exact decide_eq_true (by show ((b.length:Nat):Int)<40; omega))
 rw [if_neg h2,qi (by exact decide_eq_false (by show ¬ ((b.length:Nat):Int)<40; omega))];have h83:=a83y n hn b hb (by omega) (by omega);obtain ⟨L,hL,l6,g0,g3,hE⟩ : ∃ L,A83 n [.fs .u8 b,.int .i64 0,.fs .i64 [4,8,20,16,8,8]]=some [.fs .i64 L,.int .i64 8,.int .i64 0]/\L.length=6/\qk L 0=fld b 0 4/\qk L 3=fld b 32 16/\vx b 0 [4,8,20,16,8,8]=L:=⟨_,h83,rfl,rfl,rfl,rfl⟩;have i0:inR 0 6=true:=rfl;have i3:inR 3 6=true:=rfl;have r3:=cA b 32 16;have w:IntKind.wrap .i64 (8+32)=((40:Nat):Int):=by decide
 rw [hE]
 by_cases h3:fld b 0 4=6
 ·rw [if_neg (fun h=>h h3)]
  by_cases h4:fld b 32 16 >(b.length:Int) - 40
  ·have h128:=a128_err n b 40 (fld b 32 16).toNat (by omega) (by omega) hl;rw [Int.toNat_of_nonneg r3.1] at h128;rw [if_pos h4];simp only [ZZ,hL,l6,i0,i3,g0,g3,show (fld b 0 4 != 6)=false by simpa using h3,w,h128,show ((10:Int) != 0)=true from rfl]
  ·have h128:=a128 n b 40 (fld b 32 16).toNat (by omega) hl;rw [Int.toNat_of_nonneg r3.1] at h128;rw [if_neg h4];simp only [ZZ,hL,l6,i0,i3,g0,g3,show (fld b 0 4 != 6)=false by simpa using h3,w,h128,show ((0:Int) != 0)=false from rfl]
 ·rw [if_pos h3];simp only [ZZ,hL,l6,i0,g0,show (fld b 0 4 != 6)=true by simpa using h3]
theorem Vx {R σ τ:Type} {g:List AV->(List AV->Option (Sum (List AV) R))->Option (Sum (List AV) R)} {n:Nat} {K:List AV->Option R} {F:τ->Option R} (enc:σ->List AV) (μ:σ->Nat) (P:σ->Sum (List AV) R->Prop) (Good:σ->Prop) (x:σ) (hμ:μ x<n) (hg:Good x)
  (hstep:∀ x k,Good x->(∀ y,μ y<μ x->Good y->∃ o,k (enc y)=some o/\P y o)->∃ o,g (enc x) k=some o/\P x o) (hK:∀ o,P x o->∃ t,jn (some o) K=F t):∃ t,jn (iter g n (enc x)) K=F t:=by
 obtain ⟨o,e,h⟩:=Qy enc μ P Good hstep n x hμ hg;rw [e];exact hK o h
theorem Jp {R:Type} {x:Option (Sum (List AV) (Sum (List AV) (Sum (List AV) R)))} {K1:List AV->Option (Sum (List AV) (Sum (List AV) R))} {K2:List AV->Option (Sum (List AV) R)} {K3:List AV->Option R} {y z:List AV} {P:R->Prop}
  (h:x=some (.inl y)) (h1:K1 y=some (.inl z)) (h2:∃ o,jn (K2 z) K3=some o/\P o):∃ o,jn (jn (jn x K1) K2) K3=some o/\P o:=by
 rw [h]
 show ∃ o,jn (jn (K1 y) K2) K3=some o/\P o;rw [h1];exact h2
theorem ej {R:Type} {x y:Option (Sum (List AV) R)} {K:List AV->Option R} {P:R->Prop} (h:x=y) (h2:∃ o,jn y K=some o/\P o):∃ o,jn x K=some o/\P o:=by rw [h]; exact h2
theorem tPt (f:Nat) (o:Option Nat):AV.toPt (.pt f o)=o:=rfl
def Wh (b:List Int) (m:List AV) (w:Chn × Int) (o:Sum (List AV) (List AV)):Prop:=
 (∃ (exts:List Ext) (next:Int) (j:Nat),w=(⟨exts,Frag.z,next,b.drop j⟩,0)/\j<=b.length/\o=.inl [.tup (m++[cur b j]),Chn.z.av,Chn.av ⟨exts,Frag.z,next,[]⟩,.pt 1 (some m.length)])\/∃ m',o=.inr [w.1.av,.int .i64 w.2,.tup m']
theorem a90 (n:Nat) (hn:2 ^ 63<n) (next:Int) (b:List Int) (m:List AV) (hb:Bytes b) (hl:b.length<=65535):∃ m',A90 n [.int .i64 next,.fs .u8 b,.bool false,.tup m]=some [(wJ 9 true [] next b).1.av,.int .i64 (wJ 9 true [] next b).2,.tup m']:=by
 show ∃ m',run90 A129 A130 A131 A133 A134 A181 A182 n next b false m=_;rw [eq90,a129];simp only [ZZ,tPt];refine Vx (fun s:List Ext × Int × Nat=>[.tup (m++[cur b s.2.2]),.bool false,Chn.z.av,Chn.av ⟨s.1,Frag.z,s.2.1,[]⟩,.pt 1 (some m.length),.int .i64 (s.1.length:Nat)]) (fun s=>9 - s.1.length)
  (fun s=>Wh b m (wJ (9 - s.1.length) (decide (s.1.length=0)) s.1 s.2.1 (b.drop s.2.2))) (fun s=>s.2.2<=b.length/\s.1.length<=8) ([],next,0) (by show 9 - 0<n; omega) ⟨Nat.zero_le _,Nat.zero_le _⟩ (fun s K hs hK=>?_) ?_
 ·obtain ⟨exts,nx,i⟩:=s;dsimp only at hs hK ⊢;have h130:=a130 n hn nx;obtain ⟨k,hk⟩ : ∃ k,9 - exts.length=k+1:=⟨8 - exts.length,by omega⟩;simp only [ZZ,tPt,h130,hk];rw [wJ];have hrl:(b.drop i).length=b.length - i:=List.length_drop
  by_cases c0:wy nx=0
  ·rw [if_pos c0];simp only [ZZ,show (wy nx != 0)=false by simpa using c0];exact ⟨_,rfl,.inl ⟨exts,nx,i,rfl,hs.1,rfl⟩⟩
  rw [if_neg c0];simp only [ZZ,show (wy nx != 0)=true by simpa using c0]
  by_cases c3:wy nx=3
  ·rw [if_pos c3];obtain ⟨m',h131⟩:=a131 n hn ⟨exts,Frag.z,nx,[]⟩ rfl b i m hb hs.1 hl;simp only [ZZ,tPt,show (wy nx == 3)=true by simpa using c3,h131];exact ⟨_,rfl,.inr ⟨m',rfl⟩⟩
  rw [if_neg c3];simp only [ZZ,show (wy nx == 3)=false by simpa using c3]
  by_cases c7:nx=0/\decide (exts.length=0)=false
  ·rw [if_pos c7];have e0:exts.length≠0:=of_decide_eq_false c7.2;refine ⟨.inr [Chn.z.av,.int .i64 73,.tup (m++[cur b i])],?_,.inr ⟨_,rfl⟩⟩;refine pD (pD (pD (y:=some (.inl [.tup (m++[cur b i]),.bool false,Chn.z.av,Chn.av ⟨exts,Frag.z,nx,[]⟩,.pt 1 (some m.length),.int .i64 (exts.length:Nat),.bool true])) ?_ rfl) rfl) rfl;refine (qp (by simpa using c7.1)).trans ?_;exact qp (by exact decide_eq_true (by omega))
  rw [if_neg c7];refine Jp (y:=[.tup (m++[cur b i]),.bool false,Chn.z.av,Chn.av ⟨exts,Frag.z,nx,[]⟩,.pt 1 (some m.length),.int .i64 (exts.length:Nat),.bool false]) (z:=[.tup (m++[cur b i]),.bool false,Chn.z.av,Chn.av ⟨exts,Frag.z,nx,[]⟩,.pt 1 (some m.length),.int .i64 (exts.length:Nat)]) ?_ rfl ?_
  ·by_cases n0:nx=0
   ·have e0:exts.length=0:=Decidable.byContradiction fun hx=>c7 ⟨n0,decide_eq_false hx⟩
    refine (qp (by simpa using n0)).trans ?_;exact qi (by exact decide_eq_false (by omega))
   ·exact qi (by simpa using n0)
  have hm:Int.ofNat (List.map Ext.av exts).length=((exts.length:Nat):Int):=by rw [List.length_map]; rfl
  simp only [ZZ,tPt,hm]
  by_cases e8:exts.length=8
  ·rw [if_pos e8];refine ej (qp (by rw [e8]; rfl)) ⟨_,rfl,.inr ⟨_,rfl⟩⟩
  rw [if_neg e8];refine ej (qi (by simp; omega)) ?_;have h134:=a134 n b i m hs.1 (by omega);simp only [h134,ZZ,tPt]
  by_cases c8:(b.drop i).length<8
  ·rw [if_pos c8];exact ej (qp (by exact decide_eq_true (by omega))) ⟨_,rfl,.inr ⟨_,rfl⟩⟩
  rw [if_neg c8];refine ej (qi (by exact decide_eq_false (by omega))) ?_;have h181:=a181 n hn b i m hb (by omega) (by omega);have h181':=a181 n hn b (i+1) m hb (by omega) (by omega);have g0:=hb.get i;have g1:=hb.get (i+1);have hg0:qk (b.drop i) 0=qk b i:=by rw [gT]; rfl
  have hg1:qk (b.drop i) 1=qk b (i+1):=by rw [gT]
  have hlen:yT (b.drop i)=8 * (qk b (i+1)).toNat+6:=by unfold yT; rw [hg1]
  have wz:IntKind.wrap .i64 (IntKind.wrap .i64 (8 * IntKind.wrap .i64 (qk b (i+1)))+6)=((yT (b.drop i):Nat):Int):=by
   rw [hlen,qv (x:=qk b (i+1)) (by omega) (by omega),qv (x:=8 * qk b (i+1)) (by omega) (by omega),qv (by omega) (by omega)]; omega
  have w0:IntKind.wrap .i64 (qk b i)=qk b i:=qv (by omega) (by omega);have hzl:yT (b.drop i)<=2046:=by rw [hlen]; omega
  have hdd:(b.drop i).drop 2=b.drop (i+2):=List.drop_drop;have hdz:(b.drop i).drop (2+yT (b.drop i))=b.drop (i+2+yT (b.drop i)):=by rw [List.drop_drop,Nat.add_assoc]
  rw [hdd,hdz,hg0];simp only [h181,ZZ,tPt,h181',wz,w0];generalize yT (b.drop i)=z at *
  by_cases c9:z >(b.drop i).length - 2
  ·rw [if_pos c9];have h133:=a133_err n b (i+1+1) z m (by omega) (by omega) (by omega);simp only [h133,ZZ,show ((10:Int) != 0)=true from rfl];exact ⟨_,rfl,.inr ⟨_,rfl⟩⟩
  rw [if_neg c9];have h133:=a133 n b (i+1+1) z m (by omega) (by omega);rw [show i+1+1=i+2 from rfl] at h133 ⊢;have hdb:Bytes ((b.drop (i+2)).take z):=(hb.drop _).take _;have hdl:((b.drop (i+2)).take z).length<=2 ^ 40:=by rw [List.length_take]; omega
  have h182:=a182 n hn ((b.drop (i+2)).take z) hdb hdl;generalize (b.drop (i+2)).take z=D at *;have b1:Nat.ble (((List.map Ext.av exts).length+1) * 56) 140737488355328=true:=qT (by rw [List.length_map]; omega);have we:IntKind.wrap .i64 (((exts.length:Nat):Int)+1)=((exts.length+1:Nat):Int):=by rw [qv (by omega) (by omega)]; omega
  have next:∀ x:Ext,∃ o,K [.tup (m++[cur b (i+2+z)]),.bool false,Chn.z.av,Chn.av ⟨exts++[x],Frag.z,qk b i,[]⟩,.pt 1 (some m.length),.int .i64 (exts.length+1:Nat)]=some o/\Wh b m (wJ k false (exts++[x]) (qk b i) (b.drop (i+2+z))) o:=fun x=>by
   have hl1:(exts++[x]).length=exts.length+1:=by simp
   obtain ⟨o,h1,h2⟩:=hK (exts++[x],qk b i,i+2+z) (by show 9 - (exts++[x]).length<9 - exts.length; omega) ⟨by show i+2+z<=b.length; omega,by show (exts++[x]).length<=8; omega⟩;dsimp only at h1 h2;rw [hl1] at h1 h2;rw [show 9 - (exts.length+1)=k by omega,show decide (exts.length+1=0)=false from decide_eq_false (by omega)] at h2;exact ⟨o,h1,h2⟩
  simp only [h133,ZZ,tPt,show ((0:Int) != 0)=false from rfl,h130]
  by_cases c2:wy nx=2
  ·rw [if_pos c2];simp only [show (wy nx == 2)=true by simpa using c2,ZZ,b1,we];obtain ⟨o,h1,h2⟩:=next ⟨nx,[],D⟩;refine ⟨o,Eq.trans ?_ h1,h2⟩;refine congrArg K ?_
   show [_,_,_,AV.agg [.fv s124 (List.map Ext.av exts++[_]),_,_,_],_,_]=[_,_,_,AV.agg [.fv s124 (List.map Ext.av (exts++[_])),_,_,_],_,_];rw [List.map_append];rfl
  ·rw [if_neg c2];simp only [show (wy nx == 2)=false by simpa using c2,ZZ]
   cases ho:vC 0 D with
   | none=>
    rw [ho] at h182;simp only [h182,ZZ,show ((75:Int) != 0)=true from rfl];exact ⟨_,rfl,.inr ⟨_,rfl⟩⟩
   | some l=>
    rw [ho] at h182;simp only [h182,ZZ,show ((0:Int) != 0)=false from rfl,b1,tPt,we];obtain ⟨o,h1,h2⟩:=next ⟨nx,l,[]⟩;refine ⟨o,Eq.trans ?_ h1,h2⟩;refine congrArg K ?_
    show [_,_,_,AV.agg [.fv s124 (List.map Ext.av exts++[_]),_,_,_],_,_]=[_,_,_,AV.agg [.fv s124 (List.map Ext.av (exts++[_])),_,_,_],_,_];rw [List.map_append];rfl
 ·intro o ho;dsimp only at ho;rw [List.drop_zero] at ho
  rcases ho with ⟨exts,nx,j,hw,hj,rfl⟩ | ⟨m',rfl⟩
  ·have hw' : wJ 9 true [] next b=(⟨exts,Frag.z,nx,b.drop j⟩,0):=hw;rw [hw'];have h134:=a134 n b j m hj (by omega);have h133:=a133 n b j (b.length - j) m (by omega) (by omega);rw [List.take_of_length_le (by rw [List.length_drop]; omega)] at h133;simp only [ZZ,tPt,h134,h133];exact ⟨_,rfl⟩
  ·exact ⟨m',rfl⟩
theorem ti {b:List Int} (hb:Bytes b) (h:(qo b).2=0):((qo b).1.dst.length=6/\Bytes (qo b).1.dst)/\((qo b).1.src.length=6/\Bytes (qo b).1.src)/\Bytes (qo b).1.data/\(qo b).1.data.length<=65535:=by
 unfold qo at h ⊢
 split
 ·rename_i h1; rw [if_pos h1] at h; cases h
 ·rename_i h1;rw [if_neg h1] at h
  split
  ·rename_i h2; rw [if_pos h2] at h; cases h
  ·rename_i h2;rw [if_neg h2] at h
   split
   ·rename_i h3; rw [if_pos h3] at h; cases h
   ·rename_i h3;rw [if_neg h3] at h
    split
    ·rename_i h4; rw [if_pos h4] at h; exact absurd h h4
    ·rename_i h4;rw [if_neg h4] at h
     split
     ·rename_i h5; rw [if_pos h5] at h; cases h
     ·refine ⟨⟨by show (b.take 6).length=6; rw [List.length_take]; omega,hb.take 6⟩,⟨by show ((b.take 12).drop 6).length=6; rw [List.length_drop,List.length_take]; omega,(hb.take 12).drop 6⟩,hb.drop _,?_⟩
      show (b.drop _).length<=65535;rw [List.length_drop]; omega
theorem a4_ok {l:List Int} (h:Bytes l) (v:Int):Ip.Ok ⟨v,a4 l⟩:=by
 refine ⟨rfl,?_⟩;have z:(0:Int)<=0/\(0:Int)<=255:=by decide
 show Bytes [qk l 0,qk l 1,qk l 2,qk l 3,0,0,0,0,0,0,0,0,0,0,0,0];intro x hx;simp only [List.mem_cons,List.mem_nil_iff,or_false] at hx
 rcases hx with rfl | rfl | rfl | rfl | rfl | rfl | rfl | rfl | rfl | rfl | rfl | rfl | rfl | rfl | rfl | rfl
 ·exact h.get 0
 ·exact h.get 1
 ·exact h.get 2
 ·exact h.get 3
 all_goals exact z
theorem ly {b:List Int} (hb:Bytes b) (h:(zy b).2=0):((zy b).1.smac.length=6/\Bytes (zy b).1.smac)/\((zy b).1.tmac.length=6/\Bytes (zy b).1.tmac)/\(zy b).1.sip.Ok/\(zy b).1.tip.Ok:=by
 unfold zy at h ⊢
 split
 ·rename_i h1; rw [if_pos h1] at h; cases h
 ·rename_i h1;rw [if_neg h1] at h
  split
  ·rename_i h2; rw [if_pos h2] at h; cases h
  ·rename_i h2;rw [if_neg h2] at h
   split
   ·rename_i h3; rw [if_pos h3] at h; cases h
   ·rename_i h3;rw [if_neg h3] at h
    split
    ·rename_i h4; rw [if_pos h4] at h; exact absurd h h4
    ·exact ⟨⟨by show ((b.take 14).drop 8).length=6; rw [List.length_drop,List.length_take]; omega,(hb.take 14).drop 8⟩,⟨by show ((b.take 24).drop 18).length=6; rw [List.length_drop,List.length_take]; omega,(hb.take 24).drop 18⟩,a4_ok (hb.drop 14) 4,a4_ok (hb.drop 24) 4⟩
theorem wL {x:Int} {l:List Int} (h:Bytes (x::l)):Bytes l:=fun y hy=>h y (List.mem_cons_of_mem _ hy)
theorem yR {R:Int->Int->Bool}:∀ (f:Nat) (b:List Int) (l:List Opt),Bytes b->vG R f b=some l->∀ o∈l,Bytes o.data
 | 0,b,l,_,h,o,ho=>by rw [vG] at h; injection h with h; subst h; cases ho
 | f+1,[],l,_,h,o,ho=>by rw [vG] at h; injection h with h; subst h; cases ho
 | f+1,[k],l,hb,h,o,ho=>by
  rw [vG] at h
  split at h
  ·injection h with h; subst h; cases ho
  ·split at h
   ·exact yR f [] l qg h o ho
   ·cases h
 | f+1,k::n::r,l,hb,h,o,ho=>by
  rw [vG] at h
  split at h
  ·injection h with h; subst h; cases ho
  ·split at h
   ·exact yR f (n::r) l (wL hb) h o ho
   ·split at h
    ·cases h
    ·cases hg:vG R f (r.drop (n - 2).toNat) with
     | none=>rw [hg] at h; cases h
     | some m=>
      rw [hg] at h;injection h with h;subst h
      cases ho with
      | head=>exact (wL (wL hb)).take _
      | tail _ ho=>exact yR f _ m ((wL (wL hb)).drop _) hg o ho
theorem nP {b:List Int} (hb:Bytes b):∀ o∈(kH b).1,Bytes o.data:=by
 unfold kH
 split
 ·intro o ho; cases ho
 ·cases hg:vG fQ b.length b with
  | none=>intro o ho; cases ho
  | some l=>exact yR _ _ _ hb hg
theorem lq {b:List Int} (hb:Bytes b) (h:(qO b).2=0):(qO b).1.src.Ok/\(qO b).1.dst.Ok/\(∀ o∈(qO b).1.opts,Bytes o.data)/\Bytes (qO b).1.data/\(qO b).1.data.length<=65535:=by
 unfold qO at h ⊢
 split
 ·rename_i h1; rw [if_pos h1] at h; cases h
 ·rename_i h1;rw [if_neg h1] at h
  split
  ·rename_i h2; rw [if_pos h2] at h; cases h
  ·rename_i h2;rw [if_neg h2] at h
   split
   ·rename_i h3; rw [if_pos h3] at h; cases h
   ·rename_i h3;rw [if_neg h3] at h
    split
    ·rename_i h4; rw [if_pos h4] at h; cases h
    ·rename_i h4;rw [if_neg h4] at h
     split
     ·rename_i h5; rw [if_pos h5] at h; cases h
     ·rename_i h5;rw [if_neg h5] at h
      split
      ·rename_i h6; rw [if_pos h6] at h; cases h
      ·rename_i h6;rw [if_neg h6] at h
       split
       ·rename_i h7; rw [if_pos h7] at h; exact absurd h h7
       ·rename_i h7;rw [if_neg h7] at h
        split
        ·rename_i h8; rw [if_pos h8] at h; exact absurd h h8
        ·refine ⟨a4_ok (hb.drop 12) 4,a4_ok (hb.drop 16) 4,nP ((hb.take _).drop 20),(hb.take _).drop _,?_⟩
         show ((b.take _).drop _).length<=65535;rw [List.length_drop,List.length_take]; omega
theorem iP (k:Nat):Bytes (List.replicate k 0):=fun x hx=>by rw [List.eq_of_mem_replicate hx]; decide
theorem ub {run:Nat} {l:List Opt} (h:∀ o∈l,Bytes o.data):∀ o∈wo run l,Bytes o.data:=by
 unfold wo
 split
 ·exact h
 ·intro o ho
  cases ho with
  | head=>exact iP run
  | tail _ ho=>exact h o ho
theorem ky:∀ (f run:Nat) (b:List Int) (l:List Opt),Bytes b->jh f run b=some l->∀ o∈l,Bytes o.data
 | f,run,[],l,_,h=>by
  have h' : some (wo run [])=some l:=by cases f <;> exact h
  injection h' with h';rw [<-h'];exact ub (fun o ho=>by cases ho)
 | 0,run,x::r,l,_,h=>by cases h
 | f+1,run,[k],l,hb,h=>by
  rw [jh] at h
  split at h
  ·exact ky f (run+1) [] l qg h
  ·cases h
 | f+1,run,k::n::r,l,hb,h=>by
  rw [jh] at h
  split at h
  ·exact ky f (run+1) (n::r) l (wL hb) h
  ·split at h
   ·cases h
   ·split at h
    ·exact ky f _ _ l ((wL (wL hb)).drop _) h
    ·cases hg:jh f 0 (r.drop n.toNat) with
     | none=>rw [hg] at h; cases h
     | some m=>
      rw [hg] at h;injection h with h;rw [<-h];refine ub (fun o ho=>?_)
      cases ho with
      | head=>exact (wL (wL hb)).take _
      | tail _ ho=>exact ky f 0 _ m ((wL (wL hb)).drop _) hg o ho
def iX (x:Ext):Prop:=Bytes x.data/\∀ o∈x.opts,Bytes o.data
theorem cP:∀ (f:Nat) (g:Bool) (exts:List Ext) (next:Int) (r:List Int),Bytes r->(∀ x∈exts,iX x)->(∀ x∈(wJ f g exts next r).1.exts,iX x)/\Bytes (wJ f g exts next r).1.data/\(wJ f g exts next r).1.data.length<=r.length
 | 0,g,exts,next,r,hr,hx=>by
  show (∀ x∈Chn.z.exts,iX x)/\Bytes Chn.z.data/\Chn.z.data.length<=r.length;exact ⟨fun x h=>(by cases h),qg,Nat.zero_le _⟩
 | f+1,g,exts,next,r,hr,hx=>by
  have hz:(∀ x∈Chn.z.exts,iX x)/\Bytes Chn.z.data/\Chn.z.data.length<=r.length:=⟨fun x h=>(by cases h),qg,Nat.zero_le _⟩
  have happ:∀ y,iX y->∀ x∈exts++[y],iX x:=fun y hy x h=>by
   rcases List.mem_append.1 h with h | h
   ·exact hx x h
   ·rw [List.mem_singleton.1 h]; exact hy
  rw [wJ]
  split
  ·exact ⟨hx,hr,Nat.le_refl _⟩
  ·split
   ·unfold pz
    split
    ·exact hz
    ·split
     ·exact hz
     ·exact ⟨hx,hr.drop 8,by show (r.drop 8).length<=_; rw [List.length_drop]; omega⟩
   ·split
    ·exact hz
    ·split
     ·exact hz
     ·split
      ·exact hz
      ·split
       ·exact hz
       ·split
        ·have:=cP f false (exts++[⟨next,[],(r.drop 2).take (yT r)⟩]) (qk r 0) (r.drop (2+yT r)) (hr.drop _) (happ _ ⟨(hr.drop 2).take _,fun o ho=>by cases ho⟩);exact ⟨this.1,this.2.1,Nat.le_trans this.2.2 (by rw [List.length_drop]; omega)⟩
        ·split
         ·exact hz
         ·rename_i l hl;have:=cP f false (exts++[⟨next,l,[]⟩]) (qk r 0) (r.drop (2+yT r)) (hr.drop _) (happ _ ⟨qg,ky ((r.drop 2).take (yT r)).length 0 ((r.drop 2).take (yT r)) l ((hr.drop 2).take _) hl⟩);exact ⟨this.1,this.2.1,Nat.le_trans this.2.2 (by rw [List.length_drop]; omega)⟩
theorem lX {b:List Int} (hb:Bytes b) (h:(zv b).2=0):(zv b).1.src.Ok/\(zv b).1.dst.Ok/\(∀ x∈(zv b).1.exts,Bytes x.data/\∀ o∈x.opts,Bytes o.data)/\Bytes (zv b).1.data/\(zv b).1.data.length<=65535:=by
 unfold zv at h ⊢
 split
 ·rename_i h1; rw [if_pos h1] at h; cases h
 ·rename_i h1;rw [if_neg h1] at h
  split
  ·rename_i h2; rw [if_pos h2] at h; cases h
  ·rename_i h2;rw [if_neg h2] at h
   split
   ·rename_i h3; rw [if_pos h3] at h; cases h
   ·rename_i h3;rw [if_neg h3] at h
    split
    ·rename_i h4; rw [if_pos h4] at h; cases h
    ·rename_i h4;rw [if_neg h4] at h
     split
     ·rename_i h5; rw [if_pos h5] at h; exact absurd h h5
     ·have hw:=cP 9 true [] (fld b 48 8) ((b.drop 40).take (fld b 32 16).toNat) ((hb.drop 40).take _) (fun x hx=>by cases hx);refine ⟨⟨by show ((b.take 24).drop 8).length=16; rw [List.length_drop,List.length_take]; omega,(hb.take 24).drop 8⟩,⟨by show ((b.take 40).drop 24).length=16; rw [List.length_drop,List.length_take]; omega,(hb.take 40).drop 24⟩,hw.1,hw.2.1,Nat.le_trans hw.2.2 ?_⟩;rw [List.length_take,List.length_drop]; omega
theorem Jo {R:Int->Int->Bool}:∀ (f:Nat) (b:List Int) (l:List Opt),Bytes b->b.length<=40->vG R f b=some l->(∀ o∈l,xa R o)/\(xn l).length<=b.length
 | 0,b,l,_,_,h=>by rw [vG] at h; injection h with h; subst h; exact ⟨fun o ho=>(by cases ho),Nat.zero_le _⟩
 | f+1,[],l,_,_,h=>by rw [vG] at h; injection h with h; subst h; exact ⟨fun o ho=>(by cases ho),Nat.zero_le _⟩
 | f+1,[k],l,hb,hl,h=>by
  rw [vG] at h
  split at h
  ·injection h with h; subst h; exact ⟨fun o ho=>(by cases ho),Nat.zero_le _⟩
  ·split at h
   ·have:=Jo f [] l qg (by simp) h;exact ⟨this.1,Nat.le_trans this.2 (Nat.zero_le _)⟩
   ·cases h
 | f+1,k::n::r,l,hb,hl,h=>by
  rw [List.length_cons,List.length_cons] at hl;rw [vG] at h
  split at h
  ·injection h with h; subst h; exact ⟨fun o ho=>(by cases ho),Nat.zero_le _⟩
  ·rename_i k0
   split at h
   ·have:=Jo f (n::r) l (wL hb) (by rw [List.length_cons]; omega) h;have t:=this.2;rw [List.length_cons] at t;exact ⟨this.1,by rw [List.length_cons,List.length_cons]; omega⟩
   ·rename_i k1
    split at h
    ·cases h
    ·rename_i hc
     cases hg:vG R f (r.drop (n - 2).toNat) with
     | none=>rw [hg] at h; cases h
     | some m=>
      rw [hg] at h;injection h with h;have hn2:¬ n<2:=fun hx=>hc (.inl hx)
      have hn3:¬ n - 2 > r.length:=fun hx=>hc (.inr (.inl hx))
      have hR:R k n=true:=by
       cases e:R k n with
       | true=>rfl
       | false=>exact absurd (.inr (.inr e)) hc
      have ih:=Jo f _ m ((wL (wL hb)).drop _) (by rw [List.length_drop]; omega) hg;have hk:=hb k (List.mem_cons_self ..);have ht:(r.take (n - 2).toNat).length=(n - 2).toNat:=by rw [List.length_take]; omega
      subst h;refine ⟨fun o ho=>?_,?_⟩
      ·cases ho with
       | head=>
        refine ⟨by show 2<=k; omega,by show k<=255; omega,by show ((r.take (n - 2).toNat).length:Int)<=38; omega,?_⟩
        show R k (2+((r.take (n - 2).toNat).length:Int))=true;rw [ht,show (2:Int)+((n - 2).toNat:Int)=n by omega]; exact hR
       | tail _ ho=>exact ih.1 o ho
      ·have e:xn (⟨k,r.take (n - 2).toNat⟩::m)=xG ⟨k,r.take (n - 2).toNat⟩++xn m:=by simp [xn]
       rw [e,List.length_append,xD]
       show 2+(r.take (n - 2).toNat).length+(xn m).length<=r.length+1+1;have:=ih.2;rw [List.length_drop] at this;omega
theorem JM:∀ (l:List Opt),l.length<=(xn l).length/\∀ o∈l,o.data.length<=(xn l).length
 | []=>⟨Nat.le_refl _,fun o h=>by cases h⟩
 | o::l=>by
  have e:(xn (o::l)).length=2+o.data.length+(xn l).length:=by
   rw [show xn (o::l)=xG o++xn l by simp [xn],List.length_append,xD]
  have ih:=JM l;have i1:=ih.1;refine ⟨by rw [e,List.length_cons]; omega,fun x hx=>?_⟩;rw [e]
  cases hx with
  | head=>omega
  | tail _ hx=>have:=ih.2 x hx; omega
theorem JO {c:List Int} (hb:Bytes c) (h4:c.length % 4=0) (h:(kH c).2=0):(qJ (kH c).1).2=0/\(qJ (kH c).1).1.length<=c.length/\(kH c).1.length<=40/\∀ o∈(kH c).1,o.data.length<=40:=by
 unfold kH at h ⊢
 by_cases h1:c.length > 40
 ·rw [if_pos h1] at h; cases h
 rw [if_neg h1] at h ⊢
 cases hg:vG fQ c.length c with
 | none=>rw [hg] at h; cases h
 | some l=>
  obtain ⟨g1,g2⟩:=Jo _ _ _ hb (by omega) hg;have hs:=JM l;have hs1:=hs.1;have hp:=JF (b:=[]) g1 (by simp only [List.length_nil]; omega);have hl:=pC (xn l);rw [List.nil_append] at hp;dsimp only;unfold qJ;rw [hp];dsimp only;exact ⟨rfl,by omega,by omega,fun o ho=>by have:=hs.2 o ho; omega⟩
theorem JS {c:List Int} (hb:Bytes c) (h4:c.length % 4=0) (h:(xg c).2=0):(qY (xg c).1).2=0/\(qY (xg c).1).1.length<=c.length/\(xg c).1.length<=40/\∀ o∈(xg c).1,o.data.length<=40/\Bytes o.data:=by
 unfold xg at h ⊢
 by_cases h1:c.length > 40
 ·rw [if_pos h1] at h; cases h
 rw [if_neg h1] at h ⊢
 cases hg:vG vv c.length c with
 | none=>rw [hg] at h; cases h
 | some l=>
  obtain ⟨g1,g2⟩:=Jo _ _ _ hb (by omega) hg;have hs:=JM l;have hs1:=hs.1;have hp:=JF (b:=[]) g1 (by simp only [List.length_nil]; omega);have hl:=pC (xn l);rw [List.nil_append] at hp;dsimp only;unfold qY;rw [hp];dsimp only;exact ⟨rfl,by omega,by omega,fun o ho=>⟨by have:=hs.2 o ho; omega,yR _ _ _ hb hg o ho⟩⟩
theorem JL {run:Nat} (hr:run≠0) (h:run<=2046) (l:List Opt) (out:List Int):gu false (⟨0,List.replicate run 0⟩::l) out=gu true l (out++kC run):=by
 have hb:¬ dS ⟨0,List.replicate run 0⟩:=by unfold dS; dsimp only; omega
 have hp:¬ oy false ⟨0,List.replicate run 0⟩:=by
  unfold oy;dsimp only
  rintro (h1 | h1 | ⟨c,hc,h1⟩ | h1)
  ·have:=congrArg List.length h1;rw [List.length_replicate,List.length_nil] at this;exact hr this
  ·cases h1
  ·exact h1 (List.eq_of_mem_replicate hc)
  ·rw [List.length_replicate] at h1; omega
 rw [gu,if_neg hb,if_neg (show ¬ ((⟨0,List.replicate run 0⟩ : Opt).kind≠0) from fun h=>h rfl),if_neg hp]
 show gu true l (out++kC (List.replicate run (0:Int)).length)=_;rw [List.length_replicate]
theorem JH {prev:Bool} {k:Int} {d:List Int} (h:2<=k/\k<=255) (hd:d.length<=255) (l:List Opt) (out:List Int):gu prev (⟨k,d⟩::l) out=gu false l (out++ff ⟨k,d⟩):=by
 have hb:¬ dS ⟨k,d⟩:=by unfold dS; dsimp only; omega
 rw [gu,if_neg hb,if_pos (show (⟨k,d⟩ : Opt).kind≠0 from by show k≠0; omega)]
theorem Ji:∀ (f run:Nat) (b:List Int) (l:List Opt) (out:List Int),Bytes b->jh f run b=some l->(out.length+run+b.length) % 8=6->out.length+run+b.length<=2046->∃ c,gu false l out=some c/\c.length=out.length+run+b.length
 | f,run,[],l,out,hb,h,h8,h46=>by
  have h' : some (wo run [])=some l:=by cases f <;> exact h
  injection h' with h';subst h';simp only [List.length_nil,Nat.add_zero] at h8 h46 ⊢;unfold wo
  by_cases hr:run=0
  ·rw [if_pos hr];exact ⟨out,by rw [gu,if_pos (by omega)],by omega⟩
  ·rw [if_neg hr];refine ⟨out++kC run,?_,by rw [List.length_append,gp]⟩;rw [JL hr (by omega),gu,if_pos (by rw [List.length_append,gp]; omega)]
 | 0,run,x::r,l,out,hb,h,_,_=>by cases h
 | f+1,run,[k],l,out,hb,h,h8,h46=>by
  simp only [List.length_cons,List.length_nil] at h8 h46 ⊢;rw [jh] at h
  split at h
  ·obtain ⟨c,h1,h2⟩:=Ji f (run+1) [] l out qg h (by rw [List.length_nil]; omega) (by rw [List.length_nil]; omega);rw [List.length_nil] at h2;exact ⟨c,h1,by omega⟩
  ·cases h
 | f+1,run,k::n::r,l,out,hb,h,h8,h46=>by
  have hk:=hb k (List.mem_cons_self ..);have hn:=hb n (List.mem_cons_of_mem _ (List.mem_cons_self ..));simp only [List.length_cons] at h8 h46 ⊢;rw [jh] at h
  split at h
  ·obtain ⟨c,h1,h2⟩:=Ji f (run+1) (n::r) l out (wL hb) h (by rw [List.length_cons]; omega) (by rw [List.length_cons]; omega);rw [List.length_cons] at h2;exact ⟨c,h1,by omega⟩
  ·rename_i k0
   split at h
   ·cases h
   ·rename_i hn2;have ht:(r.take n.toNat).length=n.toNat:=by rw [List.length_take]; omega
    have hdl:(r.drop n.toNat).length=r.length - n.toNat:=List.length_drop ..;have hbd:=(wL (wL hb)).drop n.toNat
    split at h
    ·obtain ⟨c,h1,h2⟩:=Ji f (run+2+n.toNat) (r.drop n.toNat) l out hbd h (by omega) (by omega);exact ⟨c,h1,by omega⟩
    ·rename_i k1
     cases hg:jh f 0 (r.drop n.toNat) with
     | none=>rw [hg] at h; cases h
     | some m=>
      rw [hg] at h;injection h with h;subst h
      have ho:(ff ⟨k,r.take n.toNat⟩).length=2+n.toNat:=by
       show (r.take n.toNat).length+1+1=_;omega
      dsimp only;unfold wo
      by_cases hr:run=0
      ·rw [if_pos hr,JH ⟨by omega,by omega⟩ (by omega)];obtain ⟨c,h1,h2⟩:=Ji f 0 (r.drop n.toNat) m (out++ff ⟨k,r.take n.toNat⟩) hbd hg (by rw [List.length_append]; omega) (by rw [List.length_append]; omega);rw [List.length_append] at h2;exact ⟨c,h1,by omega⟩
      ·rw [if_neg hr,JL hr (by omega),JH ⟨by omega,by omega⟩ (by omega)];obtain ⟨c,h1,h2⟩:=Ji f 0 (r.drop n.toNat) m (out++kC run++ff ⟨k,r.take n.toNat⟩) hbd hg (by rw [List.length_append,List.length_append,gp]; omega) (by rw [List.length_append,List.length_append,gp]; omega);rw [List.length_append,List.length_append,gp] at h2;exact ⟨c,h1,by omega⟩
theorem JC:∀ (l:List Opt) (prev:Bool) (b c:List Int),gu prev l b=some c->b.length+l.length<=c.length/\∀ o∈l,o.data.length<=c.length
 | [],prev,b,c,h=>by
  rw [gu] at h
  split at h
  ·injection h with h; subst h; exact ⟨Nat.le_refl _,fun o ho=>(by cases ho)⟩
  ·cases h
 | o::l,prev,b,c,h=>by
  rw [gu] at h
  split at h
  ·cases h
  ·split at h
   ·have ih:=JC l false _ c h;have e:(ff o).length=2+o.data.length:=by simp [ff]; omega
    have i1:=ih.1;rw [List.length_append,e] at i1;refine ⟨by rw [List.length_cons]; omega,fun x hx=>?_⟩
    cases hx with
    | head=>omega
    | tail _ hx=>exact ih.2 x hx
   ·split at h
    ·cases h
    ·rename_i hp;have ih:=JC l true _ c h;have i1:=ih.1;rw [List.length_append,gp] at i1;have hne:o.data.length≠0:=fun hx=>hp (.inl (List.length_eq_zero_iff.1 hx))
     refine ⟨by rw [List.length_cons]; omega,fun x hx=>?_⟩
     cases hx with
     | head=>omega
     | tail _ hx=>exact ih.2 x hx
theorem JN {k:Int} {d:List Int} (h0:0<=k) (h1:k<=255) (s:wy k=2) (h8:d.length % 8=6) (hl:d.length<=2046):qI ⟨k,[],d⟩ =(d,0):=by
 unfold qI;dsimp only;rw [if_neg (by omega),if_neg (by omega),if_neg]
 rintro (h | h | h)
 ·exact h rfl
 ·omega
 ·omega
theorem JI {k:Int} {l:List Opt} {c:List Int} (h0:0<=k) (h1:k<=255) (s:wy k=1) (hp:gu false l []=some c):qI ⟨k,l,[]⟩ =(c,0):=by
 unfold qI;dsimp only;rw [if_neg (by omega),if_pos s,if_neg (show ¬ (([]:List Int)≠[]) from fun h=>h rfl),hp]
theorem Ke (k:Int):wy k=0\/wy k=1\/wy k=2\/wy k=3:=by
 unfold wy
 split
 ·omega
 ·split
  ·omega
  ·split
   ·omega
   ·split <;> omega
def W6 (fst:Bool) (exts:List Ext) (r:List Int) (w:Chn):Prop:=∃ l,w.exts=exts++l/\w.exts.length<=8/\(∀ x∈l,x.Sm)/\
 (∀ nx out,(wu nx fst l out).2=0/\(wu nx fst l out).1.length+(if w.frag.has=true then 8 else 0)+w.data.length=out.length+r.length)
def F6 (w:Chn):Prop:=0<=w.next/\w.next<=255/\(w.frag.has=false->w.frag=Frag.z/\wy w.next=0)/\
 (w.frag.has=true->0<=w.frag.id/\w.frag.id<4294967296/\0<=w.frag.off/\w.frag.off % 8=0/\w.frag.off<=65528/\pA w.frag w.data.length=true)
theorem Kz {x:Ext} {fst:Bool} {exts:List Ext} {r:List Int} {w:Chn} {len:Nat} (hx:(qI x).2=0) (hlen:(qI x).1.length=len) (hsm:x.Sm) (h0:¬ (x.kind=0/\fst=false)) (hr:2+len<=r.length) (h:W6 false (exts++[x]) (r.drop (2+len)) w):W6 fst exts r w:=by
 obtain ⟨l,e1,e2,e3,e4⟩:=h;refine ⟨x::l,by rw [e1]; simp,e2,fun y hy=>?_,fun nx out=>?_⟩
 ·cases hy with
  | head=>exact hsm
  | tail _ hy=>exact e3 y hy
 ·rw [wu,if_neg h0,if_neg (by simpa using hx)];obtain ⟨k1,k2⟩:=e4 nx (out++(vR nx l % 256::((qI x).1.length:Int) / 8 % 256::(qI x).1))
  have e:(out++(vR nx l % 256::((qI x).1.length:Int) / 8 % 256::(qI x).1)).length=out.length+2+len:=by
   rw [List.length_append,List.length_cons,List.length_cons,hlen]; omega
  rw [e,List.length_drop] at k2;exact ⟨k1,by omega⟩
theorem JK:∀ (f:Nat) (fst:Bool) (exts:List Ext) (next:Int) (r:List Int),Bytes r->exts.length<=8->9<=f+exts.length->0<=next->next<=255->(wJ f fst exts next r).2=0->W6 fst exts r (wJ f fst exts next r).1/\F6 (wJ f fst exts next r).1
 | 0,fst,exts,next,r,hr,he,hf,h0,h1,h=>by omega
 | f+1,fst,exts,next,r,hr,he,hf,h0,h1,h=>by
  rw [wJ] at h ⊢
  by_cases s0:wy next=0
  ·rw [if_pos s0] at h ⊢;exact ⟨⟨[],by rw [List.append_nil],he,fun x hx=>(by cases hx),fun nx out=>⟨rfl,by show out.length+0+r.length=_; omega⟩⟩,h0,h1,fun _=>⟨rfl,s0⟩,fun hx=>by cases hx⟩
  rw [if_neg s0] at h ⊢
  by_cases s3:wy next=3
  ·rw [if_pos s3] at h ⊢;unfold pz at h ⊢
   by_cases c1:r.length<8
   ·rw [if_pos c1] at h; cases h
   rw [if_neg c1] at h ⊢
   by_cases c2:pA ⟨true,fld r 31 1 == 1,fld r 32 32,8 * fld r 16 13⟩ ((r.length:Int) - 8)=false
   ·rw [if_pos c2] at h; cases h
   rw [if_neg c2] at h ⊢;have q1:=cA r 32 32;have q2:=cA r 16 13;have q3:=cA r 0 8;refine ⟨⟨[],by rw [List.append_nil],he,fun x hx=>(by cases hx),fun nx out=>⟨rfl,?_⟩⟩,q3.1,by show fld r 0 8<=255; omega,fun hx=>(by cases hx),fun _=>⟨q1.1,by show fld r 32 32<4294967296; omega,by show 0<=8 * fld r 16 13; omega,by show 8 * fld r 16 13 % 8=0; omega,by show 8 * fld r 16 13<=65528; omega,?_⟩⟩
   ·show out.length+8+(r.drop 8).length=_;rw [List.length_drop]; omega
   ·show pA ⟨true,fld r 31 1 == 1,fld r 32 32,8 * fld r 16 13⟩ ((r.drop 8).length:Int)=true;rw [show ((r.drop 8).length:Int)=(r.length:Int) - 8 by rw [List.length_drop]; omega];exact Bool.not_eq_false _ ▸ c2
  rw [if_neg s3] at h ⊢
  by_cases c1:next=0/\fst=false
  ·rw [if_pos c1] at h; cases h
  rw [if_neg c1] at h ⊢
  by_cases c2:exts.length=8
  ·rw [if_pos c2] at h; cases h
  rw [if_neg c2] at h ⊢
  by_cases c3:r.length<8
  ·rw [if_pos c3] at h; cases h
  rw [if_neg c3] at h ⊢
  by_cases c4:yT r > r.length - 2
  ·rw [if_pos c4] at h; cases h
  rw [if_neg c4] at h ⊢;have hl6:yT r=8 * (qk r 1).toNat+6:=rfl;have g0:=hr.get 0;have g1:=hr.get 1;have hbl:((r.drop 2).take (yT r)).length=yT r:=by rw [List.length_take,List.length_drop]; omega
  have hbb:Bytes ((r.drop 2).take (yT r)):=(hr.drop 2).take _
  by_cases s2:wy next=2
  ·rw [if_pos s2] at h ⊢;obtain ⟨hw,hF⟩:=JK f false (exts++[⟨next,[],(r.drop 2).take (yT r)⟩]) (qk r 0) (r.drop (2+yT r)) (hr.drop _) (by rw [List.length_append,List.length_singleton]; omega) (by rw [List.length_append,List.length_singleton]; omega) g0.1 g0.2 h;have hx:=JN h0 h1 s2 (d:=(r.drop 2).take (yT r)) (by rw [hbl]; omega) (by rw [hbl]; omega);exact ⟨Kz (by rw [hx]) (by rw [hx]; exact hbl) ⟨Nat.zero_le _,fun o ho=>(by cases ho),by show ((r.drop 2).take (yT r)).length<=2 ^ 20; omega⟩ c1 (by omega) hw,hF⟩
  ·rw [if_neg s2] at h ⊢;have s1:wy next=1:=by have:=Ke next; omega
   cases ho:vC 0 ((r.drop 2).take (yT r)) with
   | none=>rw [ho] at h; cases h
   | some l=>
    rw [ho] at h;obtain ⟨c,p1,p2⟩:=Ji _ 0 _ l [] hbb ho (by rw [List.length_nil,hbl]; omega) (by rw [List.length_nil,hbl]; omega);rw [List.length_nil,hbl] at p2;have hz:=JC _ _ _ _ p1;have hz1:=hz.1;have hx:=JI h0 h1 s1 p1;obtain ⟨hw,hF⟩:=JK f false (exts++[⟨next,l,[]⟩]) (qk r 0) (r.drop (2+yT r)) (hr.drop _) (by rw [List.length_append,List.length_singleton]; omega) (by rw [List.length_append,List.length_singleton]; omega) g0.1 g0.2 h;exact ⟨Kz (by rw [hx]) (by rw [hx]; show c.length=yT r; omega) ⟨by show l.length<=2 ^ 20; omega,fun o ho=>(by have:=hz.2 o ho; omega),Nat.zero_le _⟩ c1 (by omega) hw,hF⟩
theorem Km {h:Ip6} (c1:vO h=0) (c2:(zd h).2=0) (c3:zC h=0) (c4:40+((zd h).1++qS h).length+h.data.length<=65535):zL h=(kz h,0):=by
 unfold zL;rw [if_neg (by simpa using c1),if_neg (by simpa using c2),if_neg (by simpa using c3),if_neg (by omega)]
theorem JB {b:List Int} (h:(zv b).2=0):b.length<=65535/\40<=b.length/\fld b 32 16<=(b.length:Int) - 40/\(wJ 9 true [] (fld b 48 8) ((b.drop 40).take (fld b 32 16).toNat)).2=0/\
  (zv b).1=⟨fld b 4 8,fld b 12 20,fld b 56 8,⟨6,(b.take 24).drop 8⟩,⟨6,(b.take 40).drop 24⟩,(wJ 9 true [] (fld b 48 8) ((b.drop 40).take (fld b 32 16).toNat)).1.exts,(wJ 9 true [] (fld b 48 8) ((b.drop 40).take (fld b 32 16).toNat)).1.frag,
  (wJ 9 true [] (fld b 48 8) ((b.drop 40).take (fld b 32 16).toNat)).1.next,(wJ 9 true [] (fld b 48 8) ((b.drop 40).take (fld b 32 16).toNat)).1.data⟩:=by
 unfold zv at h ⊢
 by_cases h1:b.length > 65535
 ·rw [if_pos h1] at h; cases h
 rw [if_neg h1] at h ⊢
 by_cases h2:b.length<40
 ·rw [if_pos h2] at h; cases h
 rw [if_neg h2] at h ⊢
 by_cases h3:fld b 0 4≠6
 ·rw [if_pos h3] at h; cases h
 rw [if_neg h3] at h ⊢
 by_cases h4:fld b 32 16 >(b.length:Int) - 40
 ·rw [if_pos h4] at h; cases h
 rw [if_neg h4] at h ⊢
 by_cases h5:(wJ 9 true [] (fld b 48 8) ((b.drop 40).take (fld b 32 16).toNat)).2≠0
 ·rw [if_pos h5] at h; exact absurd h h5
 rw [if_neg h5];exact ⟨by omega,by omega,by omega,Decidable.not_not.1 h5,rfl⟩
theorem JP {b:List Int} (hb:Bytes b) (h:(zv b).2=0) (d:List Int) (hd:d.length<=(zv b).1.data.length) (hm:d=(zv b).1.data\/(zv b).1.frag.has=false) :
  (zL { (zv b).1 with data:=d }).2=0/\(zL { (zv b).1 with data:=d }).1.length<=b.length/\(∀ x∈(zv b).1.exts,x.Sm)/\(zv b).1.exts.length<=8/\(zv b).1.src.v=6:=by
 obtain ⟨h1,h2,h3,h4,h5⟩:=JB h;have q48:=cA b 48 8;obtain ⟨⟨l,w1,w2,w3,w4⟩,f1,f2,f3,f4⟩:=JK 9 true [] (fld b 48 8) ((b.drop 40).take (fld b 32 16).toNat) ((hb.drop 40).take _) (Nat.zero_le _) (Nat.le_refl _) q48.1 (by omega) h4;have q0:=cA b 32 16;have hrl:((b.drop 40).take (fld b 32 16).toNat).length=(fld b 32 16).toNat:=by rw [List.length_take,List.length_drop]; omega
 rw [hrl] at w4;rw [h5] at hd hm ⊢;generalize (wJ 9 true [] (fld b 48 8) ((b.drop 40).take (fld b 32 16).toNat)).1=w at *;obtain ⟨we,wf,wn,wd⟩:=w;rw [List.nil_append] at w1;dsimp only at w1 w2 w4 f1 f2 f3 f4 hd hm ⊢;subst w1;generalize hq:(⟨fld b 4 8,fld b 12 20,fld b 56 8,⟨6,(b.take 24).drop 8⟩,⟨6,(b.take 40).drop 24⟩,we,wf,wn,d⟩ : Ip6)=q;have q1:=cA b 4 8;have q2:=cA b 12 20;have q3:=cA b 56 8;have e1:q.src=⟨6,(b.take 24).drop 8⟩:=by rw [<-hq]
 have e2:q.dst=⟨6,(b.take 40).drop 24⟩:=by rw [<-hq]
 have e3:q.exts=we:=by rw [<-hq]
 have e4:q.frag=wf:=by rw [<-hq]
 have e5:q.next=wn:=by rw [<-hq]
 have e6:q.data=d:=by rw [<-hq]
 have z1:vO q=0:=by
  unfold vO;rw [if_neg];rw [<-hq];dsimp only;omega
 obtain ⟨k1,k2⟩:=w4 (vL q) [];have z2:zd q=wu (vL q) true we []:=by unfold zd; rw [e3,if_neg (by omega)]
 have z3:(qS q).length=if wf.has=true then 8 else 0:=by
  unfold qS;rw [e4]
  split
  ·exact qR _ _
  ·rfl
 have z4:zC q=0:=by
  unfold zC;rw [e4,e5,e6]
  cases hh:wf.has with
  | false=>
   obtain ⟨g1,g2⟩:=f3 hh;rw [if_pos rfl,if_neg (by simpa using g1),if_neg (by simpa using g2)]
  | true=>
   obtain ⟨g1,g2,g3,g4,g5,g6⟩:=f4 hh;have hd2:d=wd:=hm.resolve_right (by rw [hh]; decide);rw [if_neg (by decide),hd2,if_neg]
   rintro (x | x | x | x | x | x)
   ·omega
   ·omega
   ·omega
   ·exact x g4
   ·omega
   ·rw [g6] at x; cases x
 rw [List.length_nil,Nat.zero_add] at k2;rw [Km z1 (by rw [z2]; exact k1) z4 (by rw [List.length_append,z2,z3,e6]; omega)];refine ⟨rfl,?_,w3,w2,rfl⟩
 show (kz q).length<=b.length;unfold kz;rw [List.length_append,List.length_append,List.length_append,List.length_append,List.length_append,qR,z2,z3,e6,e1,e2]
 show 8+(((b.take 24).drop 8).length+(((b.take 40).drop 24).length+_))<=_;rw [List.length_drop,List.length_drop,List.length_take,List.length_take];omega
theorem Kp {mf:Bool} {off n:Int} (h:fy mf off n=0):off+n<=65515:=by
 unfold fy at h
 split at h
 ·cases h
 ·omega
theorem Kh {off n m:Int} (h:fy false off n=0) (hm:m<=n):fy false off m=0:=by
 have:=Kp h;unfold fy;rw [if_neg]
 rintro (⟨hx,_⟩ | hx)
 ·cases hx
 ·omega
theorem JT {h:Ip4} (h1:¬ vc h) (h2:(qJ h.opts).2=0) (h3:20+(qJ h.opts).1.length+h.data.length<=65535) (h4:fy h.mf h.off h.data.length=0):jt h=0:=by
 unfold jt;rw [if_neg h1,if_neg (by simpa using h2),if_neg (by omega),h4]
theorem JR {b:List Int} (h:(qO b).2=0):b.length<=65535/\20<=b.length/\20<=4 * fld b 4 4/\4 * fld b 4 4<=b.length/\4 * fld b 4 4<=fld b 16 16/\fld b 16 16<=b.length/\(kH ((b.take (4 * fld b 4 4).toNat).drop 20)).2=0/\
  fy (fld b 50 1 == 1) (8 * fld b 51 13) (fld b 16 16 - 4 * fld b 4 4)=0/\
  (qO b).1=⟨fld b 8 8,fld b 32 16,fld b 49 1 == 1,fld b 50 1 == 1,8 * fld b 51 13,fld b 64 8,fld b 72 8,⟨4,a4 (b.drop 12)⟩,⟨4,a4 (b.drop 16)⟩,(kH ((b.take (4 * fld b 4 4).toNat).drop 20)).1,(b.take (fld b 16 16).toNat).drop (4 * fld b 4 4).toNat⟩:=by
 unfold qO at h ⊢
 by_cases h1:b.length > 65535
 ·rw [if_pos h1] at h; cases h
 rw [if_neg h1] at h ⊢
 by_cases h2:b.length<20
 ·rw [if_pos h2] at h; cases h
 rw [if_neg h2] at h ⊢
 by_cases h3:fld b 0 4≠4
 ·rw [if_pos h3] at h; cases h
 rw [if_neg h3] at h ⊢
 by_cases h4:4 * fld b 4 4<20\/4 * fld b 4 4 > b.length
 ·rw [if_pos h4] at h; cases h
 rw [if_neg h4] at h ⊢
 by_cases h5:fld b 16 16<4 * fld b 4 4\/fld b 16 16 > b.length
 ·rw [if_pos h5] at h; cases h
 rw [if_neg h5] at h ⊢
 by_cases h6:zm (b.take (4 * fld b 4 4).toNat)≠65535
 ·rw [if_pos h6] at h; cases h
 rw [if_neg h6] at h ⊢
 by_cases h7:(kH ((b.take (4 * fld b 4 4).toNat).drop 20)).2≠0
 ·rw [if_pos h7] at h; exact absurd h h7
 rw [if_neg h7] at h ⊢
 by_cases h8:fy (fld b 50 1 == 1) (8 * fld b 51 13) (fld b 16 16 - 4 * fld b 4 4)≠0
 ·rw [if_pos h8] at h; exact absurd h h8
 rw [if_neg h8];exact ⟨by omega,by omega,by omega,by omega,by omega,by omega,Decidable.not_not.1 h7,Decidable.not_not.1 h8,rfl⟩
theorem JU {b:List Int} (hb:Bytes b) (h:(qO b).2=0) (d:List Int) (hd:d.length<=(qO b).1.data.length) (hm:d=(qO b).1.data\/(qO b).1.mf=false) :
  jt { (qO b).1 with data:=d }=0/\20+(qJ (qO b).1.opts).1.length+d.length<=b.length/\(qO b).1.opts.length<=40/\(∀ o∈(qO b).1.opts,o.data.length<=40)/\(qO b).1.src.v=4:=by
 obtain ⟨h1,h2,h3,h4,h5,h6,h7,h8,h9⟩:=JR h;have hcl:((b.take (4 * fld b 4 4).toNat).drop 20).length=(4 * fld b 4 4).toNat - 20:=by rw [List.length_drop,List.length_take]; omega
 obtain ⟨g1,g2,g3,g4⟩:=JO ((hb.take _).drop 20) (by rw [hcl]; omega) h7;rw [hcl] at g2;have hdl:((b.take (fld b 16 16).toNat).drop (4 * fld b 4 4).toNat).length=(fld b 16 16).toNat - (4 * fld b 4 4).toNat:=by rw [List.length_drop,List.length_take]; omega
 rw [h9] at hd hm ⊢;dsimp only at hd hm ⊢;rw [hdl] at hd;have q1:=cA b 8 8;have q2:=cA b 32 16;have q3:=cA b 51 13;have q4:=cA b 64 8;have q5:=cA b 72 8;refine ⟨JT ?_ g1 (by dsimp only; omega) ?_,by omega,g3,g4,rfl⟩
 ·unfold vc;dsimp only
  rintro (x | x | x | x | x | x | x | x | x | x | x | x | x)
  all_goals first | omega | exact x ⟨rfl,rfl⟩
 ·dsimp only
  rcases hm with hm | hm
  ·rw [hm,hdl,show (((fld b 16 16).toNat - (4 * fld b 4 4).toNat:Nat):Int)=fld b 16 16 - 4 * fld b 4 4 by omega];exact h8
  ·rw [hm] at h8 ⊢;exact Kh h8 (by omega)
theorem JW {f:Frm} (h1:¬ xQ f.src) (h2:xy f.tags) (h3:∀ t∈f.tags,yg t) (h4:gb f.type) (h5:14+4 * f.tags.length+f.data.length<=65535):zW f=0:=by
 unfold zW;rw [if_neg h1,if_neg (fun h=>h h2),if_neg (fun h=>h h3),if_neg (fun h=>h h4),if_neg (by omega)]
theorem Kc {b:List Int} (hb:Bytes b) (n:Int) (i:Nat) (h:¬ two b i % 4096=4095):yg (fg n (two b i)):=by
 have:=QZ hb i;unfold yg fg;dsimp only;omega
theorem Kd {b:List Int} (hb:Bytes b) (hl:14<=b.length) (h:(zQ b 2 [] 12).1=0):xy (zQ b 2 [] 12).2.1/\(∀ t∈(zQ b 2 [] 12).2.1,yg t)/\(zQ b 2 [] 12).2.2=12+4 * (zQ b 2 [] 12).2.1.length/\(zQ b 2 [] 12).2.2+2<=b.length/\(zQ b 2 [] 12).2.1.length<=2:=by
 by_cases t1:wV (two b 12)
 ·rw [zQ,if_pos t1] at h ⊢;rw [if_neg (show ¬ (([]:List Tag).length=1/\two b 12=34984) from fun hx=>absurd hx.1 (by decide))] at h ⊢
  by_cases c2:b.length<12+6
  ·rw [if_pos c2] at h; cases h
  rw [if_neg c2] at h ⊢
  by_cases c3:two b (12+2) % 4096=4095
  ·rw [if_pos c3] at h; cases h
  rw [if_neg c3] at h ⊢;have k1:=Kc hb (two b 12) _ c3;have e1:wV (fg (two b 12) (two b (12+2))).tpid:=t1;generalize fg (two b 12) (two b (12+2))=T at *
  by_cases t2:wV (two b (12+4))
  ·rw [zQ,if_pos t2] at h ⊢
   by_cases d1:([]++[T]).length=1/\two b (12+4)=34984
   ·rw [if_pos d1] at h; cases h
   rw [if_neg d1] at h ⊢
   by_cases d2:b.length<12+4+6
   ·rw [if_pos d2] at h; cases h
   rw [if_neg d2] at h ⊢
   by_cases d3:two b (12+4+2) % 4096=4095
   ·rw [if_pos d3] at h; cases h
   rw [if_neg d3] at h ⊢;have k2:=Kc hb (two b (12+4)) _ d3;have e2:(fg (two b (12+4)) (two b (12+4+2))).tpid=33024:=t2.resolve_right (fun hx=>d1 ⟨rfl,hx⟩);generalize fg (two b (12+4)) (two b (12+4+2))=U at *
   by_cases t3:wV (two b (12+4+4))
   ·rw [zQ,if_pos t3] at h; cases h
   ·rw [zQ,if_neg t3] at h ⊢;refine ⟨⟨e1,e2⟩,fun t ht=>?_,rfl,by show 12+4+4+2<=b.length; omega,by show 2<=2; omega⟩;have ht' : t∈[T,U]:=ht;simp only [List.mem_cons,List.mem_nil_iff,or_false] at ht'
    rcases ht' with rfl | rfl
    ·exact k1
    ·exact k2
  ·rw [zQ,if_neg t2] at h ⊢;refine ⟨e1,fun t ht=>?_,rfl,by show 12+4+2<=b.length; omega,by show 1<=2; omega⟩;have ht' : t∈[T]:=ht;rw [List.mem_singleton.1 ht'];exact k1
 ·rw [zQ,if_neg t1] at h ⊢;exact ⟨trivial,fun t ht=>(by cases ht),rfl,by show 12+2<=b.length; omega,by show 0<=2; omega⟩
theorem JX {b:List Int} (hb:Bytes b) (h:(qo b).2=0):¬ xQ (qo b).1.src/\xy (qo b).1.tags/\(∀ t∈(qo b).1.tags,yg t)/\14+4 * (qo b).1.tags.length+(qo b).1.data.length=b.length/\b.length<=65535/\(qo b).1.tags.length<=2:=by
 unfold qo at h ⊢
 by_cases h1:b.length > 65535
 ·rw [if_pos h1] at h; cases h
 rw [if_neg h1] at h ⊢
 by_cases h2:b.length<14
 ·rw [if_pos h2] at h; cases h
 rw [if_neg h2] at h ⊢
 by_cases h3:xQ ((b.take 12).drop 6)
 ·rw [if_pos h3] at h; cases h
 rw [if_neg h3] at h ⊢
 by_cases h4:(zQ b 2 [] 12).1≠0
 ·rw [if_pos h4] at h; exact absurd h h4
 rw [if_neg h4] at h ⊢
 by_cases h5:two b (zQ b 2 [] 12).2.2<1536
 ·rw [if_pos h5] at h; cases h
 rw [if_neg h5];obtain ⟨l1,l2,l3,l4,l5⟩:=Kd hb (by omega) (Decidable.not_not.1 h4);refine ⟨h3,l1,l2,?_,by omega,l5⟩
 show 14+4 * (zQ b 2 [] 12).2.1.length+(b.drop ((zQ b 2 [] 12).2.2+2)).length=b.length;rw [List.length_drop];omega
theorem JG {b:List Int} (h:(zy b).2=0):(vF (zy b).1).2=0/\28<=b.length:=by
 unfold zy at h ⊢
 by_cases h1:b.length > 65535
 ·rw [if_pos h1] at h; cases h
 rw [if_neg h1] at h ⊢
 by_cases h2:b.length<28
 ·rw [if_pos h2] at h; cases h
 rw [if_neg h2] at h ⊢
 by_cases h3:b.take 6≠wP
 ·rw [if_pos h3] at h; cases h
 rw [if_neg h3] at h ⊢
 by_cases h4:wE (two b 6) ((b.take 14).drop 8)≠0
 ·rw [if_pos h4] at h; exact absurd h h4
 rw [if_neg h4];refine ⟨?_,by omega⟩;unfold vF;dsimp only;rw [if_neg h4,if_neg]
 rintro (x | x)
 ·exact x ⟨rfl,rfl⟩
 ·exact x ⟨rfl,rfl⟩
def P4 (f:Frm) (h:Ip4):Pkt:={ bare f 2 with ip4:=h }
def P6 (f:Frm) (h:Ip6):Pkt:={ bare f 3 with ip6:=h }
def upd (p:Pkt) (l:Int) (i:Icmp) (u:Udp) (t:Tcp):Pkt:={ qD p [] with l4:=l,icmp:=i,udp:=u,tcp:=t }
theorem JQ (p:Pkt) (l:Int) (i:Icmp) (u:Udp) (t:Tcp):qm (upd p l i u t)=qm p:=aU p []
theorem Je (p:Pkt) (l:Int) (i:Icmp) (u:Udp) (t:Tcp):(upd p l i u t).kind=p.kind:=bg p []
theorem JV (p:Pkt) (l:Int) (i:Icmp) (u:Udp) (t:Tcp):zN (upd p l i u t)=zN p:=by unfold zN; rw [JQ,Je]
theorem JJ (p:Pkt) (l:Int) (i:Icmp) (u:Udp) (t:Tcp):qB (upd p l i u t)=[]:=by
 by_cases h:p.kind=2
 ·unfold qB upd qD; simp [h]
 ·unfold qB upd qD; simp [h]
theorem Kb (p:Pkt) (b:List Int):(qD p b).dst=p.dst/\(qD p b).src=p.src/\(qD p b).tags=p.tags:=by
 unfold qD
 split <;> exact ⟨rfl,rfl,rfl⟩
structure Kl (i:Icmp) (u:Udp) (t:Tcp):Prop where
 bi:Bytes i.data
 il:i.data.length<=2 ^ 20
 bu:Bytes u.data
 ul:u.data.length<=2 ^ 20
 ot:∀ o∈t.opts,Bytes o.data
 tl:t.opts.length<=2 ^ 20
 td:∀ o∈t.opts,o.data.length<=2 ^ 20
 bt:Bytes t.data
 dl:t.data.length<=2 ^ 20
structure Ks (h:Ip4):Prop where
 src:h.src.Ok
 dst:h.dst.Ok
 o:∀ o∈h.opts,Bytes o.data
 ol:h.opts.length<=2 ^ 20
 od:∀ o∈h.opts,o.data.length<=2 ^ 20
 b:Bytes h.data
 dl:h.data.length<=2 ^ 20
structure Kq (f:Frm):Prop where
 d:f.dst.length=6/\Bytes f.dst
 s:f.src.length=6/\Bytes f.src
 t:f.tags.length<=2 ^ 20
theorem sm4 {f:Frm} {h:Ip4} {l:Int} {i:Icmp} {u:Udp} {t:Tcp} (F:Kq f) (H:Ks h) (U:Kl i u t):Pkt.Sm { P4 f h with l4:=l,icmp:=i,udp:=u,tcp:=t }:=
 ⟨⟨H.src,H.dst,kr,kr,F.d,F.s,im,im,kr,kr,H.o,H.b,fun x hx=>(by cases hx),qg,U.bi,U.bu,U.ot,U.bt⟩,F.t,H.ol,H.od,H.dl,fun x hx=>(by cases hx),Nat.zero_le _,Nat.zero_le _,U.il,U.ul,U.tl,U.td,U.dl⟩
theorem sm6 {f:Frm} {h:Ip6} {l:Int} {i:Icmp} {u:Udp} {t:Tcp} (F:Kq f) (H:h.Sm) (U:Kl i u t):Pkt.Sm { P6 f h with l4:=l,icmp:=i,udp:=u,tcp:=t }:=
 ⟨⟨kr,kr,H.src,H.dst,F.d,F.s,im,im,kr,kr,fun x hx=>(by cases hx),qg,H.xb,H.db,U.bi,U.bu,U.ot,U.bt⟩,F.t,Nat.zero_le _,fun x hx=>(by cases hx),Nat.zero_le _,H.xs,H.xl,H.dl,U.il,U.ul,U.tl,U.td,U.dl⟩
theorem Kn {v:Int} {src dst:Ip} {b:List Int} (hb:Bytes b) (h:(wv v src dst b).2=0) :
  (wv v src dst b).1.v=v/\wW (wv v src dst b).1=0/\(vS src dst (wv v src dst b).1).2=0/\(vS src dst (wv v src dst b).1).1.length<=b.length/\Bytes (wv v src dst b).1.data/\(wv v src dst b).1.data.length<=65535:=by
 unfold wv at h ⊢
 by_cases h1:b.length > 65515
 ·rw [if_pos h1] at h; cases h
 rw [if_neg h1] at h ⊢
 by_cases h2:v≠4/\v≠6
 ·rw [if_pos h2] at h; cases h
 rw [if_neg h2] at h ⊢
 by_cases h3:(zf v src dst b.length).2≠0
 ·rw [if_pos h3] at h; exact absurd h h3
 rw [if_neg h3] at h ⊢
 by_cases h4:b.length<8
 ·rw [if_pos h4] at h; cases h
 rw [if_neg h4] at h ⊢
 by_cases h5:zm ((zf v src dst b.length).1++b)≠65535
 ·rw [if_pos h5] at h; cases h
 rw [if_neg h5];have hl:(nM v b).data.length=b.length - 8:=List.length_drop ..;have q1:=cA b 0 8;have q2:=cA b 8 8;have q3:=cA b 32 32
 have hc:wW (nM v b)=0:=by
  unfold wW;rw [if_neg (show ¬ ((nM v b).v≠4/\(nM v b).v≠6) from h2),if_neg (by unfold nM; dsimp only; omega),if_neg (by omega)]
 have e:(8:Int)+((nM v b).data.length:Int)=(b.length:Int):=by omega
 refine ⟨rfl,hc,?_,?_,hb.drop 8,by dsimp only; omega⟩
 ·unfold vS;rw [if_neg (by simpa using hc),e,if_neg (show ¬ (zf (nM v b).v src dst b.length).2≠0 from h3)]
 ·unfold vS;rw [if_neg (by simpa using hc),e,if_neg (show ¬ (zf (nM v b).v src dst b.length).2≠0 from h3)]
  show (ki src dst (nM v b)).length<=_;rw [Kf]; omega
theorem KX {src dst:Ip} {b:List Int} (hb:Bytes b) (hv:src.v=4\/src.v=6) (h:(wa src dst b).2=0) :
  vP src.v (wa src dst b).1=0/\(kc src dst (wa src dst b).1).2=0/\(kc src dst (wa src dst b).1).1.length<=b.length/\Bytes (wa src dst b).1.data/\(wa src dst b).1.data.length<=65535:=by
 unfold wa at h ⊢
 by_cases h1:b.length > 65535
 ·rw [if_pos h1] at h; cases h
 rw [if_neg h1] at h ⊢
 by_cases h2:(qG src dst 0 0).2≠0
 ·rw [if_pos h2] at h; exact absurd h h2
 rw [if_neg h2] at h ⊢
 by_cases h3:b.length<8
 ·rw [if_pos h3] at h; cases h
 rw [if_neg h3] at h ⊢
 by_cases h4:fld b 32 16<8\/fld b 32 16 > b.length
 ·rw [if_pos h4] at h; cases h
 rw [if_neg h4] at h ⊢
 by_cases h5:(fld b 48 16=0/\src.v=6)\/(fld b 48 16≠0/\good src dst 17 (b.take (fld b 32 16).toNat)=false)
 ·rw [if_pos h5] at h; cases h
 rw [if_neg h5];dsimp only;have hl:((b.take (fld b 32 16).toNat).drop 8).length=(fld b 32 16).toNat - 8:=by rw [List.length_drop,List.length_take]; omega
 have q1:=cA b 0 16;have q2:=cA b 16 16
 have hc:vP src.v ⟨fld b 0 16,fld b 16 16,fld b 48 16 == 0,(b.take (fld b 32 16).toNat).drop 8⟩ = 0:=by
  unfold vP;dsimp only;rw [if_neg (by omega),if_neg,if_neg (by omega)]
  rintro (x | x | ⟨x,y⟩)
  ·omega
  ·omega
  ·exact h5 (.inl ⟨eq_of_beq x,y⟩)
 refine ⟨hc,?_,?_,(hb.take _).drop 8,by omega⟩
 ·unfold kc;rw [if_neg h2,if_neg (by rw [hc]; decide)]
 ·unfold kc;rw [if_neg h2,if_neg (by rw [hc]; decide)]
  show (su src dst _).length<=_;rw [nF]
  split
  ·rw [rc]; dsimp only; omega
  ·rw [rc]; dsimp only; omega
theorem KF {src dst:Ip} {b:List Int} (hb:Bytes b) (h:(wN src dst b).2=0) :
  ji (wN src dst b).1=0/\(ku src dst (wN src dst b).1).2=0/\(ku src dst (wN src dst b).1).1.length<=b.length/\Bytes (wN src dst b).1.data/\(wN src dst b).1.data.length<=65535/\(wN src dst b).1.opts.length<=40/\∀ o∈(wN src dst b).1.opts,o.data.length<=40/\Bytes o.data:=by
 unfold wN at h ⊢
 by_cases h1:b.length > 65535
 ·rw [if_pos h1] at h; cases h
 rw [if_neg h1] at h ⊢
 by_cases h2:(qG src dst 0 0).2≠0
 ·rw [if_pos h2] at h; exact absurd h h2
 rw [if_neg h2] at h ⊢
 by_cases h3:b.length<20
 ·rw [if_pos h3] at h; cases h
 rw [if_neg h3] at h ⊢
 by_cases h4:4 * fld b 96 4<20\/4 * fld b 96 4 > b.length
 ·rw [if_pos h4] at h; cases h
 rw [if_neg h4] at h ⊢
 by_cases h5:good src dst 6 b=false
 ·rw [if_pos h5] at h; cases h
 rw [if_neg h5] at h ⊢
 by_cases h6:(xg ((b.take (4 * fld b 96 4).toNat).drop 20)).2≠0
 ·rw [if_pos h6] at h; exact absurd h h6
 rw [if_neg h6];have hcl:((b.take (4 * fld b 96 4).toNat).drop 20).length=(4 * fld b 96 4).toNat - 20:=by rw [List.length_drop,List.length_take]; omega
 obtain ⟨g1,g2,g3,g4⟩:=JS ((hb.take _).drop 20) (by rw [hcl]; omega) (Decidable.not_not.1 h6);rw [hcl] at g2;generalize (xg ((b.take (4 * fld b 96 4).toNat).drop 20)).1=L at *;dsimp only;have hdl:(b.drop (4 * fld b 96 4).toNat).length=b.length - (4 * fld b 96 4).toNat:=List.length_drop ..;have q1:=cA b 0 16;have q2:=cA b 16 16;have q3:=cA b 32 32;have q4:=cA b 64 32;have q5:=cA b 104 8;have q6:=cA b 112 16;have q7:=cA b 144 16
 have hc:ji ⟨fld b 0 16,fld b 16 16,fld b 32 32,fld b 64 32,fld b 104 8,fld b 112 16,fld b 144 16,L,b.drop (4 * fld b 96 4).toNat⟩ = 0:=by
  unfold ji;rw [if_neg (by unfold jF; dsimp only; omega)];dsimp only;rw [if_neg (by rw [g1]; decide),if_neg (by omega)]
 refine ⟨hc,?_,?_,hb.drop _,by omega,g3,g4⟩
 ·unfold ku;rw [if_neg h2,if_neg (by rw [hc]; decide)]
 ·unfold ku;rw [if_neg h2,if_neg (by rw [hc]; decide)]
  show (yq src dst _).length<=_;rw [cw];dsimp only;omega
theorem KY {p:Pkt} (h:p.l4=0):qK p=(qB p,0)/\vt p=0:=by
 constructor
 ·unfold qK; rw [if_neg (by omega),if_neg (by omega),if_neg (by omega)]
 ·unfold vt; rw [if_neg (by omega),if_neg (by omega),if_neg (by omega)]
theorem KV {p:Pkt} (h:p.l4=1):qK p=vS (qm p).src (qm p).dst p.icmp/\vt p=wW p.icmp:=by
 constructor
 ·unfold qK; rw [if_pos h]
 ·unfold vt; rw [if_pos h]
theorem KG {p:Pkt} (h:p.l4=2):qK p=kc (qm p).src (qm p).dst p.udp/\vt p=vP (qm p).v p.udp:=by
 constructor
 ·unfold qK; rw [if_neg (by omega),if_pos h]
 ·unfold vt; rw [if_neg (by omega),if_pos h]
theorem KW {p:Pkt} (h:p.l4=3):qK p=ku (qm p).src (qm p).dst p.tcp/\vt p=ji p.tcp:=by
 constructor
 ·unfold qK; rw [if_neg (by omega),if_neg (by omega),if_pos h]
 ·unfold vt; rw [if_neg (by omega),if_neg (by omega),if_pos h]
theorem Ja {p:Pkt} (h1:1<=p.kind/\p.kind<=3) (h2:0<=p.l4/\p.l4<=3) (h3:p=alone p) (h4:p.l4=zN p) (h5:p.l4≠0->qB p=[]/\(p.l4=1->p.icmp.v=(qm p).v)):¬ mixed p:=by
 unfold mixed
 rintro (x | x | x | ⟨x,y | ⟨y,z⟩⟩)
 ·omega
 ·exact x h3
 ·exact x h4
 ·exact y (h5 x).1
 ·exact z ((h5 x).2 y)
structure Up (p0 p:Pkt):Prop where
 base:p.dst=p0.dst/\p.src=p0.src/\p.tags=p0.tags
 kind:p.kind=p0.kind
 mix:¬ mixed p
 chk:vt p=0
 ab:(qK p).2=0
 len:(qK p).1.length<=(qB p0).length
 alt:(p=p0/\(qK p).1=qB p0)\/(zN p0≠0/\p.ip4=(qD p0 []).ip4/\p.ip6=(qD p0 []).ip6)
 sm:p.Sm
theorem Kv {p0:Pkt} (hp:(∃ f h,p0=P4 f h)\/(∃ f h,p0=P6 f h)) (hv:(qm p0).src.v=(qm p0).v) (hb:Bytes (qB p0)) (hl:(qB p0).length<=65535) (hsm0:p0.Sm) (hsm:∀ l i u t,Kl i u t->(upd p0 l i u t).Sm) (c:(jW p0).2=0):Up p0 (jW p0).1:=by
 have hk:p0.kind=2\/p0.kind=3:=by
  rcases hp with ⟨f,h,rfl⟩ | ⟨f,h,rfl⟩
  ·exact .inl rfl
  ·exact .inr rfl
 have h0:p0.l4=0:=by rcases hp with ⟨f,h,rfl⟩ | ⟨f,h,rfl⟩ <;> rfl
 have ha0:p0=alone p0:=by rcases hp with ⟨f,h,rfl⟩ | ⟨f,h,rfl⟩ <;> rfl
 have ha1:∀ i,upd p0 1 i Udp.z Tcp.z=alone (upd p0 1 i Udp.z Tcp.z):=by intro i; rcases hp with ⟨f,h,rfl⟩ | ⟨f,h,rfl⟩ <;> rfl
 have ha2:∀ u,upd p0 2 Icmp.z u Tcp.z=alone (upd p0 2 Icmp.z u Tcp.z):=by intro i; rcases hp with ⟨f,h,rfl⟩ | ⟨f,h,rfl⟩ <;> rfl
 have ha3:∀ t,upd p0 3 Icmp.z Udp.z t=alone (upd p0 3 Icmp.z Udp.z t):=by intro i; rcases hp with ⟨f,h,rfl⟩ | ⟨f,h,rfl⟩ <;> rfl
 have hw1:∀ i,({ qD p0 [] with l4:=1,icmp:=i }:Pkt)=upd p0 1 i Udp.z Tcp.z:=by intro i; rcases hp with ⟨f,h,rfl⟩ | ⟨f,h,rfl⟩ <;> rfl
 have hw2:∀ u,({ qD p0 [] with l4:=2,udp:=u }:Pkt)=upd p0 2 Icmp.z u Tcp.z:=by intro i; rcases hp with ⟨f,h,rfl⟩ | ⟨f,h,rfl⟩ <;> rfl
 have hw3:∀ t,({ qD p0 [] with l4:=3,tcp:=t }:Pkt)=upd p0 3 Icmp.z Udp.z t:=by intro i; rcases hp with ⟨f,h,rfl⟩ | ⟨f,h,rfl⟩ <;> rfl
 have hv6:(qm p0).v=4\/(qm p0).v=6:=by
  unfold qm
  split
  ·exact .inl rfl
  ·exact .inr rfl
 have hbase:=Kb p0 [];unfold jW at c ⊢;rw [if_neg (show ¬ ((p0.kind≠2/\p0.kind≠3)\/p0.l4≠0) by omega)] at c ⊢
 by_cases l1:zN p0=1
 ·rw [if_pos l1] at c ⊢
  by_cases c1:(wv (qm p0).v (qm p0).src (qm p0).dst (qB p0)).2≠0
  ·rw [if_pos c1] at c; exact absurd c c1
  rw [if_neg c1];obtain ⟨m1,m2,m3,m4,m5,m6⟩:=Kn hb (Decidable.not_not.1 c1);generalize (wv (qm p0).v (qm p0).src (qm p0).dst (qB p0)).1=m at *;dsimp only;rw [hw1];have ha:=KV (p:=upd p0 1 m Udp.z Tcp.z) rfl;rw [JQ] at ha;refine ⟨hbase,Je ..,Ja (by rw [Je]; omega) ⟨by show (0:Int)<=1; decide,by show (1:Int)<=3; decide⟩ (ha1 m) (by rw [JV,l1]; rfl) (fun _=>⟨JJ ..,fun _=>by rw [JQ]; exact m1⟩),by rw [ha.2]; exact m2,by rw [ha.1]; exact m3,by rw [ha.1]; exact m4,.inr ⟨by omega,rfl,rfl⟩,hsm 1 _ _ _ ⟨m5,by omega,qg,Nat.zero_le _,fun o ho=>(by cases ho),Nat.zero_le _,fun o ho=>(by cases ho),qg,Nat.zero_le _⟩⟩
 rw [if_neg l1] at c ⊢
 by_cases l2:zN p0=2
 ·rw [if_pos l2] at c ⊢
  by_cases c1:(wa (qm p0).src (qm p0).dst (qB p0)).2≠0
  ·rw [if_pos c1] at c; exact absurd c c1
  rw [if_neg c1];obtain ⟨m2,m3,m4,m5,m6⟩:=KX hb (by rw [hv]; exact hv6) (Decidable.not_not.1 c1);generalize (wa (qm p0).src (qm p0).dst (qB p0)).1=m at *;dsimp only;rw [hw2];have ha:=KG (p:=upd p0 2 Icmp.z m Tcp.z) rfl;rw [JQ] at ha;rw [hv] at m2;refine ⟨hbase,Je ..,Ja (by rw [Je]; omega) ⟨by show (0:Int)<=2; decide,by show (2:Int)<=3; decide⟩ (ha2 m) (by rw [JV,l2]; rfl) (fun _=>⟨JJ ..,fun hx=>by cases hx⟩),by rw [ha.2]; exact m2,by rw [ha.1]; exact m3,by rw [ha.1]; exact m4,.inr ⟨by omega,rfl,rfl⟩,hsm 2 _ _ _ ⟨qg,Nat.zero_le _,m5,by omega,fun o ho=>(by cases ho),Nat.zero_le _,fun o ho=>(by cases ho),qg,Nat.zero_le _⟩⟩
 rw [if_neg l2] at c ⊢
 by_cases l3:zN p0=3
 ·rw [if_pos l3] at c ⊢
  by_cases c1:(wN (qm p0).src (qm p0).dst (qB p0)).2≠0
  ·rw [if_pos c1] at c; exact absurd c c1
  rw [if_neg c1];obtain ⟨m2,m3,m4,m5,m6,m7,m8⟩:=KF hb (Decidable.not_not.1 c1);generalize (wN (qm p0).src (qm p0).dst (qB p0)).1=m at *;dsimp only;rw [hw3];have ha:=KW (p:=upd p0 3 Icmp.z Udp.z m) rfl;rw [JQ] at ha;refine ⟨hbase,Je ..,Ja (by rw [Je]; omega) ⟨by show (0:Int)<=3; decide,by show (3:Int)<=3; decide⟩ (ha3 m) (by rw [JV,l3]; rfl) (fun _=>⟨JJ ..,fun hx=>by cases hx⟩),by rw [ha.2]; exact m2,by rw [ha.1]; exact m3,by rw [ha.1]; exact m4,.inr ⟨by omega,rfl,rfl⟩,hsm 3 _ _ _ ⟨qg,Nat.zero_le _,qg,Nat.zero_le _,fun o ho=>(m8 o ho).2,by omega,fun o ho=>(by have:=(m8 o ho).1; omega),m5,by omega⟩⟩
 rw [if_neg l3]
 have hlz:zN p0=0:=by
  have:zN p0=0\/zN p0=1\/zN p0=2\/zN p0=3:=by
   unfold zN
   split
   ·omega
   ·unfold ef
    split
    ·omega
    ·split
     ·omega
     ·split <;> omega
  omega
 have ha:=KY h0
 show Up p0 p0;exact ⟨⟨rfl,rfl,rfl⟩,rfl,Ja (by omega) (by omega) ha0 (by rw [hlz]; exact h0) (fun hx=>absurd h0 hx),ha.2,by rw [ha.1],by rw [ha.1]; exact Nat.le_refl _,.inl ⟨rfl,by rw [ha.1]⟩,hsm0⟩
theorem Kg (k:Int):gb (vX k):=by
 unfold vX
 split
 ·decide
 ·split <;> decide
theorem JD {p:Pkt} {f:Frm} {n:Nat} (F:Kq f) (hd:p.dst=f.dst/\p.src=f.src/\p.tags=f.tags) (h1:¬ xQ f.src) (h2:xy f.tags) (h3:∀ t∈f.tags,yg t) (h4:14+4 * f.tags.length+f.data.length=n) (h5:n<=65535) (hm:¬ mixed p) (hi:(wh p).2=0) (hl:(wh p).1.length<=f.data.length):(zX p).2=0/\(zX p).1.length<=n:=by
 obtain ⟨d1,d2,d3⟩:=hd;have c1:zW (zr p 2048 [])=0:=JW (by show ¬ xQ p.src; rw [d2]; exact h1) (by show xy p.tags; rw [d3]; exact h2) (by show ∀ t∈p.tags,yg t; rw [d3]; exact h3) (by show gb 2048; decide) (by show 14+4 * p.tags.length+0<=65535; rw [d3]; omega);have c2:zW (zr p (vX p.kind) (wh p).1)=0:=JW (by show ¬ xQ p.src; rw [d2]; exact h1) (by show xy p.tags; rw [d3]; exact h2) (by show ∀ t∈p.tags,yg t; rw [d3]; exact h3) (Kg _) (by show 14+4 * p.tags.length+(wh p).1.length<=65535; rw [d3]; omega)
 have e:zX p=(yj (zr p (vX p.kind) (wh p).1),0):=by
  unfold zX fS;rw [if_neg (by rw [c1]; decide),if_neg hm,if_neg (by rw [hi]; decide),if_neg (by rw [c2]; decide)]
 rw [e];refine ⟨rfl,?_⟩
 show (yj _).length<=n;rw [bK _ (by show p.src.length=6; rw [d2]; exact F.s.1) (by show p.dst.length=6; rw [d1]; exact F.d.1)]
 show 14+4 * p.tags.length+(wh p).1.length<=n;rw [d3];omega
theorem KK {q:Ip4} {p:Pkt} {f:Frm} {n:Nat} (U:Up (P4 f q) p) (H:Ks q)
  (hc:∀ d:List Int,d.length<=q.data.length->(d=q.data\/q.mf=false)->jt { q with data:=d }=0/\20+(qJ q.opts).1.length+d.length<=n):(wh p).2=0/\(wh p).1.length<=n:=by
 have hk:p.kind=2:=U.kind
 have hmf:zN (P4 f q)≠0->q.mf=false:=fun hl=>by
  cases hq:q.mf with
  | false=>rfl
  | true=>exact absurd (if_pos (.inr (by show (q.mf || decide (q.off > 0))=true; rw [hq]; rfl))) hl
 have hlen:(qK p).1.length<=q.data.length:=U.len
 have hd:(qK p).1=q.data\/q.mf=false:=by
  rcases U.alt with ⟨_,x⟩ | ⟨x,_⟩
  ·exact .inl x
  ·exact .inr (hmf x)
 have hi4:∃ d:List Int,p.ip4={ q with data:=d }/\d.length<=q.data.length/\(d=q.data\/q.mf=false):=by
  rcases U.alt with ⟨x,_⟩ | ⟨x,y,_⟩
  ·exact ⟨q.data,by rw [x]; rfl,Nat.le_refl _,.inl rfl⟩
  ·exact ⟨[],by rw [y]; rfl,Nat.zero_le _,.inr (hmf x)⟩
 obtain ⟨d,e1,e2,e3⟩:=hi4;have hci:yc p=0:=by unfold yc; rw [if_pos hk,e1]; exact (hc d e2 e3).1
 have ew:(qD p (qK p).1).ip4={ q with data:=(qK p).1 }:=by
  unfold qD;rw [if_pos hk]
  show ({ p.ip4 with data:=(qK p).1 }:Ip4)=_;rw [e1]
 obtain ⟨k1,k2⟩:=hc _ hlen hd
 have e:wh p=(WY { q with data:=(qK p).1 },0):=by
  unfold wh;rw [if_neg (by omega),if_neg (by rw [hci]; decide),if_neg (by rw [U.chk]; decide),if_neg (by rw [U.ab]; decide),if_pos hk,ew];unfold jq;rw [if_neg (by rw [k1]; decide)]
 rw [e];refine ⟨rfl,?_⟩
 show (vD { q with data:=(qK p).1 }++(qK p).1).length<=n;rw [List.length_append,gy (h:={ q with data:=(qK p).1 }) H.src H.dst];exact k2
theorem KJ {q:Ip6} {p:Pkt} {f:Frm} {n:Nat} (U:Up (P6 f q) p)
  (hc:∀ d:List Int,d.length<=q.data.length->(d=q.data\/q.frag.has=false)->(zL { q with data:=d }).2=0/\(zL { q with data:=d }).1.length<=n):(wh p).2=0/\(wh p).1.length<=n:=by
 have hk:p.kind=3:=U.kind
 have hmf:zN (P6 f q)≠0->q.frag.has=false:=fun hl=>by
  cases hq:q.frag.has with
  | false=>rfl
  | true=>exact absurd (if_pos (.inr hq)) hl
 have hlen:(qK p).1.length<=q.data.length:=U.len
 have hd:(qK p).1=q.data\/q.frag.has=false:=by
  rcases U.alt with ⟨_,x⟩ | ⟨x,_⟩
  ·exact .inl x
  ·exact .inr (hmf x)
 have hi4:∃ d:List Int,p.ip6={ q with data:=d }/\d.length<=q.data.length/\(d=q.data\/q.frag.has=false):=by
  rcases U.alt with ⟨x,_⟩ | ⟨x,_,y⟩
  ·exact ⟨q.data,by rw [x]; rfl,Nat.le_refl _,.inl rfl⟩
  ·exact ⟨[],by rw [y]; rfl,Nat.zero_le _,.inr (hmf x)⟩
 obtain ⟨d,e1,e2,e3⟩:=hi4;have hci:yc p=0:=by unfold yc; rw [if_neg (by omega),e1]; exact (hc d e2 e3).1
 have ew:(qD p (qK p).1).ip6={ q with data:=(qK p).1 }:=by
  unfold qD;rw [if_neg (by omega)]
  show ({ p.ip6 with data:=(qK p).1 }:Ip6)=_;rw [e1]
 have e:wh p=zL { q with data:=(qK p).1 }:=by
  unfold wh;rw [if_neg (by omega),if_neg (by rw [hci]; decide),if_neg (by rw [U.chk]; decide),if_neg (by rw [U.ab]; decide),if_neg (by omega),ew]
 rw [e];exact hc _ hlen hd
theorem eG {b:List Int} (hb:Bytes b) (h:(gQ b).2=0):(gQ b).1.Sm/\(zX (gQ b).1).2=0/\(zX (gQ b).1).1.length<=b.length:=by
 unfold gQ at h ⊢
 by_cases c1:(qo b).2≠0
 ·rw [if_pos c1] at h; exact absurd h c1
 rw [if_neg c1] at h ⊢;obtain ⟨o1,o2,o3,o4⟩:=ti hb (Decidable.not_not.1 c1);obtain ⟨l1,l2,l3,l4,l5,l6⟩:=JX hb (Decidable.not_not.1 c1);generalize (qo b).1=f at *;have F:Kq f:=⟨o1,o2,by omega⟩;have uz:Kl Icmp.z Udp.z Tcp.z:=⟨qg,Nat.zero_le _,qg,Nat.zero_le _,fun o ho=>(by cases ho),Nat.zero_le _,fun o ho=>(by cases ho),qg,Nat.zero_le _⟩
 by_cases t1:f.type=2054
 ·rw [if_pos t1] at h ⊢
  by_cases c2:(zy f.data).2≠0
  ·rw [if_pos c2] at h; exact absurd h c2
  rw [if_neg c2] at h ⊢;obtain ⟨p1,p2,p3,p4⟩:=ly o3 (Decidable.not_not.1 c2);obtain ⟨q1,q2⟩:=JG (Decidable.not_not.1 c2);generalize (zy f.data).1=a at *
  have e:jW { bare f 1 with arp:=a }=({ bare f 1 with arp:=a },0):=by
   unfold jW;rw [if_pos (.inl ⟨by show (1:Int)≠2; decide,by show (1:Int)≠3; decide⟩)]
  rw [e];have hz:∀ o∈([]:List Opt),Bytes o.data:=fun o ho=>by cases ho
  have hsm:Pkt.Sm { bare f 1 with arp:=a }:=⟨⟨kr,kr,kr,kr,o1,o2,p1,p2,p3,p4,hz,qg,fun x hx=>(by cases hx),qg,qg,qg,hz,qg⟩,F.t,Nat.zero_le _,fun o ho=>(by cases ho),Nat.zero_le _,fun x hx=>(by cases hx),Nat.zero_le _,Nat.zero_le _,Nat.zero_le _,Nat.zero_le _,Nat.zero_le _,fun o ho=>(by cases ho),Nat.zero_le _⟩;have hm:¬ mixed { bare f 1 with arp:=a }:=Ja ⟨by show (1:Int)<=1; decide,by show (1:Int)<=3; decide⟩ ⟨by show (0:Int)<=0; decide,by show (0:Int)<=3; decide⟩ rfl (if_pos (.inl rfl)).symm (fun hx=>absurd rfl hx);have ei:wh { bare f 1 with arp:=a }=vF a:=if_pos rfl;exact ⟨hsm,JD F ⟨rfl,rfl,rfl⟩ l1 l2 l3 l4 l5 hm (by rw [ei]; exact q1) (by rw [ei,Kr p1.1 p2.1 p3 p4 q1]; exact q2)⟩
 rw [if_neg t1] at h ⊢
 by_cases t2:f.type=2048
 ·rw [if_pos t2] at h ⊢
  by_cases c2:(qO f.data).2≠0
  ·rw [if_pos c2] at h; exact absurd h c2
  rw [if_neg c2] at h ⊢;have c2':=Decidable.not_not.1 c2;obtain ⟨p1,p2,p3,p4,p5⟩:=lq o3 c2';have hc:=fun d hd hm=>JU o3 c2' d hd hm
  obtain ⟨_,_,r1,r2,r3⟩:=hc _ (Nat.le_refl _) (.inl rfl);generalize (qO f.data).1=q at *;have H:Ks q:=⟨p1,p2,p3,by omega,fun o ho=>(by have:=r2 o ho; omega),p4,by omega⟩;have H0:Ks { q with data:=[] }:=⟨p1,p2,p3,by show q.opts.length<=2 ^ 20; omega,fun o ho=>(by have:=r2 o ho; omega),qg,Nat.zero_le _⟩;have U:=Kv (p0:=P4 f q) (.inl ⟨f,q,rfl⟩) r3 p4 p5 (sm4 (l:=0) F H uz) (fun l i u t hu=>sm4 (f:=f) (h:={ q with data:=[] }) F H0 hu) h
  show (jW (P4 f q)).1.Sm/\(zX (jW (P4 f q)).1).2=0/\(zX (jW (P4 f q)).1).1.length<=b.length;have hi:=KK U H (n:=f.data.length) (fun d hd hm=>⟨(hc d hd hm).1,(hc d hd hm).2.1⟩);exact ⟨U.sm,JD F U.base l1 l2 l3 l4 l5 U.mix hi.1 hi.2⟩
 rw [if_neg t2] at h ⊢
 by_cases t3:f.type=34525
 ·rw [if_pos t3] at h ⊢
  by_cases c2:(zv f.data).2≠0
  ·rw [if_pos c2] at h; exact absurd h c2
  rw [if_neg c2] at h ⊢;have c2':=Decidable.not_not.1 c2;obtain ⟨p1,p2,p3,p4,p5⟩:=lX o3 c2';have hc:=fun d hd hm=>JP o3 c2' d hd hm
  obtain ⟨_,_,r1,r2,r3⟩:=hc _ (Nat.le_refl _) (.inl rfl);generalize (zv f.data).1=q at *;have H:q.Sm:=⟨p1,p2,r1,by omega,p3,by omega,p4⟩;have H0:Ip6.Sm { q with data:=[] }:=⟨p1,p2,r1,by show q.exts.length<=2 ^ 20; omega,p3,Nat.zero_le _,qg⟩;have U:=Kv (p0:=P6 f q) (.inr ⟨f,q,rfl⟩) r3 p4 p5 (sm6 (l:=0) F H uz) (fun l i u t hu=>sm6 (f:=f) (h:={ q with data:=[] }) F H0 hu) h
  show (jW (P6 f q)).1.Sm/\(zX (jW (P6 f q)).1).2=0/\(zX (jW (P6 f q)).1).1.length<=b.length;have hi:=KJ U (n:=f.data.length) (fun d hd hm=>⟨(hc d hd hm).1,(hc d hd hm).2.1⟩);exact ⟨U.sm,JD F U.base l1 l2 l3 l4 l5 U.mix hi.1 hi.2⟩
 rw [if_neg t3] at h
 cases h
theorem Jh (m:List AV):B23 N0 [.fs .u8 wb,.tup m]=some [plain.av,.int .i64 0,.tup m]:=by kernel_rfl
theorem Jd (m:List AV):B16 N0 [.tup m]=some [.bool true,.tup m]:=by
 show run16 B13 A15 A17 A18 B23 A30 A44 A45 N0 m=_;rw [eq16];simp only [ZZ,w44,Jh,w30,v13,v15,w45,a17,v18];rfl
theorem a52 (n:Nat) (hn:2 ^ 63<n) (b:List Int) (m:List AV) (hb:Bytes b) (hl:b.length<2 ^ 44):∃ m',A52 n [.fs .u8 b,.tup m]=some [(zv b).1.av,.int .i64 (zv b).2,.tup m']:=by
 show ∃ m',run52 A89 A90 n b m=_;rw [eq52];have h89:=a89 n hn b hb hl;unfold zv
 by_cases h1:b.length > 65535
 ·rw [if_pos h1] at h89 ⊢;rw [h89];exact ⟨m,rfl⟩
 rw [if_neg h1] at h89 ⊢
 by_cases h2:b.length<40
 ·rw [if_pos h2] at h89 ⊢;rw [h89];exact ⟨m,rfl⟩
 rw [if_neg h2] at h89 ⊢
 by_cases h3:fld b 0 4≠6
 ·rw [if_pos h3] at h89 ⊢;rw [h89];exact ⟨m,rfl⟩
 rw [if_neg h3] at h89 ⊢
 by_cases h4:fld b 32 16 >(b.length:Int) - 40
 ·rw [if_pos h4] at h89 ⊢;rw [h89];exact ⟨m,rfl⟩
 rw [if_neg h4] at h89 ⊢;obtain ⟨L,hL,l6,g1,g2,g4,g5⟩ : ∃ L,A89 n [.fs .u8 b]=some [.fs .i64 L,.fs .u8 ((b.drop 40).take (fld b 32 16).toNat),.int .i64 0]/\L.length=6/\qk L 1=fld b 4 8/\qk L 2=fld b 12 20/\qk L 4=fld b 48 8/\qk L 5=fld b 56 8:=⟨_,h89,rfl,rfl,rfl,rfl,rfl⟩;have i1:inR 1 6=true:=rfl;have i2:inR 2 6=true:=rfl;have i4:inR 4 6=true:=rfl;have i5:inR 5 6=true:=rfl;have n5:Nat.ble 5 6=true:=rfl;have n2:Nat.ble 2 6=true:=rfl;have n3:Nat.ble 3 6=true:=rfl;have n6:Nat.ble 6 6=true:=rfl;obtain ⟨m',h90⟩:=a90 n hn (fld b 48 8) ((b.drop 40).take (fld b 32 16).toNat) m ((hb.drop 40).take _) (by rw [List.length_take,List.length_drop]; omega);generalize wJ 9 true [] (fld b 48 8) ((b.drop 40).take (fld b 32 16).toNat)=w at *;simp only [hL,ZZ,show ((0:Int) != 0)=false from rfl,l6,i4,n5,g4,h90]
 by_cases h5:w.2=0
 ·rw [if_neg (by simpa using h5)];have t8:Nat.ble 16 (List.length (List.take 16 (List.drop 8 b)))=true:=Nat.ble_eq_true_of_le (by rw [List.length_take,List.length_drop]; omega);have t24:Nat.ble 16 (List.length (List.take 16 (List.drop 24 b)))=true:=Nat.ble_eq_true_of_le (by rw [List.length_take,List.length_drop]; omega);have e8:List.take 16 (List.take 16 (List.drop 8 b))=(b.take 24).drop 8:=by rw [List.take_take,List.drop_take]; rfl
  have e24:List.take 16 (List.take 16 (List.drop 24 b))=(b.take 40).drop 24:=by rw [List.take_take,List.drop_take]; rfl
  have c24:decide ((24:Int)<=Int.ofNat b.length)=true:=decide_eq_true (by show (24:Int)<=((b.length:Nat):Int); omega);have c40:decide ((40:Int)<=Int.ofNat b.length)=true:=decide_eq_true (by show (40:Int)<=((b.length:Nat):Int); omega);have cl:decide (Int.ofNat b.length<=Int.ofNat b.length)=true:=decide_eq_true (Int.le_refl _);simp only [show (w.2 != 0)=false by simpa using h5,ZZ,i1,n2,i2,n3,i5,n6,g1,g2,g5,c24,c40,cl,Bool.and_self,t8,t24,e8,e24];exact ⟨m',rfl⟩
 ·rw [if_pos h5];simp only [show (w.2 != 0)=true by simpa using h5,ZZ];exact ⟨m',rfl⟩
theorem Wq {f:Frm} {k:Int} (h1:f.dst.length=6/\Bytes f.dst) (h2:f.src.length=6/\Bytes f.src):(bare f k).Ok:=by
 have hz:∀ o∈([]:List Opt),Bytes o.data:=fun o ho=>by cases ho
 exact ⟨kr,kr,kr,kr,h1,h2,im,im,kr,kr,hz,qg,fun x hx=>(by cases hx),qg,qg,qg,hz,qg⟩
theorem a23 (n:Nat) (hn:2 ^ 63<n) (b:List Int) (m:List AV) (hb:Bytes b) (hl:b.length<2 ^ 44):∃ m',A23 n [.fs .u8 b,.tup m]=some [(gQ b).1.av,.int .i64 (gQ b).2,.tup m']:=by
 show ∃ m',run23 A26 A49 A50 A51 A52 n b m=_;rw [eq23];have h49:=a49 n hn b hb hl;unfold gQ
 by_cases c1:(qo b).2=0
 ·rw [if_neg (by simpa using c1)];obtain ⟨o1,o2,o3,o4⟩:=ti hb c1;generalize (qo b).1=f at *;simp only [h49,ZZ,show ((qo b).2 != 0)=false by simpa using c1];have hbare:∀ k,(bare f k).Ok:=fun k=>Wq o1 o2
  by_cases t1:f.type=2054
  ·rw [if_pos t1];have h50:=a50 n hn f.data o3 (by omega);simp only [show (f.type == 2054)=true by simpa using t1,ZZ,h50]
   by_cases c2:(zy f.data).2=0
   ·rw [if_neg (by simpa using c2)];obtain ⟨p1,p2,p3,p4⟩:=ly o3 c2;have hb1:=hbare 1;have h26:=a26 n hn { bare f 1 with arp:=(zy f.data).1 } ⟨hb1.s4,hb1.d4,hb1.s6,hb1.d6,hb1.dst,hb1.src,p1,p2,p3,p4,hb1.o4,hb1.b4,hb1.x6,hb1.b6,hb1.bi,hb1.bu,hb1.ot,hb1.bt⟩ (by unfold qB; split <;> exact qg) (by unfold qB; split <;> exact Nat.two_pow_pos 44);simp only [show ((zy f.data).2 != 0)=false by simpa using c2,ZZ];refine ⟨m,?_⟩
    show Option.bind (A26 n [Pkt.av { bare f 1 with arp:=(zy f.data).1 }]) _=_;rw [h26];rfl
   ·rw [if_pos (by simpa using c2)];simp only [show ((zy f.data).2 != 0)=true by simpa using c2,ZZ];exact ⟨m,rfl⟩
  rw [if_neg t1]
  by_cases t2:f.type=2048
  ·rw [if_pos t2];have h51:=a51 n hn f.data o3 (by omega);simp only [show (f.type == 2054)=false by simpa using t1,show (f.type == 2048)=true by simpa using t2,ZZ,h51]
   by_cases c2:(qO f.data).2=0
   ·rw [if_neg (by simpa using c2)];obtain ⟨p1,p2,p3,p4,p5⟩:=lq o3 c2;have hb1:=hbare 2;have h26:=a26 n hn { bare f 2 with ip4:=(qO f.data).1 } ⟨p1,p2,hb1.s6,hb1.d6,hb1.dst,hb1.src,hb1.smac,hb1.tmac,hb1.sip,hb1.tip,p3,p4,hb1.x6,hb1.b6,hb1.bi,hb1.bu,hb1.ot,hb1.bt⟩ p4 (by show (qO f.data).1.data.length<_; omega);simp only [show ((qO f.data).2 != 0)=false by simpa using c2,ZZ];refine ⟨m,?_⟩
    show Option.bind (A26 n [Pkt.av { bare f 2 with ip4:=(qO f.data).1 }]) _=_;rw [h26];rfl
   ·rw [if_pos (by simpa using c2)];simp only [show ((qO f.data).2 != 0)=true by simpa using c2,ZZ];exact ⟨m,rfl⟩
  rw [if_neg t2]
  by_cases t3:f.type=34525
  ·rw [if_pos t3];obtain ⟨m',h52⟩:=a52 n hn f.data m o3 (by omega);simp only [show (f.type == 2054)=false by simpa using t1,show (f.type == 2048)=false by simpa using t2,show (f.type == 34525)=true by simpa using t3,ZZ,h52]
   by_cases c2:(zv f.data).2=0
   ·rw [if_neg (by simpa using c2)];obtain ⟨p1,p2,p3,p4,p5⟩:=lX o3 c2;have hb1:=hbare 3;have h26:=a26 n hn { bare f 3 with ip6:=(zv f.data).1 } ⟨hb1.s4,hb1.d4,p1,p2,hb1.dst,hb1.src,hb1.smac,hb1.tmac,hb1.sip,hb1.tip,hb1.o4,hb1.b4,p3,p4,hb1.bi,hb1.bu,hb1.ot,hb1.bt⟩ p4 (by show (zv f.data).1.data.length<_; omega);simp only [show ((zv f.data).2 != 0)=false by simpa using c2,ZZ];refine ⟨m',?_⟩
    show Option.bind (A26 n [Pkt.av { bare f 3 with ip6:=(zv f.data).1 }]) _=_;rw [h26];rfl
   ·rw [if_pos (by simpa using c2)];simp only [show ((zv f.data).2 != 0)=true by simpa using c2,ZZ];exact ⟨m',rfl⟩
  rw [if_neg t3];simp only [show (f.type == 2054)=false by simpa using t1,show (f.type == 2048)=false by simpa using t2,show (f.type == 34525)=false by simpa using t3,ZZ,show ((100:Int) != 0)=true from rfl];exact ⟨m,rfl⟩
 ·rw [if_pos (by simpa using c1)];simp only [h49,ZZ,show ((qo b).2 != 0)=true by simpa using c1];exact ⟨m,rfl⟩
def JZ (b:List Int):List Int × Int:=if (gQ b).2≠0 then ([],(gQ b).2) else xc (gQ b).1
theorem a23' (n:Nat) (hn:2 ^ 63<n) (b:List Int) (m:List AV) (hb:Bytes b):∃ m',A23 n [.fs .u8 b,.tup m]=some [(gQ b).1.av,.int .i64 (gQ b).2,.tup m']:=by
 by_cases h1:b.length > 65535
 ·have e:qo b=(Frm.z,2):=by unfold qo; rw [if_pos h1]
  have e2:gQ b=(Pkt.z,2):=by unfold gQ; rw [e,if_pos (by decide)]
  have h49:A49 n [.fs .u8 b]=some [Frm.z.av,.int .i64 2]:=by
   show run49 A77 A78 A79 n b=_;rw [eq49,qp (by exact decide_eq_true (by show (65535:Int)<((b.length:Nat):Int); omega))];rfl
  refine ⟨m,?_⟩
  show run23 A26 A49 A50 A51 A52 n b m=_;rw [eq23,e2];simp only [ZZ,h49,show ((2:Int) != 0)=true from rfl];rfl
 ·exact a23 n hn b m hb (by omega)
theorem a24 (n:Nat) (hn:2 ^ 63<n) (b:List Int) (m:List AV) (hb:Bytes b):∃ m',A24 n [.fs .u8 b,.tup m]=some [.fs .u8 (JZ b).1,.int .i64 (JZ b).2,.tup m']:=by
 show ∃ m',run24 A13 A23 n b m=_;rw [eq24];obtain ⟨m',h23⟩:=a23' n hn b m hb;refine ⟨m',?_⟩;unfold JZ
 by_cases c:(gQ b).2=0
 ·have h13:=a13 n hn (gQ b).1 (eG hb c).1;rw [if_neg (by simpa using c)];simp only [ZZ,h23,show ((gQ b).2 != 0)=false by simpa using c,h13]
 ·rw [if_pos c];simp only [ZZ,h23,show ((gQ b).2 != 0)=true by simpa using c]
theorem Kx {b:List Int} (h:(gQ b).2≠0):(gQ b).1=Pkt.z:=by
 have hop:∀ p:Pkt,(jW p).2≠0->(jW p).1=Pkt.z:=fun p hp=>by
  unfold jW at hp ⊢
  split
  ·rename_i c; rw [if_pos c] at hp; exact absurd rfl hp
  ·rename_i c;rw [if_neg c] at hp
   split
   ·rename_i c1;rw [if_pos c1] at hp
    split
    ·rfl
    ·rename_i c2; rw [if_neg c2] at hp; exact absurd rfl hp
   ·rename_i c1;rw [if_neg c1] at hp
    split
    ·rename_i c1;rw [if_pos c1] at hp
     split
     ·rfl
     ·rename_i c2; rw [if_neg c2] at hp; exact absurd rfl hp
    ·rename_i c1;rw [if_neg c1] at hp
     split
     ·rename_i c1;rw [if_pos c1] at hp
      split
      ·rfl
      ·rename_i c2; rw [if_neg c2] at hp; exact absurd rfl hp
     ·rename_i c1;rw [if_neg c1] at hp;exact absurd rfl hp
 unfold gQ at h ⊢
 split
 ·rfl
 ·rename_i c1;rw [if_neg c1] at h
  split
  ·rename_i t1;rw [if_pos t1] at h
   split
   ·rfl
   ·rename_i c2; rw [if_neg c2] at h; exact hop _ h
  ·rename_i t1;rw [if_neg t1] at h
   split
   ·rename_i t1;rw [if_pos t1] at h
    split
    ·rfl
    ·rename_i c2; rw [if_neg c2] at h; exact hop _ h
   ·rename_i t1;rw [if_neg t1] at h
    split
    ·rename_i t1;rw [if_pos t1] at h
     split
     ·rfl
     ·rename_i c2; rw [if_neg c2] at h; exact hop _ h
    ·rfl
theorem b6' (F13 F15 F16 F17 F18 F22 F23 F24:Fun) (n:Nat) (b:List Int) (hb:Bytes b) (h16:∀ m:List AV,F16 n [.tup m]=some [.bool true,.tup m]) (h17:∀ x:Int,F17 n [.int .i64 x]=some [.int .i64 x])
  (h13:∀ p:Pkt,p.Sm->F13 n [p.av]=some [.fs .u8 (xc p).1,.int .i64 (xc p).2]) (h22:∀ p:Pkt,p.Sm->F22 n [p.av]=some [.int .i64 (zX p).2])
  (h15:∀ a b:Pkt,a.Bz->b.Bz->F15 n [a.av,b.av]=some [.bool (decide (a=b))])
  (h18:∀ l m:List Int,Bytes l->Bytes m->F18 n [.fs .u8 l,.fs .u8 m]=some [.bool (decide (l=m))])
  (h23:∀ (b:List Int) (m:List AV),Bytes b->∃ m',F23 n [.fs .u8 b,.tup m]=some [(gQ b).1.av,.int .i64 (gQ b).2,.tup m'])
  (h24:∀ (b:List Int) (m:List AV),Bytes b->∃ m',F24 n [.fs .u8 b,.tup m]=some [.fs .u8 (JZ b).1,.int .i64 (JZ b).2,.tup m']):run6 F13 F15 F16 F17 F18 F22 F23 F24 n b=some [.bool true]:=by
 rw [eq6];have hzz:=h15 Pkt.z Pkt.z KD KD;rw [decide_eq_true rfl] at hzz;have z0:((0:Int) == 0)=true:=rfl;have z1:((0:Int) != 0)=false:=rfl;obtain ⟨m1,e1⟩:=h23 b [] hb;obtain ⟨m2,e2⟩:=h24 b m1 hb
 by_cases c:(gQ b).2=0
 ·obtain ⟨r1,r2,r3⟩:=eG hb c
  have en:JZ b=(nQ (zX (gQ b).1).1,0):=by
   unfold JZ xc;rw [if_neg (by simpa using c),if_neg (by simpa using r2)]
  have es:xc (gQ b).1=(nQ (zX (gQ b).1).1,0):=by unfold xc; rw [if_neg (by simpa using r2)]
  have hk:=uJ r1.ok (by rw [es]);have hbn:=sj r1;rw [es] at hk hbn;have hl60:60<=(nQ (zX (gQ b).1).1).length:=by unfold nQ; rw [List.length_append,List.length_replicate]; omega
  have hlb:(nQ (zX (gQ b).1).1).length > 60->(nQ (zX (gQ b).1).1).length<=b.length:=by
   unfold nQ; rw [List.length_append,List.length_replicate]; omega
  have e3:=h22 _ r1;have e4:=h13 _ r1;have e15:=h15 _ _ r1.bz r1.bz;rw [decide_eq_true rfl] at e15;rw [en] at e2;rw [es] at e4;rw [r2] at e3;rw [c] at e1;have c' : (gQ b).2=0:=c;generalize (gQ b).1=p at *;generalize hN:nQ (zX p).1=N at *;obtain ⟨m3,e5⟩:=h23 N m2 hbn;obtain ⟨m4,e6⟩:=h24 N m3 hbn
  have en2:JZ N=(N,0):=by
   unfold JZ;rw [if_neg (by rw [hk]; exact fun hx=>hx rfl),hk];exact es
  rw [hk] at e5;rw [en2] at e6;have e18:=h18 N N hbn hbn;rw [decide_eq_true rfl] at e18;simp only [ZZ,e1,e2,h17,z1,e3];refine pD (y:=some (Sum.inl [.tup m2,p.av,.fs .u8 N])) ?_ ?_
  ·refine pD (y:=some (Sum.inl [.tup m2,p.av,.fs .u8 N,.bool false])) ?_ ?_
   ·refine (qi (by exact decide_eq_false (by show ¬ ((N.length:Nat):Int)<60; omega))).trans ?_
    by_cases h6:N.length > 60
    ·refine (qp (by exact decide_eq_true (by show (60:Int)<((N.length:Nat):Int); omega))).trans ?_;have hd:decide (Int.ofNat N.length > Int.ofNat b.length)=false:=decide_eq_false (by show ¬ ((b.length:Nat):Int)<((N.length:Nat):Int); have:=hlb h6; omega);exact congrArg (fun x=>some (Sum.inl [AV.tup m2,p.av,AV.fs .u8 N,AV.bool x])) hd
    ·exact qi (by exact decide_eq_false (by show ¬ (60:Int)<((N.length:Nat):Int); omega))
   ·simp only [ZZ]
  ·simp only [ZZ,e5,e6,e4,h16,h17,z0,e15,e18]
 ·have en:JZ b=([],(gQ b).2):=by unfold JZ; rw [if_pos c]
  have ez:=Kx c;rw [ez] at e1;rw [en] at e2;simp only [Pkt.z,Arp.z,Ip4.z,Ip6.z,Ip.z,Frag.z,Icmp.z,Udp.z,Tcp.z] at hzz;simp only [ZZ,e1,e2,h17,show ((gQ b).2 != 0)=true by simpa using c,h16,show ((gQ b).2 ==(gQ b).2)=true by simp,Pkt.z,Arp.z,Ip4.z,Ip6.z,Ip.z,Frag.z,Icmp.z,Udp.z,Tcp.z,List.length_nil,show ((Int.ofNat 0) == 0)=true from rfl,hzz]
noncomputable def B6:Fun:=D6.R (cal6 A13 A15 B16 A17 A18 A22 A23 A24) H6
theorem T6:K 6 D6 B6:=sq (Jb S13 S15 T16 S17 S18 S22 S23 S24) Tryz.func6
theorem b6 (b:List Int) (hb:Bytes b):B6 N0 [.fs .u8 b]=some [.bool true]:=
 b6' A13 A15 B16 A17 A18 A22 A23 A24 N0 b hb Jd (a17 N0) (a13 N0 hN0) (a22 N0 hN0) (a15 N0 hN0) (a18 N0) (fun b m hb=>a23' N0 hN0 b m hb) (fun b m hb=>a24 N0 hN0 b m hb)
end Go.Proofs.YtlmnjnhmhacgkaaGreatDoor.Am
end
