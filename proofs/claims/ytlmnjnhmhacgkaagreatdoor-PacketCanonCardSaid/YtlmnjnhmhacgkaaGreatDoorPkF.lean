/-
  The packet's layers, plainly: what is written, and what is read back.
-/
import Derived.Test.YtlmnjnhmhacgkaaGreatDoorPkE
import Derived.KernelRfl
section
set_option linter.unusedVariables false
set_option linter.unusedSimpArgs false
set_option maxRecDepth 100000
namespace Go.Proofs.YtlmnjnhmhacgkaaGreatDoor.Am
open Go Go.Am Go.Proofs
def ef (v proto:Int):Int:=
 if proto=6 then 3 else if proto=17 then 2 else if (v=4/\proto=1)\/(v=6/\proto=58) then 1 else 0
theorem a94 (n:Nat) (v proto:Int):A94 n [.int .i64 v,.int .i64 proto]=some [.int .i64 (ef v proto)]:=by
 show run94 n v proto=_;rw [eq94];unfold ef
 by_cases h6:proto=6
 ·simp [ZY,h6]
 by_cases h17:proto=17
 ·simp [ZY,h17]
 by_cases hv:v=4
 ·by_cases h1:proto=1 <;> simp [ZY,h6,h17,hv,h1]
 ·by_cases hv6:v=6
  ·by_cases h1:proto=58 <;> simp [ZY,h6,h17,hv,hv6,h1]
  ·simp [ZY,h6,h17,hv,hv6]
def zN (p:Pkt):Int:=if p.kind=1\/(qm p).piece=true then 0 else ef (qm p).v (qm p).proto
theorem a57 (n:Nat) (p:Pkt):A57 n [p.av]=some [.int .i64 (zN p)]:=by
 show run57 A55 A94 n p.av=_;rw [eq57];unfold zN
 by_cases h1:p.kind=1
 ·simp [ZY,a55,h1]
 ·cases hp:(qm p).piece <;> simp [ZY,a55,a94,h1,hp]
def qB (p:Pkt):List Int:=if p.kind=2 then p.ip4.data else p.ip6.data
theorem a56 (n:Nat) (p:Pkt):A56 n [p.av]=some [.fs .u8 (qB p)]:=by
 show run56 n p.av=_;rw [eq56];unfold qB
 by_cases h:p.kind=2 <;> simp [ZY,h]
def qD (p:Pkt) (b:List Int):Pkt:=if p.kind=2 then { p with ip4:={ p.ip4 with data:=b } } else { p with ip6:={ p.ip6 with data:=b } }
theorem a54 (n:Nat) (p:Pkt) (b:List Int):A54 n [p.av,.fs .u8 b]=some [(qD p b).av]:=by
 show run54 n p.av b=_;rw [eq54];unfold qD
 by_cases h:p.kind=2 <;> simp [ZY,h]
def vX (k:Int):Int:=if k=1 then 2054 else if k=2 then 2048 else 34525
theorem a66 (n:Nat) (k:Int):A66 n [.int .i64 k]=some [.int .i64 (vX k)]:=by
 show run66 n k=_;rw [eq66];unfold vX
 by_cases h:k=1
 ·simp [ZY,h]
 ·by_cases h2:k=2 <;> simp [ZY,h,h2]
theorem a87 (n:Nat) (k:Int):A87 n [.int .i64 k]=some [.bool (k == 1)]:=eq87 n k
theorem a158 (n:Nat) (b:Bool):A158 n [.bool b]=some [.int .i64 (if b then 1 else 0)]:=by
 show run158 n b=_;rw [eq158]
 cases b <;> rfl
theorem a96 (n:Nat):A96 n []=some [.fs .i64 [8,8,16,32]]:=eq96 n
theorem a137 (n:Nat) (ps:List (List Int)) (hps:∀ p∈ps,Bytes p/\p.length<2 ^ 44) (hl:ps.length<2 ^ 44) (hn:2 ^ 63<n) (hb:Bytes ps.flatten):A137 n [.fv (.fs .u8) (fsL ps)]=some [.int .i64 (65535 - zm ps.flatten)]:=by
 show run137 A127 n (fsL ps)=_;rw [eq137,a127 n ps hps hl hn];have h:=Qt (gj hb true).1;simp only [ZZ];rw [Zp (by unfold zm; omega) (by unfold zm; omega)]
theorem a84 (n:Nat) (ps:List (List Int)) (hps:∀ p∈ps,Bytes p/\p.length<2 ^ 44) (hl:ps.length<2 ^ 44) (hn:2 ^ 63<n):A84 n [.fv (.fs .u8) (fsL ps)]=some [.bool (zm ps.flatten == 65535)]:=by
 show run84 A127 n (fsL ps)=_;rw [eq84,a127 n ps hps hl hn];simp only [ZZ]
def a4 (a:List Int):List Int:=[qk a 0,qk a 1,qk a 2,qk a 3,0,0,0,0,0,0,0,0,0,0,0,0]
def jS (ip:Ip):Int:=if ip.v=6 then 6 else if ip.v≠4 then 0 else if ip.a=a4 ip.a then 4 else 0
theorem nz (a b:List Int):keq (.arr .u8 16 a) (.arr .u8 16 b)=decide (a=b):=by
 show (IntKind.u8 == IntKind.u8 && (Nat.beq 16 16 && a == b))=_;rw [show (IntKind.u8 == IntKind.u8)=true from rfl,show Nat.beq 16 16=true from rfl,Bool.true_and,Bool.true_and];rw [Bool.eq_iff_iff]; simp
theorem a184 (n:Nat) (ip:Ip):A184 n [ip.av]=some [.int .i64 (jS ip)]:=by
 show run184 n ip.av=_;rw [eq184];unfold jS
 by_cases h6:ip.v=6
 ·simp [ZY,h6]
 by_cases h4:ip.v=4
 ·by_cases ha:ip.a=a4 ip.a
  ·have:keq (.arr .u8 16 ip.a) (.arr .u8 16 (a4 ip.a))=true:=by rw [nz]; simpa using ha
   simp only [a4] at this;simp only [ZY,h6,h4,this];simp [<-ha]
  ·have:keq (.arr .u8 16 ip.a) (.arr .u8 16 (a4 ip.a))=false:=by rw [nz]; simpa using ha
   simp only [a4] at this;simp only [ZY,h6,h4,this];simp [ha]
 ·simp [ZY,h6,h4]
def jH (src dst:Ip) (proto k:Int):List Int:=
 if jS src=4 then src.a.take 4++dst.a.take 4++[0,proto % 256,k / 256 % 256,k % 256]
 else src.a.take 16++dst.a.take 16++[0,0,k / 256 % 256,k % 256,0,0,0,proto % 256]
def qG (src dst:Ip) (proto k:Int):List Int × Int:=
 if jS src=0\/jS dst≠jS src then ([],20)
 else if proto<0\/proto > 255\/k<0\/k > 65535 then ([],1)
 else (jH src dst proto k,0)
theorem hi8 {x:Int}:Int.fdiv x (Int.ofNat (2 ^ (Min.min (Int.toNat 8) (IntKind.bits .i64))))=x / 256:=by
 have:Int.ofNat (2 ^ (Min.min (Int.toNat 8) (IntKind.bits .i64)))=256:=by decide
 rw [this,Int.fdiv_eq_ediv_of_nonneg _ (by decide)]
theorem qT {a b:Nat} (h:a<=b):Nat.ble a b=true:=by rw [Nat.ble_eq]; exact h
theorem a139 (n:Nat) (src dst:Ip) (proto k:Int):A139 n [src.av,dst.av,.int .i64 proto,.int .i64 k]=some [.fs .u8 (qG src dst proto k).1,.int .i64 (qG src dst proto k).2]:=by
 show run139 A184 n src.av dst.av proto k=_;rw [eq139];unfold qG;have l4:∀ l:List Int,(l.take 4).length<=4:=fun l=>by rw [List.length_take]; omega
 have l16:∀ l:List Int,(l.take 16).length<=16:=fun l=>by rw [List.length_take]; omega
 by_cases h0:jS src=0
 ·simp [ZY,a184,h0]
 by_cases h1:jS dst=jS src
 ·by_cases h2:proto<0\/proto > 255\/k<0\/k > 65535
  ·rw [if_neg (by simp [h0,h1]),if_pos h2]
   by_cases q1:proto<0
   ·simp [ZY,a184,h0,h1,q1]
   by_cases q2:proto > 255
   ·simp [ZY,a184,h0,h1,q1,q2]
   by_cases q3:k<0
   ·simp [ZY,a184,h0,h1,q1,q2,q3]
   ·have q4:k > 65535:=by omega
    simp [ZY,a184,h0,h1,q1,q2,q3,q4]
  ·rw [if_neg (by simp [h0,h1]),if_neg h2];have q1:¬ proto<0:=by omega
   have q2:¬ proto > 255:=by omega
   have q3:¬ k<0:=by omega
   have q4:¬ k > 65535:=by omega
   have s4:=l4 src.a; have d4:=l4 dst.a; have s16:=l16 src.a; have d16:=l16 dst.a;unfold jH
   by_cases hv:jS src=4
   ·simp only [ZY,a184,h0,h1,q1,q2,q3,q4,hv,List.drop_zero,hi8,W8,List.length_append];simp;omega
   ·simp only [ZY,a184,h0,h1,q1,q2,q3,q4,hv,List.drop_zero,hi8,W8,List.length_append];simp [hv,h0];omega
 ·simp [ZY,a184,h0,h1]
def Ip.Ok (ip:Ip):Prop:=ip.a.length=16/\Bytes ip.a
theorem qQ {x:Int} {l:List Int} (h1:0<=x) (h2:x<=255) (h:Bytes l):Bytes (x::l):=fun y hy=>by
 cases hy with
 | head=>exact ⟨h1,h2⟩
 | tail _ hy=>exact h y hy
theorem qg:Bytes []:=fun y hy=>by cases hy
theorem fB {src dst:Ip} (hs:src.Ok) (hd:dst.Ok) (proto k:Int):Bytes (jH src dst proto k)/\(jH src dst proto k).length<=40:=by
 unfold jH
 split
 ·refine ⟨((hs.2.take 4).app (hd.2.take 4)).app ?_,?_⟩
  ·exact qQ (by omega) (by omega) (qQ (by omega) (by omega) (qQ (by omega) (by omega) (qQ (by omega) (by omega) qg)))
  ·simp only [List.length_append,List.length_take,List.length_cons,List.length_nil]; omega
 ·refine ⟨((hs.2.take 16).app (hd.2.take 16)).app ?_,?_⟩
  ·exact qQ (by omega) (by omega) (qQ (by omega) (by omega) (qQ (by omega) (by omega) (qQ (by omega) (by omega) (qQ (by omega) (by omega) (qQ (by omega) (by omega) (qQ (by omega) (by omega) (qQ (by omega) (by omega) qg)))))))
  ·simp only [List.length_append,List.length_take,List.length_cons,List.length_nil]; omega
theorem a97 (n:Nat) (src dst:Ip):A97 n [src.av,dst.av]=some [.int .i64 (qG src dst 0 0).2]:=by
 show run97 A139 n src.av dst.av=_;rw [eq97];simp only [ZZ,a139]
def good (src dst:Ip) (proto:Int) (b:List Int):Bool:=(qG src dst proto b.length).2 == 0 && zm ((qG src dst proto b.length).1++b) == 65535
theorem a98 (n:Nat) (src dst:Ip) (hs:src.Ok) (hd:dst.Ok) (proto:Int) (b:List Int) (hb:Bytes b) (hl:b.length<2 ^ 44) (hn:2 ^ 63<n):A98 n [src.av,dst.av,.int .i64 proto,.fs .u8 b]=some [.bool (good src dst proto b)]:=by
 show run98 A84 A139 n src.av dst.av proto b=_;rw [eq98];have h139:=a139 n src dst proto (b.length:Nat);simp only [ZZ,Int.ofNat_eq_natCast,h139];unfold good
 have hp:Bytes (qG src dst proto b.length).1/\(qG src dst proto b.length).1.length<2 ^ 44:=by
  unfold qG;have:=fB hs hd proto b.length
  split
  ·exact ⟨qg,by simp⟩
  ·split
   ·exact ⟨qg,by simp⟩
   ·exact ⟨this.1,by show (jH src dst proto b.length).length<_; omega⟩
 have h84:=a84 n [(qG src dst proto b.length).1,b] (fun p hp'=>by
  simp only [List.mem_cons,List.mem_nil_iff,or_false] at hp'
  rcases hp' with rfl | rfl
  ·exact hp
  ·exact ⟨hb,hl⟩) (by simp) hn
 rw [show fsL [(qG src dst proto b.length).1,b]=[.fs .u8 (qG src dst proto b.length).1,.fs .u8 b] from rfl] at h84;simp only [h84,ZZ,List.flatten_cons,List.flatten_nil,List.append_nil]
 cases hq:((qG src dst proto b.length).2 == 0) <;> rfl
def wW (m:Icmp):Int:=
 if m.v≠4/\m.v≠6 then 1
 else if m.type<0\/m.type > 255\/m.code<0\/m.code > 255\/m.rest<0\/m.rest > 4294967295 then 82
 else if 8+m.data.length > 65515 then 2 else 0
theorem a135 (n:Nat) (m:Icmp) (hl:m.data.length<2 ^ 60):A135 n [m.av]=some [.int .i64 (wW m)]:=by
 show run135 n m.av=_;rw [eq135];unfold wW;have hw:IntKind.wrap .i64 (8+Int.ofNat m.data.length)=8+(m.data.length:Int):=qv (by simp; omega) (by simp; omega);have hw2:IntKind.wrap .i64 (8+(m.data.length:Int))=8+(m.data.length:Int):=qv (by omega) (by omega)
 by_cases hv:m.v≠4/\m.v≠6
 ·simp [ZY,hv]
 ·have hv' : m.v=4\/m.v=6:=by omega
  by_cases h1:m.type<0
  ·rcases hv' with h | h <;> simp [ZY,h,h1]
  by_cases h2:m.type > 255
  ·rcases hv' with h | h <;> simp [ZY,h,h1,h2]
  by_cases h3:m.code<0
  ·rcases hv' with h | h <;> simp [ZY,h,h1,h2,h3]
  by_cases h4:m.code > 255
  ·rcases hv' with h | h <;> simp [ZY,h,h1,h2,h3,h4]
  by_cases h5:m.rest<0
  ·rcases hv' with h | h <;> simp [ZY,h,h1,h2,h3,h4,h5]
  by_cases h6:m.rest > 4294967295
  ·rcases hv' with h | h <;> simp [ZY,h,h1,h2,h3,h4,h5,h6]
  by_cases h7:8+m.data.length > 65515
  ·have h7' : (8:Int)+(m.data.length:Int) > 65515:=by omega
   rcases hv' with h | h <;> simp [ZY,h,h1,h2,h3,h4,h5,h6,h7,hw,hw2] <;> omega
  ·rcases hv' with h | h <;> simp [ZY,h,h1,h2,h3,h4,h5,h6,h7,hw,hw2] <;> omega
def zf (v:Int) (src dst:Ip) (k:Int):List Int × Int:=
 if v=4 then ([],0) else if src.v≠6\/dst.v≠6 then ([],20) else qG src dst 58 k
theorem a95 (n:Nat) (v:Int) (src dst:Ip) (k:Int):A95 n [.int .i64 v,src.av,dst.av,.int .i64 k]=some [.fs .u8 (zf v src dst k).1,.int .i64 (zf v src dst k).2]:=by
 show run95 A139 n v src.av dst.av k=_;rw [eq95];unfold zf
 by_cases h4:v=4
 ·simp [ZY,h4]
 by_cases h6:src.v=6
 ·by_cases h6' : dst.v=6
  ·simp [ZY,h4,h6,h6',a139]
  ·simp [ZY,h4,h6,h6']
 ·simp [ZY,h4,h6]
theorem fK {src dst:Ip} (hs:src.Ok) (hd:dst.Ok) (v k:Int):Bytes (zf v src dst k).1/\(zf v src dst k).1.length<=40:=by
 unfold zf
 split
 ·exact ⟨qg,by simp⟩
 ·split
  ·exact ⟨qg,by simp⟩
  ·unfold qG
   split
   ·exact ⟨qg,by simp⟩
   ·split
    ·exact ⟨qg,by simp⟩
    ·exact fB hs hd 58 k
def wS (m:Icmp):List Int:=mkB 8 (zx [(8,m.type),(8,m.code),(16,0),(32,m.rest)])
def mr (src dst:Ip) (m:Icmp):Int:=65535 - zm ((zf m.v src dst (8+m.data.length)).1++(wS m++m.data))
def ki (src dst:Ip) (m:Icmp):List Int:=(((wS m).set 2 (mr src dst m / 256 % 256)).set 3 (mr src dst m % 256))++m.data
def vS (src dst:Ip) (m:Icmp):List Int × Int:=
 if wW m≠0 then ([],wW m)
 else if (zf m.v src dst (8+m.data.length)).2≠0 then ([],(zf m.v src dst (8+m.data.length)).2)
 else (ki src dst m,0)
theorem ju {m:Icmp} (h:wW m=0):(m.v=4\/m.v=6)/\0<=m.type/\m.type<=255/\0<=m.code/\m.code<=255/\0<=m.rest/\m.rest<=4294967295/\m.data.length<=65507:=by
 unfold wW at h
 split at h
 ·cases h
 ·split at h
  ·cases h
  ·split at h
   ·cases h
   ·omega
theorem Zk {x:Int}:Int.fdiv x ((2 ^ (Min.min (Int.toNat 8) (IntKind.bits .i64)):Nat):Int)=x / 256:=hi8
theorem Wi (n:Nat):A123 (n+8) [.fs .i64 (wI [8,8,16,32])]=some [.int .i64 ((8:Nat):Int),.int .i64 0]:=by kernel_rfl
theorem go (m:Icmp):Bytes (wS m)/\(wS m).length=8:=⟨jM (vI _) 8,qR 8 _⟩
theorem a136i (n:Nat) (hn:2 ^ 63<n) (m:Icmp) (h:wW m=0):A136 n [.fs .i64 [8,8,16,32],.fs .i64 [m.type,m.code,0,m.rest]]=some [.fs .u8 (wS m),.int .i64 0]:=by
 obtain ⟨_,h1,h2,h3,h4,h5,h6,_⟩:=ju h;obtain ⟨k,rfl⟩ : ∃ k,n=k+8:=⟨n - 8,by omega⟩;refine a136 (k+8) [(8,m.type),(8,m.code),(16,0),(32,m.rest)] (fun p hp=>?_) 8 rfl (by decide) (by omega) (by show 4<k+8; omega) (by show 4<=64; omega) (Wi k);simp only [List.mem_cons,List.mem_nil_iff,or_false] at hp
 rcases hp with rfl | rfl | rfl | rfl <;> simp <;> omega
theorem bl {l:List Int} (h:Bytes l) (i:Nat) {x:Int} (h1:0<=x) (h2:x<=255):Bytes (l.set i x):=fun y hy=>by
 rcases List.mem_or_eq_of_mem_set hy with h' | rfl
 ·exact h y h'
 ·exact ⟨h1,h2⟩
theorem a91 (n:Nat) (hn:2 ^ 63<n) (src dst:Ip) (hs:src.Ok) (hd:dst.Ok) (m:Icmp) (hb:Bytes m.data) (hl:m.data.length<2 ^ 44):A91 n [src.av,dst.av,m.av]=some [.fs .u8 (vS src dst m).1,.int .i64 (vS src dst m).2]:=by
 show run91 A95 A96 A135 A136 A137 n src.av dst.av m.av=_;rw [eq91];unfold vS;have hw:IntKind.wrap .i64 (8+(m.data.length:Int))=8+(m.data.length:Int):=qv (by omega) (by omega)
 by_cases hc:wW m=0
 ·rw [if_neg (by simpa using hc)];have h136:=a136i n hn m hc
  by_cases hp:(zf m.v src dst (8+m.data.length)).2=0
  ·rw [if_neg (by simpa using hp)];have hpo:=fK hs hd m.v (8+m.data.length);have hho:=go m;have hbig:=(ju hc).2.2.2.2.2.2.2
   have hB:Bytes [(zf m.v src dst (8+m.data.length)).1,wS m,m.data].flatten:=by
    simp only [List.flatten_cons,List.flatten_nil,List.append_nil];exact hpo.1.app (hho.1.app hb)
   have h137:=a137 n [(zf m.v src dst (8+m.data.length)).1,wS m,m.data] (fun p hp'=>by
    simp only [List.mem_cons,List.mem_nil_iff,or_false] at hp'
    rcases hp' with rfl | rfl | rfl
    ·exact ⟨hpo.1,by omega⟩
    ·exact ⟨hho.1,by omega⟩
    ·exact ⟨hb,hl⟩) (by simp) hn hB
   rw [show fsL [(zf m.v src dst (8+m.data.length)).1,wS m,m.data]=[.fs .u8 (zf m.v src dst (8+m.data.length)).1,.fs .u8 (wS m),.fs .u8 m.data] from rfl] at h137;simp only [List.flatten_cons,List.flatten_nil,List.append_nil] at h137;simp only [ZZ,a135 n m (by omega),hc,Int.ofNat_eq_natCast,hw,a95,hp,a96,h136,h137,show ((0:Int) != 0)=false from rfl];have hlen:((wS m).set 2 (IntKind.wrap .u8 (Int.fdiv (65535 - zm ((zf m.v src dst (8+m.data.length)).1++(wS m++m.data))) (Int.ofNat (2 ^ (Min.min (Int.toNat 8) (IntKind.bits .i64))))))).length=8:=by rw [List.length_set]; exact hho.2
   rw [hho.2,show inR 2 8=true from rfl];simp only [ZZ,List.length_set,hho.2,show inR 3 8=true from rfl];rw [qp (qT (by omega)),Zk,W8,W8];rfl
  ·rw [if_pos (by simpa using hp)];simp only [ZZ,a135 n m (by omega),hc,Int.ofNat_eq_natCast,hw,a95,show ((0:Int) != 0)=false from rfl];rw [qp (by simpa using hp)]
 ·rw [if_pos (by simpa using hc)];simp only [ZZ,a135 n m (by omega)];rw [qp (by simpa using hc)]
def nM (v:Int) (b:List Int):Icmp:=⟨v,fld b 0 8,fld b 8 8,fld b 32 32,b.drop 8⟩
def wv (v:Int) (src dst:Ip) (b:List Int):Icmp × Int:=
 if b.length > 65515 then (Icmp.z,2)
 else if v≠4/\v≠6 then (Icmp.z,1)
 else if (zf v src dst b.length).2≠0 then (Icmp.z,(zf v src dst b.length).2)
 else if b.length<8 then (Icmp.z,80)
 else if zm ((zf v src dst b.length).1++b)≠65535 then (Icmp.z,81)
 else (nM v b,0)
theorem a83i (n:Nat) (hn:2 ^ 63<n) (b:List Int) (hb:Bytes b) (hl:8<=b.length) (hl2:b.length<2 ^ 60):A83 n [.fs .u8 b,.int .i64 0,.fs .i64 [8,8,16,32]]=some [.fs .i64 [fld b 0 8,fld b 8 8,fld b 16 16,fld b 32 32],.int .i64 8,.int .i64 0]:=by
 obtain ⟨k,rfl⟩ : ∃ k,n=k+8:=⟨n - 8,by omega⟩;exact a83 (k+8) b 0 [8,8,16,32] (by unfold WOk; decide) 8 rfl (by decide) (by omega) (by show 4<k+8; omega) (by decide) (by omega) hl2 hb (Wi k)
theorem a58 (n:Nat) (hn:2 ^ 63<n) (v:Int) (src dst:Ip) (hs:src.Ok) (hd:dst.Ok) (b:List Int) (hb:Bytes b) (hl:b.length<2 ^ 44):A58 n [.int .i64 v,src.av,dst.av,.fs .u8 b]=some [(wv v src dst b).1.av,.int .i64 (wv v src dst b).2]:=by
 show run58 A83 A84 A95 A96 n v src.av dst.av b=_;rw [eq58];unfold wv
 by_cases h1:b.length > 65515
 ·have h1' : (b.length:Int) > 65515:=by omega
  simp [ZY,h1,h1',Icmp.z]
 have h1' : ¬ (b.length:Int) > 65515:=by omega
 by_cases h2:v≠4/\v≠6
 ·simp [ZY,h1,h1',h2,Icmp.z]
 have hv:v=4\/v=6:=by omega
 rw [if_neg h1,if_neg h2];have h95:=a95 n v src dst b.length
 by_cases hp:(zf v src dst b.length).2=0
 ·rw [if_neg (by simpa using hp)]
  by_cases h8:b.length<8
  ·have h8' : (b.length:Int)<8:=by omega
   rw [if_pos h8]
   rcases hv with h | h <;> subst h <;> simp [ZY,h1',h95,hp,h8',Icmp.z]
  ·have h8' : ¬ (b.length:Int)<8:=by omega
   rw [if_neg h8];have hpo:=fK hs hd v b.length
   have h84:=a84 n [(zf v src dst b.length).1,b] (fun p hp'=>by
    simp only [List.mem_cons,List.mem_nil_iff,or_false] at hp'
    rcases hp' with rfl | rfl
    ·exact ⟨hpo.1,by omega⟩
    ·exact ⟨hb,hl⟩) (by simp) hn
   rw [show fsL [(zf v src dst b.length).1,b]=[.fs .u8 (zf v src dst b.length).1,.fs .u8 b] from rfl] at h84;simp only [List.flatten_cons,List.flatten_nil,List.append_nil] at h84;have h83:=a83i n hn b hb (by omega) (by omega)
   by_cases hs16:zm ((zf v src dst b.length).1++b)=65535
   ·rw [if_neg (by simpa using hs16)];have c8:(8:Int)<=(b.length:Int):=by omega
    have ht:List.take (b.length - 8) (List.drop 8 b)=List.drop 8 b:=List.take_of_length_le (by simp)
    rcases hv with h | h <;> subst h <;> simp [ZY,h1',h95,hp,h8',h84,hs16,a96,h83,inR,qk,nM,c8,ht]
   ·rw [if_pos (by simpa using hs16)]
    rcases hv with h | h <;> subst h <;> simp [ZY,h1',h95,hp,h8',h84,hs16,Icmp.z]
 ·rw [if_pos (by simpa using hp)]
  rcases hv with h | h <;> subst h <;> simp [ZY,h1',h95,hp,Icmp.z]
theorem oR {S:Int} (h:0<=S):fd (S+(65535 - fd S))=65535:=by
 unfold fd
 by_cases h0:S=0
 ·rw [if_pos h0,h0]; decide
 ·rw [if_neg h0,if_neg (by omega)]; omega
theorem Zl {l:List Int}:∀ b,hi b l=if l.length % 2=0 then b else !b:=by
 induction l with
 | nil=>intro b; rfl
 | cons x l ih=>
  intro b;rw [hi,ih,List.length_cons]
  by_cases h:l.length % 2=0
  ·rw [if_pos h,if_neg (by omega)]
  ·rw [if_neg h,if_pos (by omega),Bool.not_not]
theorem bQ (l m:List Int) (h:l.length % 2=0):vN true (l++m)=vN true l+vN true m:=by
 rw [dk,Zl,if_pos h]
theorem bB (l m:List Int) (c:Int) (h:l.length % 2=0) (hc:0<=c) (hc2:c<=65535):vN true (l++(c / 256 % 256::c % 256::m))=vN true (l++(0::0::m))+c:=by
 rw [bQ l _ h,bQ l _ h];simp only [vN];omega
theorem uE (l m:List Int) (h:l.length % 2=0) (hB:Bytes (l++(0::0::m))):zm (l++((65535 - zm (l++(0::0::m))) / 256 % 256::(65535 - zm (l++(0::0::m))) % 256::m))=65535:=by
 have h0:=(gj hB true).1;have hr:=Qt h0;have h1:0<=65535 - zm (l++(0::0::m)):=by unfold zm; omega
 have h2:65535 - zm (l++(0::0::m))<=65535:=by unfold zm; omega
 generalize hc:65535 - zm (l++(0::0::m))=c at h1 h2 ⊢;unfold zm;rw [bB l m c h h1 h2,<-hc];exact oR h0
def qF (m:Icmp):List Int:=zx [(8,m.type),(8,m.code),(16,0),(32,m.rest)]
theorem gv (m:Icmp):wS m=[qn (qF m) 0,qn (qF m) 1,0,0,qn (qF m) 4,qn (qF m) 5,qn (qF m) 6,qn (qF m) 7]:=by
 have h2:qn (qF m) 2=0:=by rfl
 have h3:qn (qF m) 3=0:=by rfl
 show [qn (qF m) 0,qn (qF m) 1,qn (qF m) 2,qn (qF m) 3,qn (qF m) 4,qn (qF m) 5,qn (qF m) 6,qn (qF m) 7]=_;rw [h2,h3]
theorem xN (src dst:Ip) (m:Icmp):ki src dst m=qn (qF m) 0::qn (qF m) 1::mr src dst m / 256 % 256::mr src dst m % 256::qn (qF m) 4::qn (qF m) 5::qn (qF m) 6::qn (qF m) 7::m.data:=by
 unfold ki;rw [gv];rfl
theorem nf {src dst:Ip} (hs:src.Ok) (hd:dst.Ok) (v k:Int):(zf v src dst k).1.length % 2=0:=by
 unfold zf
 split
 ·rfl
 ·split
  ·rfl
  ·unfold qG
   split
   ·rfl
   ·split
    ·rfl
    ·show (jH src dst 58 k).length % 2=0;unfold jH;have h1:=hs.1; have h2:=hd.1
     split <;> simp [h1,h2]
theorem oE {src dst:Ip} (hs:src.Ok) (hd:dst.Ok) (m:Icmp) (hb:Bytes m.data):zm ((zf m.v src dst (8+m.data.length)).1++ki src dst m)=65535:=by
 have he:=nf hs hd m.v (8+m.data.length);have hp:=fK hs hd m.v (8+m.data.length);have hh:=(go m).1;rw [gv] at hh;have:=uE ((zf m.v src dst (8+m.data.length)).1++[qn (qF m) 0,qn (qF m) 1]) (qn (qF m) 4::qn (qF m) 5::qn (qF m) 6::qn (qF m) 7::m.data) (by simp; omega)
  (by
   rw [List.append_assoc]
   exact hp.1.app (hh.app hb))
 rw [xN];unfold mr;rw [gv];simp only [List.append_assoc,List.cons_append,List.nil_append] at this ⊢;exact this
theorem jx {w t:Nat} (v:Int) (h:t<w):qk (wU w v) t=v / 2 ^ (w - 1 - t) % 2:=by
 unfold qk wU;simp [List.getD_eq_getElem?_getD,h]
theorem sC (src dst:Ip) (m:Icmp) {i:Nat} (h:i<8) (h2:i≠2) (h3:i≠3):qk (ki src dst m) i=qn (qF m) i:=by
 rw [xN]
 match i,h with
 | 0,_=>rfl
 | 1,_=>rfl
 | 2,_=>exact absurd rfl h2
 | 3,_=>exact absurd rfl h3
 | 4,_=>rfl
 | 5,_=>rfl
 | 6,_=>rfl
 | 7,_=>rfl
theorem mI (src dst:Ip) (m:Icmp) {j:Nat} (h:j<16\/(32<=j/\j<64)):jy (ki src dst m) j=qk (qF m) j:=by
 refine Eq.trans ?_ (pJ (bs:=qF m) (k:=8) (vI _) (show j<8 * 8 by omega));unfold jy;rw [sC src dst m (by omega) (by omega) (by omega),me _ (by omega)]
theorem iE {m:Icmp} (src dst:Ip) (h:wW m=0):nM m.v (ki src dst m)=m:=by
 obtain ⟨_,h1,h2,h3,h4,h5,h6,_⟩:=ju h
 have e0:fld (ki src dst m) 0 8=m.type:=xC h1 (by omega) (fun t ht=>by
  rw [mI src dst m (by omega),qF,zx,zk,if_pos (by rw [qV]; omega),Nat.zero_add,jx _ ht])
 have e1:fld (ki src dst m) 8 8=m.code:=xC h3 (by omega) (fun t ht=>by
  rw [mI src dst m (by omega),qF,zx,zk,if_neg (by rw [qV]; omega),zx,zk,if_pos (by rw [qV,qV]; omega),qV,Nat.add_sub_cancel_left,jx _ ht])
 have e3:fld (ki src dst m) 32 32=m.rest:=xC h5 (by omega) (fun t ht=>by
  rw [mI src dst m (by omega),qF,zx,zk,if_neg (by rw [qV]; omega),zx,zk,if_neg (by rw [qV,qV]; omega),zx,zk,if_neg (by rw [qV,qV,qV]; omega),zx,zk,if_pos (by rw [qV,qV,qV,qV]; omega),qV,qV,qV,
   show 32+t - 8 - 8 - 16=t by omega,jx _ ht])
 unfold nM;rw [e0,e1,e3,xN];rfl
theorem sK {m:Icmp} {src dst:Ip} (hs:src.Ok) (hd:dst.Ok) (hb:Bytes m.data) (h:(vS src dst m).2=0):wv m.v src dst (vS src dst m).1=(m,0):=by
 unfold vS at h ⊢
 by_cases hc:wW m=0
 ·rw [if_neg (by simpa using hc)] at h ⊢
  by_cases hp:(zf m.v src dst (8+m.data.length)).2=0
  ·rw [if_neg (by simpa using hp)];have hck:=ju hc;have hl:(ki src dst m).length=8+m.data.length:=by rw [xN]; simp; omega
   have hl' : ((ki src dst m).length:Int)=8+(m.data.length:Int):=by omega
   have hsum:=oE hs hd m hb
   show wv m.v src dst (ki src dst m)=_;unfold wv;rw [if_neg (by omega),if_neg (by omega),hl',if_neg (by simpa using hp),if_neg (by omega),if_neg (by simpa using hsum),iE src dst hc]
  ·rw [if_pos (by simpa using hp)] at h;exact absurd h hp
 ·rw [if_pos (by simpa using hc)] at h;exact absurd h hc
theorem a183 (n:Nat) (x h:Int):A183 n [.int .i64 x,.int .i64 h]=some [.bool (decide (x<0\/x > h))]:=by
 show run183 n x h=_;rw [eq183]
 by_cases h0:x<0
 ·simp [ZY,h0]
 ·by_cases h1:x > h <;> simp [ZY,h0,h1]
def vP (v:Int) (u:Udp):Int:=
 if v≠4/\v≠6 then 20
 else if (u.sport<0\/u.sport > 65535)\/(u.dport<0\/u.dport > 65535)\/(u.nosum=true/\v=6) then 98
 else if u.data.length > 65527 then 2 else 0
theorem a138 (n:Nat) (v:Int) (u:Udp):A138 n [.int .i64 v,u.av]=some [.int .i64 (vP v u)]:=by
 show run138 A183 n v u.av=_;rw [eq138];unfold vP
 by_cases hv:v≠4/\v≠6
 ·simp [ZY,hv]
 rw [if_neg hv];have hv' : v=4\/v=6:=by omega
 by_cases h1:u.sport<0\/u.sport > 65535
 ·rcases hv' with h | h <;> subst h <;> simp [ZY,a183,h1]
 by_cases h2:u.dport<0\/u.dport > 65535
 ·rcases hv' with h | h <;> subst h <;> simp [ZY,a183,h1,h2]
 by_cases h3:u.data.length > 65527
 ·have h3' : (u.data.length:Int) > 65527:=by omega
  rcases hv' with h | h <;> subst h <;> cases hn:u.nosum <;> simp [ZY,a183,h1,h2,h3,h3',hn]
 ·have h3' : ¬ (u.data.length:Int) > 65527:=by omega
  rcases hv' with h | h <;> subst h <;> cases hn:u.nosum <;> simp [ZY,a183,h1,h2,h3,h3',hn]
theorem yv {v:Int} {u:Udp} (h:vP v u=0):(v=4\/v=6)/\0<=u.sport/\u.sport<=65535/\0<=u.dport/\u.dport<=65535/\¬ (u.nosum=true/\v=6)/\u.data.length<=65527:=by
 unfold vP at h
 split at h
 ·cases h
 ·split at h
  ·cases h
  ·split at h
   ·cases h
   ·rename_i h1 h2 h3;refine ⟨by omega,by omega,by omega,by omega,by omega,fun hx=>h2 (.inr (.inr hx)),by omega⟩
def zB (u:Udp):List Int:=mkB 8 (zx [(16,u.sport),(16,u.dport),(16,8+(u.data.length:Int)),(16,0)])
def jQ (src dst:Ip) (u:Udp):Int:=
 if 65535 - zm ((qG src dst 17 (8+u.data.length)).1++(zB u++u.data))=0 then 65535 else 65535 - zm ((qG src dst 17 (8+u.data.length)).1++(zB u++u.data))
def su (src dst:Ip) (u:Udp):List Int:=
 if u.nosum=true then zB u++u.data else ((zB u++u.data).set 6 (jQ src dst u / 256 % 256)).set 7 (jQ src dst u % 256)
def kc (src dst:Ip) (u:Udp):List Int × Int:=
 if (qG src dst 0 0).2≠0 then ([],(qG src dst 0 0).2)
 else if vP src.v u≠0 then ([],vP src.v u)
 else (su src dst u,0)
theorem ft (u:Udp):Bytes (zB u)/\(zB u).length=8:=⟨jM (vI _) 8,qR 8 _⟩
theorem Wr (n:Nat):A123 (n+8) [.fs .i64 (wI [16,16,16,16])]=some [.int .i64 ((8:Nat):Int),.int .i64 0]:=by kernel_rfl
theorem a136u (n:Nat) (hn:2 ^ 63<n) (v:Int) (u:Udp) (h:vP v u=0):A136 n [.fs .i64 [16,16,16,16],.fs .i64 [u.sport,u.dport,8+(u.data.length:Int),0]]=some [.fs .u8 (zB u),.int .i64 0]:=by
 obtain ⟨_,h1,h2,h3,h4,_,h6⟩:=yv h;obtain ⟨k,rfl⟩ : ∃ k,n=k+8:=⟨n - 8,by omega⟩;refine a136 (k+8) [(16,u.sport),(16,u.dport),(16,8+(u.data.length:Int)),(16,0)] (fun p hp=>?_) 8 rfl (by decide) (by omega) (by show 4<k+8; omega) (by show 4<=64; omega) (Wr k);simp only [List.mem_cons,List.mem_nil_iff,or_false] at hp
 rcases hp with rfl | rfl | rfl | rfl <;> simp <;> omega
theorem yY {src dst:Ip} (hs:src.Ok) (hd:dst.Ok) (p k:Int):Bytes (qG src dst p k).1/\(qG src dst p k).1.length<=40:=by
 unfold qG
 split
 ·exact ⟨qg,by simp⟩
 ·split
  ·exact ⟨qg,by simp⟩
  ·exact fB hs hd p k
theorem a92 (n:Nat) (hn:2 ^ 63<n) (src dst:Ip) (hs:src.Ok) (hd:dst.Ok) (u:Udp) (hb:Bytes u.data) (hl:u.data.length<2 ^ 44):A92 n [src.av,dst.av,u.av]=some [.fs .u8 (kc src dst u).1,.int .i64 (kc src dst u).2]:=by
 show run92 A97 A136 A137 A138 A139 n src.av dst.av u.av=_;rw [eq92];unfold kc;have hw:IntKind.wrap .i64 (8+(u.data.length:Int))=8+(u.data.length:Int):=qv (by omega) (by omega)
 by_cases hp:(qG src dst 0 0).2=0
 ·rw [if_neg (by simpa using hp)]
  by_cases hc:vP src.v u=0
  ·rw [if_neg (by simpa using hc)];have h136:=a136u n hn src.v u hc;have hho:=ft u;have hbig:=(yv hc).2.2.2.2.2.2;have hpo:=yY hs hd 17 (8+u.data.length);have hlen:(zB u++u.data).length=8+u.data.length:=by rw [List.length_append,hho.2]
   have hlen' : (((zB u++u.data).length:Nat):Int)=8+(u.data.length:Int):=by omega
   have hB:Bytes [(qG src dst 17 (8+u.data.length)).1,zB u++u.data].flatten:=by
    simp only [List.flatten_cons,List.flatten_nil,List.append_nil];exact hpo.1.app (hho.1.app hb)
   have h137:=a137 n [(qG src dst 17 (8+u.data.length)).1,zB u++u.data] (fun p hp'=>by
    simp only [List.mem_cons,List.mem_nil_iff,or_false] at hp'
    rcases hp' with rfl | rfl
    ·exact ⟨hpo.1,by omega⟩
    ·exact ⟨hho.1.app hb,by omega⟩) (by simp) hn hB
   rw [show fsL [(qG src dst 17 (8+u.data.length)).1,zB u++u.data]=[.fs .u8 (qG src dst 17 (8+u.data.length)).1,.fs .u8 (zB u++u.data)] from rfl] at h137;simp only [List.flatten_cons,List.flatten_nil,List.append_nil] at h137;simp only [ZZ,a97,hp,show ((0:Int) == 0)=true from rfl,show ((0:Int) != 0)=false from rfl,a138,hc,Int.ofNat_eq_natCast,hw,h136];rw [qp (qT (by rw [hho.2]; omega))];unfold su
   cases hns:u.nosum with
   | true=>simp only [ZZ,if_true]
   | false=>
    simp only [ZZ,hlen',a139,h137];unfold jQ
    by_cases h0:65535 - zm ((qG src dst 17 (8+u.data.length)).1++(zB u++u.data))=0
    ·simp only [h0,ZZ,show ((0:Int) == 0)=true from rfl];rw [show inR 6 (zB u++u.data).length=true from ql (i:=6) (by omega)];simp only [ZZ,List.length_set];rw [show inR 7 (zB u++u.data).length=true from ql (i:=7) (by omega)];simp only [ZZ,Zk,W8,if_true];rfl
    ·rw [qi (by simpa using h0)];simp only [ZZ];rw [show inR 6 (zB u++u.data).length=true from ql (i:=6) (by omega)];simp only [ZZ,List.length_set];rw [show inR 7 (zB u++u.data).length=true from ql (i:=7) (by omega)];simp only [ZZ,Zk,W8,if_neg h0];rfl
  ·rw [if_pos (by simpa using hc)];simp only [ZZ,a97,hp,show ((0:Int) == 0)=true from rfl,a138];rw [qp (by simpa using hc)]
 ·rw [if_pos (by simpa using hp)];simp only [ZZ,a97];rw [qi (by simpa using hp)];simp only [ZZ];rw [qp (by simpa using hp)]
def wa (src dst:Ip) (b:List Int):Udp × Int:=
 if b.length > 65535 then (Udp.z,2)
 else if (qG src dst 0 0).2≠0 then (Udp.z,(qG src dst 0 0).2)
 else if b.length<8 then (Udp.z,91)
 else if fld b 32 16<8\/fld b 32 16 > b.length then (Udp.z,92)
 else if (fld b 48 16=0/\src.v=6)\/(fld b 48 16≠0/\good src dst 17 (b.take (fld b 32 16).toNat)=false) then (Udp.z,93)
 else (⟨fld b 0 16,fld b 16 16,fld b 48 16 == 0,(b.take (fld b 32 16).toNat).drop 8⟩,0)
theorem a83u (n:Nat) (hn:2 ^ 63<n) (b:List Int) (hb:Bytes b) (hl:8<=b.length) (hl2:b.length<2 ^ 60):A83 n [.fs .u8 b,.int .i64 0,.fs .i64 [16,16,16,16]]=some [.fs .i64 [fld b 0 16,fld b 16 16,fld b 32 16,fld b 48 16],.int .i64 8,.int .i64 0]:=by
 obtain ⟨k,rfl⟩ : ∃ k,n=k+8:=⟨n - 8,by omega⟩;exact a83 (k+8) b 0 [16,16,16,16] (by unfold WOk; decide) 8 rfl (by decide) (by omega) (by show 4<k+8; omega) (by decide) (by omega) hl2 hb (Wr k)
theorem a59 (n:Nat) (hn:2 ^ 63<n) (src dst:Ip) (hs:src.Ok) (hd:dst.Ok) (b:List Int) (hb:Bytes b) (hl:b.length<2 ^ 44):A59 n [src.av,dst.av,.fs .u8 b]=some [(wa src dst b).1.av,.int .i64 (wa src dst b).2]:=by
 show run59 A83 A97 A98 n src.av dst.av b=_;rw [eq59];unfold wa
 by_cases h1:b.length > 65535
 ·have h1' : (b.length:Int) > 65535:=by omega
  simp [ZY,h1,h1',Udp.z]
 have h1' : ¬ (b.length:Int) > 65535:=by omega
 rw [if_neg h1]
 by_cases hp:(qG src dst 0 0).2=0
 ·rw [if_neg (by simpa using hp)]
  by_cases h8:b.length<8
  ·have h8' : (b.length:Int)<8:=by omega
   simp [ZY,h1',a97,hp,h8,h8',Udp.z]
  have h8' : ¬ (b.length:Int)<8:=by omega
  rw [if_neg h8];have h83:=a83u n hn b hb (by omega) (by omega)
  by_cases h9:fld b 32 16<8\/fld b 32 16 > b.length
  ·rw [if_pos h9]
   by_cases h10:fld b 32 16<8
   ·simp [ZY,h1',a97,hp,h8',h83,inR,qk,h10,Udp.z]
   ·have h11:fld b 32 16 > b.length:=by omega
    simp [ZY,h1',a97,hp,h8',h83,inR,qk,h10,h11,Udp.z]
  ·rw [if_neg h9];have h10:¬ fld b 32 16<8:=by omega
   have h11:¬ fld b 32 16 > b.length:=by omega
   have c0:(0:Int)<=fld b 32 16:=by omega
   have c1:fld b 32 16<=b.length:=by omega
   have c8:(8:Int)<=fld b 32 16:=by omega
   have h98:=a98 n src dst hs hd 17 (b.take (fld b 32 16).toNat) (hb.take _) (by rw [List.length_take]; omega) hn
   by_cases hz:fld b 48 16=0
   ·by_cases h6:src.v=6
    ·simp [ZY,h1',a97,hp,h8',h83,inR,qk,h10,h11,hz,h6,c0,c1,Udp.z]
    ·simp [ZY,h1',a97,hp,h8',h83,inR,qk,h10,h11,hz,h6,c0,c1,c8,Udp.z,List.drop_take]
   ·cases hg:good src dst 17 (b.take (fld b 32 16).toNat) with
    | true=>simp [ZY,h1',a97,hp,h8',h83,inR,qk,h10,h11,hz,c0,c1,c8,h98,hg,Udp.z,List.drop_take]
    | false=>simp [ZY,h1',a97,hp,h8',h83,inR,qk,h10,h11,hz,c0,c1,h98,hg,Udp.z]
 ·rw [if_pos (by simpa using hp)];simp [ZY,h1',a97,hp,Udp.z]
def qL (u:Udp):List Int:=zx [(16,u.sport),(16,u.dport),(16,8+(u.data.length:Int)),(16,0)]
theorem xu (u:Udp):zB u=[qn (qL u) 0,qn (qL u) 1,qn (qL u) 2,qn (qL u) 3,qn (qL u) 4,qn (qL u) 5,0,0]:=by
 have h2:qn (qL u) 6=0:=by rfl
 have h3:qn (qL u) 7=0:=by rfl
 show [qn (qL u) 0,qn (qL u) 1,qn (qL u) 2,qn (qL u) 3,qn (qL u) 4,qn (qL u) 5,qn (qL u) 6,qn (qL u) 7]=_;rw [h2,h3]
def gE (u:Udp) (x y:Int):List Int:=qn (qL u) 0::qn (qL u) 1::qn (qL u) 2::qn (qL u) 3::qn (qL u) 4::qn (qL u) 5::x::y::u.data
theorem nF (src dst:Ip) (u:Udp):su src dst u=if u.nosum=true then gE u 0 0 else gE u (jQ src dst u / 256 % 256) (jQ src dst u % 256):=by
 unfold su;rw [xu];rfl
theorem aj (u:Udp) (x y:Int) {i:Nat} (h:i<6):qk (gE u x y) i=qn (qL u) i:=by
 match i,h with
 | 0,_=>rfl
 | 1,_=>rfl
 | 2,_=>rfl
 | 3,_=>rfl
 | 4,_=>rfl
 | 5,_=>rfl
theorem cT (u:Udp) (x y:Int) {j:Nat} (h:j<48):jy (gE u x y) j=qk (qL u) j:=by
 refine Eq.trans ?_ (pJ (bs:=qL u) (k:=8) (vI _) (show j<8 * 8 by omega));unfold jy;rw [aj u x y (by omega),me _ (by omega)]
theorem oW (u:Udp) (x y:Int) (h1:0<=u.sport) (h2:u.sport<=65535) (h3:0<=u.dport) (h4:u.dport<=65535) (h5:u.data.length<=65527) :
  fld (gE u x y) 0 16=u.sport/\fld (gE u x y) 16 16=u.dport/\fld (gE u x y) 32 16=8+(u.data.length:Int):=by
 refine ⟨xC h1 (by omega) (fun t ht=>?_),xC h3 (by omega) (fun t ht=>?_),xC (by omega) (by omega) (fun t ht=>?_)⟩
 ·rw [cT u x y (by omega),qL,zx,zk,if_pos (by rw [qV]; omega),Nat.zero_add,jx _ ht]
 ·rw [cT u x y (by omega),qL,zx,zk,if_neg (by rw [qV]; omega),zx,zk,if_pos (by rw [qV,qV]; omega),qV,Nat.add_sub_cancel_left,jx _ ht]
 ·rw [cT u x y (by omega),qL,zx,zk,if_neg (by rw [qV]; omega),zx,zk,if_neg (by rw [qV,qV]; omega),zx,zk,if_pos (by rw [qV,qV,qV]; omega),qV,qV,
   show 32+t - 16 - 16=t by omega,jx _ ht]
theorem pL {src dst:Ip} (hs:src.Ok) (hd:dst.Ok) (p k:Int):(qG src dst p k).1.length % 2=0:=by
 unfold qG
 split
 ·rfl
 ·split
  ·rfl
  ·show (jH src dst p k).length % 2=0;unfold jH;have h1:=hs.1; have h2:=hd.1
   split <;> simp [h1,h2]
theorem aC (l m:List Int) (h:l.length % 2=0) (hB:Bytes (l++(0::0::m))) (c:Int) (hc:c=if 65535 - zm (l++(0::0::m))=0 then 65535 else 65535 - zm (l++(0::0::m))):zm (l++(c / 256 % 256::c % 256::m))=65535:=by
 have h0:=(gj hB true).1;have hr:=Qt h0
 by_cases hz:65535 - zm (l++(0::0::m))=0
 ·rw [if_pos hz] at hc;subst hc;unfold zm at hz ⊢;rw [bB l m 65535 h (by decide) (by decide)];unfold fd at hz ⊢
  split at hz
  ·omega
  ·rw [if_neg (by omega)]; omega
 ·rw [if_neg hz] at hc;rw [hc];exact uE l m h hB
theorem Ka {src dst:Ip} (hs:src.Ok) (hd:dst.Ok) (u:Udp) (hb:Bytes u.data):zm ((qG src dst 17 (8+u.data.length)).1++gE u (jQ src dst u / 256 % 256) (jQ src dst u % 256))=65535:=by
 have he:=pL hs hd 17 (8+u.data.length);have hp:=yY hs hd 17 (8+u.data.length);have hh:=(ft u).1;rw [xu] at hh;have hc:jQ src dst u=_:=rfl;unfold jQ at hc;rw [xu] at hc;have:=aC ((qG src dst 17 (8+u.data.length)).1++[qn (qL u) 0,qn (qL u) 1,qn (qL u) 2,qn (qL u) 3,qn (qL u) 4,qn (qL u) 5]) u.data (by simp; omega)
  (by
   rw [List.append_assoc]
   exact hp.1.app (hh.app hb)) (jQ src dst u) (by
   simp only [List.append_assoc,List.cons_append,List.nil_append] at hc ⊢;unfold jQ;rw [xu]
   rfl)
 simp only [List.append_assoc,List.cons_append,List.nil_append] at this;exact this
theorem dm {src dst:Ip} (h:(qG src dst 0 0).2=0) {p k:Int} (hp:0<=p) (hp2:p<=255) (hk:0<=k) (hk2:k<=65535):(qG src dst p k).2=0:=by
 unfold qG at h ⊢
 split at h
 ·cases h
 ·rename_i hv;rw [if_neg hv,if_neg (by omega)]
theorem Za (l:List Int) (j a b:Nat):fld l j (a+b)=fld l j a * 2 ^ b+fld l (j+a) b:=by
 induction b with
 | zero=>simp [fld]
 | succ b ih=>
  rw [<-Nat.add_assoc,fld,ih,fld,Int.pow_succ,<-Nat.add_assoc j a b];generalize fld l (j+a) b=y;generalize jy l (j+a+b)=z;generalize fld l j a=x;rw [Int.mul_add,Int.add_assoc,Int.mul_comm 2,Int.mul_assoc]
theorem Jx {l:List Int} (hB:Bytes l) (i:Nat):fld l (8 * i) 8=qk l i:=by
 have h:=hB.get i;refine xC h.1 (by omega) (fun t ht=>?_);unfold jy;rw [show (8 * i+t) / 8=i by omega,show (8 * i+t) % 8=t by omega]
theorem Wt {l:List Int} (hB:Bytes l) (i:Nat):fld l (8 * i) 16=qk l i * 256+qk l (i+1):=by
 rw [show (16:Nat)=8+8 from rfl,Za,Jx hB,show 8 * i+8=8 * (i+1) by omega,Jx hB];rfl
theorem rc (u:Udp) (x y:Int):(gE u x y).length=8+u.data.length:=by simp [gE]; omega
theorem nJ (u:Udp) (hb:Bytes u.data) {x y:Int} (hx:0<=x/\x<=255) (hy:0<=y/\y<=255):Bytes (gE u x y):=by
 have h:=fun i=>dg (vI [(16,u.sport),(16,u.dport),(16,8+(u.data.length:Int)),(16,0)]) i
 unfold gE;exact qQ (h 0).1 (h 0).2 (qQ (h 1).1 (h 1).2 (qQ (h 2).1 (h 2).2 (qQ (h 3).1 (h 3).2 (qQ (h 4).1 (h 4).2 (qQ (h 5).1 (h 5).2 (qQ hx.1 hx.2 (qQ hy.1 hy.2 hb)))))))
theorem bd (u:Udp) (hb:Bytes u.data) {x y:Int} (hx:0<=x/\x<=255) (hy:0<=y/\y<=255):fld (gE u x y) 48 16=x * 256+y:=by
 rw [show (48:Nat)=8 * 6 from rfl,Wt (nJ u hb hx hy)];rfl
theorem VQ {src dst:Ip} (hs:src.Ok) (hd:dst.Ok) (u:Udp) (hb:Bytes u.data):0<jQ src dst u/\jQ src dst u<=65535:=by
 have hp:=yY hs hd 17 (8+u.data.length);have hr:=Qt (gj (hp.1.app ((ft u).1.app hb)) true).1;unfold jQ;unfold zm
 split <;> omega
theorem aX {u:Udp} {src dst:Ip} (hs:src.Ok) (hd:dst.Ok) (hb:Bytes u.data) (h:(kc src dst u).2=0):wa src dst (kc src dst u).1=(u,0):=by
 unfold kc at h ⊢
 by_cases hp:(qG src dst 0 0).2=0
 ·rw [if_neg (by simpa using hp)] at h ⊢
  by_cases hc:vP src.v u=0
  ·rw [if_neg (by simpa using hc)];obtain ⟨hv,h1,h2,h3,h4,hn,h5⟩:=yv hc
   show wa src dst (su src dst u)=_;rw [nF];have hf:=fun x y=>oW u x y h1 h2 h3 h4 h5
   have hl:=fun x y=>rc u x y
   have ht:∀ x y,(gE u x y).take (8+(u.data.length:Int)).toNat=gE u x y:=fun x y=>List.take_of_length_le (by rw [hl]; omega)
   cases hns:u.nosum with
   | true=>
    rw [if_pos rfl];have hw:=bd u hb (x:=0) (y:=0) (by decide) (by decide);have hl0:=hl 0 0;unfold wa
    rw [if_neg (by omega),if_neg (by simpa using hp),if_neg (by omega),(hf 0 0).2.2,if_neg (by omega),hw,if_neg (by
     intro hx
     rcases hx with hx | hx
     ·exact hn ⟨hns,hx.2⟩
     ·exact hx.1 (by decide)),(hf 0 0).1,(hf 0 0).2.1,ht]
    show ((⟨u.sport,u.dport,true,u.data⟩ : Udp),(0:Int))=_;rw [<-hns]
   | false=>
    rw [if_neg (by decide)];have hcr:=VQ hs hd u hb;have hsum:=Ka hs hd u hb;have hx:0<=jQ src dst u / 256 % 256/\jQ src dst u / 256 % 256<=255:=by omega
    have hy:0<=jQ src dst u % 256/\jQ src dst u % 256<=255:=by omega
    have hw:=bd u hb hx hy;have hl0:=hl (jQ src dst u / 256 % 256) (jQ src dst u % 256)
    have hg:good src dst 17 (gE u (jQ src dst u / 256 % 256) (jQ src dst u % 256))=true:=by
     unfold good;rw [hl0,show ((8+u.data.length:Nat):Int)=8+(u.data.length:Int) by omega,dm hp (by omega) (by omega) (by omega) (by omega),hsum];rfl
    have hne:¬ (jQ src dst u / 256 % 256 * 256+jQ src dst u % 256=0):=by omega
    unfold wa
    rw [if_neg (by omega),if_neg (by simpa using hp),if_neg (by omega),(hf _ _).2.2,if_neg (by omega),hw,ht,hg,if_neg (by
     intro hx
     rcases hx with hx | hx
     ·exact hne hx.1
     ·exact absurd hx.2 (by decide)),(hf _ _).1,(hf _ _).2.1]
    show ((⟨u.sport,u.dport,(jQ src dst u / 256 % 256 * 256+jQ src dst u % 256 == 0),u.data⟩ : Udp),(0:Int))=_;rw [show (jQ src dst u / 256 % 256 * 256+jQ src dst u % 256 == 0)=false from by simpa using hne,<-hns]
  ·rw [if_pos (by simpa using hc)] at h;exact absurd h hc
 ·rw [if_pos (by simpa using hp)] at h;exact absurd h hp
def xa (R:Int->Int->Bool) (o:Opt):Prop:=2<=o.kind/\o.kind<=255/\(o.data.length:Int)<=38/\R o.kind (2+o.data.length)=true
instance (R:Int->Int->Bool) (o:Opt):Decidable (xa R o):=by unfold xa; infer_instance
def xG (o:Opt):List Int:=o.kind::(2+(o.data.length:Int))::o.data
def xn (l:List Opt):List Int:=l.flatMap xG
def ke (R:Int->Int->Bool):List Opt->List Int->Option (List Int)
 | [],b=>some b
 | o::l,b=>if xa R o/\b.length+(xG o).length<=40 then ke R l (b++xG o) else none
def wQ (b:List Int):List Int:=b++List.replicate ((4 - b.length % 4) % 4) 0
def vG (R:Int->Int->Bool):Nat->List Int->Option (List Opt)
 | 0,_=>some []
 | _+1,[]=>some []
 | f+1,[k]=>if k=0 then some [] else if k=1 then vG R f [] else none
 | f+1,k::n::r'=>if k=0 then some [] else if k=1 then vG R f (n::r') else
   if n<2\/n - 2 > r'.length\/R k n=false then none else (vG R f (r'.drop (n - 2).toNat)).map (fun l=>⟨k,r'.take (n - 2).toNat⟩::l)
theorem xD (o:Opt):(xG o).length=2+o.data.length:=by simp [xG]; omega
theorem yw {R:Int->Int->Bool}:∀ {l:List Opt} {b c:List Int},ke R l b=some c->c=b++xn l/\(∀ o∈l,xa R o)/\(b.length<=40->c.length<=40)
 | [],b,c,h=>by
  injection h with h; subst h;exact ⟨by simp [xn],fun o h=>(List.not_mem_nil h).elim,id⟩
 | o::l,b,c,h=>by
  rw [ke] at h
  by_cases hc:xa R o/\b.length+(xG o).length<=40
  ·rw [if_pos hc] at h;obtain ⟨h1,h2,h3⟩:=yw h;refine ⟨by rw [h1]; simp [xn],fun x hx=>?_,fun hb=>h3 (by rw [List.length_append]; omega)⟩
   rcases List.mem_cons.1 hx with rfl | hx
   ·exact hc.1
   ·exact h2 x hx
  ·rw [if_neg hc] at h; cases h
theorem JF {R:Int->Int->Bool}:∀ {l:List Opt} {b:List Int},(∀ o∈l,xa R o)->b.length+(xn l).length<=40->ke R l b=some (b++xn l)
 | [],b,_,_=>by simp [ke,xn]
 | o::l,b,h,hl=>by
  have e:xn (o::l)=xG o++xn l:=by simp [xn]
  rw [e,List.length_append] at hl;rw [ke,if_pos ⟨h o (List.mem_cons_self ..),by omega⟩,JF (fun x hx=>h x (List.mem_cons_of_mem _ hx)) (by rw [List.length_append]; omega),e,List.append_assoc]
theorem iA (R:Int->Int->Bool) (f k:Nat):vG R f (List.replicate k 0)=some []:=by
 cases f with
 | zero=>rfl
 | succ f=>match k with
  | 0=>rfl
  | 1=>rfl
  | k+2=>rw [List.replicate_succ,List.replicate_succ,vG,if_pos rfl]
theorem bc {R:Int->Int->Bool} (k:Nat):∀ (l:List Opt) (f:Nat),(∀ o∈l,xa R o)->(xn l).length<=f->vG R f (xn l++List.replicate k 0)=some l
 | [],f,_,_=>iA R f k
 | o::l,f,h,hf=>by
  have e:xn (o::l)=xG o++xn l:=by simp [xn]
  have ho:=h o (List.mem_cons_self ..);rw [e,List.length_append,xD] at hf;obtain ⟨f,rfl⟩ : ∃ g,f=g+1:=⟨f - 1,by omega⟩;rw [e]
  show vG R (f+1) (o.kind::(2+(o.data.length:Int))::(o.data++xn l++List.replicate k 0))=_;obtain ⟨h1,h2,h3,h4⟩:=ho;have e2:(2+(o.data.length:Int) - 2).toNat=o.data.length:=by omega
  rw [vG,if_neg (by omega),if_neg (by omega),if_neg (by rw [h4]; simp; omega),e2,List.append_assoc,List.drop_left,List.take_left,bc k l f (fun x hx=>h x (List.mem_cons_of_mem _ hx)) (by omega)];rfl
theorem lw (b:List Int):(wQ b).length % 4=0:=by unfold wQ; rw [List.length_append,List.length_replicate]; omega
theorem pC (b:List Int):(wQ b).length=(b.length+3) / 4 * 4:=by unfold wQ; rw [List.length_append,List.length_replicate]; omega
theorem bH {R:Int->Int->Bool} {l:List Opt} {b:List Int} (h:ke R l []=some b) {f:Nat} (hf:(wQ b).length<=f):vG R f (wQ b)=some l:=by
 obtain ⟨h1,h2,h3⟩:=yw h;rw [List.nil_append] at h1;subst h1;have:=pC (xn l);exact bc _ l f h2 (by omega)
theorem ce {b:List Int} (h:Bytes b):Bytes (wQ b):=by
 refine h.app (fun x hx=>?_);rw [List.eq_of_mem_replicate hx]; decide
theorem pE {R:Int->Int->Bool} {l:List Opt} (h:∀ o∈l,xa R o) (hb:∀ o∈l,Bytes o.data):Bytes (xn l):=by
 intro x hx;unfold xn at hx;obtain ⟨o,ho,hx⟩:=List.mem_flatMap.1 hx;have h1:=h o ho;unfold xa at h1;exact qQ (by omega) (by omega) (qQ (by omega) (by omega) (hb o ho)) x hx
theorem jf:∀ {l:List Int} {i:Nat} {x y:Int},i+1<l.length->(l.set i x).set (i+1) y=l.take i++x::y::l.drop (i+2)
 | [],_,_,_,h=>by simp at h
 | [a],i,_,_,h=>by simp at h
 | a::b::l,0,x,y,h=>rfl
 | a::b::l,i+1,x,y,h=>by
  have:=jf (l:=b::l) (i:=i) (x:=x) (y:=y) (by simpa using h);rw [List.set_cons_succ,List.set_cons_succ,this,List.take_succ_cons,List.cons_append];rfl
theorem vf:∀ {l:List Int} {i:Nat},i+1<l.length->l=l.take i++qk l i::qk l (i+1)::l.drop (i+2)
 | [],_,h=>by simp at h
 | [a],i,h=>by simp at h
 | a::b::l,0,h=>rfl
 | a::b::l,i+1,h=>by
  have:=vf (l:=b::l) (i:=i) (by simpa using h);rw [List.take_succ_cons,List.cons_append]
  show _=a::((b::l).take i++qk (b::l) i::qk (b::l) (i+1)::(b::l).drop (i+2));rw [<-this]
theorem iK {p l:List Int} {i:Nat} (hp:p.length % 2=0) (hi:i % 2=0) (hl:i+1<l.length) (h0:qk l i=0) (h1:qk l (i+1)=0) (hB:Bytes (p++l)) {c:Int} (hc:c=65535 - zm (p++l)) :
  zm (p++((l.set i (c / 256 % 256)).set (i+1) (c % 256)))=65535:=by
 have e:=vf hl;rw [h0,h1] at e;rw [jf hl,<-List.append_assoc];have e2:p++l=(p++l.take i)++(0::0::l.drop (i+2)):=by rw [List.append_assoc,<-e]
 rw [e2] at hB hc;rw [hc];exact uE _ _ (by rw [List.length_append,List.length_take]; omega) hB
theorem ge {l:List Int} {i j:Nat} {x:Int} (h:j≠i):qk (l.set i x) j=qk l j:=by
 unfold qk;simp only [List.getD_eq_getElem?_getD];rw [List.getElem?_set_ne (Ne.symm h)]
theorem no {l m:List Int} {j:Nat}:∀ {w:Nat},(∀ t,t<w->qk l ((j+t) / 8)=qk m ((j+t) / 8))->fld l j w=fld m j w
 | 0,_=>rfl
 | w+1,h=>by
  rw [fld,fld,no (fun t ht=>h t (by omega))];unfold jy;rw [h w (by omega)]
theorem uM {l:List Int} {i j w:Nat} {x:Int} (h:j+w<=8 * i\/8 * i+8<=j):fld (l.set i x) j w=fld l j w:=
 no (fun t ht=>ge (by omega))
theorem vQ {l m:List Int} {j w:Nat} (h:j+w<=8 * l.length):fld (l++m) j w=fld l j w:=
 no (fun t ht=>by rw [zk,if_pos (by omega)])
theorem rd {l:List Int} (hB:Bytes l) {i:Nat} (h:fld l (8 * i) 16=0):qk l i=0/\qk l (i+1)=0:=by
 rw [Wt hB] at h;have h1:=hB.get i;have h2:=hB.get (i+1);omega
theorem fM {l:List Int} (h:Bytes l) (i:Nat) (c:Int):Bytes ((l.set i (c / 256 % 256)).set (i+1) (c % 256)):=
 bl (bl h _ (by omega) (by omega)) _ (by omega) (by omega)
def vv (k n:Int):Bool:=
 if k >= 9 then true else if k=2 then n == 4 else if k=3 then n == 3 else if k=4 then n == 2 else if k=5 then n == 10 || n == 18 || n == 26 || n == 34 else if k=8 then n == 10 else true
def qY (l:List Opt):List Int × Int:=match ke vv l [] with
 | none=>([],97)
 | some b=>(wQ b,0)
def jF (t:Tcp):Prop:=t.sport<0\/t.sport > 65535\/t.dport<0\/t.dport > 65535\/t.win<0\/t.win > 65535\/t.urg<0\/t.urg > 65535\/t.seq<0\/t.seq > 4294967295\/t.ack<0\/t.ack > 4294967295\/t.flags<0\/t.flags > 255
instance (t:Tcp):Decidable (jF t):=by unfold jF; infer_instance
def ji (t:Tcp):Int:=
 if jF t then 98 else if (qY t.opts).2≠0 then (qY t.opts).2
 else if 20+(qY t.opts).1.length+t.data.length > 65535 then 2 else 0
def yH (t:Tcp) (k:Nat):List (Nat × Int):=[(16,t.sport),(16,t.dport),(32,t.seq),(32,t.ack),(4,(20+(k:Int)) / 4),(4,0),(8,t.flags),(16,t.win),(16,0),(16,t.urg)]
def zY (t:Tcp):List Int:=mkB 20 (zx (yH t (qY t.opts).1.length))++(qY t.opts).1++t.data
def rO (src dst:Ip) (t:Tcp):Int:=65535 - zm ((qG src dst 6 (zY t).length).1++zY t)
def yq (src dst:Ip) (t:Tcp):List Int:=((zY t).set 16 (rO src dst t / 256 % 256)).set 17 (rO src dst t % 256)
def ku (src dst:Ip) (t:Tcp):List Int × Int:=
 if (qG src dst 0 0).2≠0 then ([],(qG src dst 0 0).2)
 else if ji t≠0 then ([],ji t)
 else (yq src dst t,0)
def xg (b:List Int):List Opt × Int:=if b.length > 40 then ([],97) else match vG vv b.length b with
 | none=>([],97)
 | some l=>(l,0)
def wN (src dst:Ip) (b:List Int):Tcp × Int:=
 if b.length > 65535 then (Tcp.z,2)
 else if (qG src dst 0 0).2≠0 then (Tcp.z,(qG src dst 0 0).2)
 else if b.length<20 then (Tcp.z,94)
 else if 4 * fld b 96 4<20\/4 * fld b 96 4 > b.length then (Tcp.z,95)
 else if good src dst 6 b=false then (Tcp.z,96)
 else if (xg ((b.take (4 * fld b 96 4).toNat).drop 20)).2≠0 then (Tcp.z,(xg ((b.take (4 * fld b 96 4).toNat).drop 20)).2)
 else (⟨fld b 0 16,fld b 16 16,fld b 32 32,fld b 64 32,fld b 104 8,fld b 112 16,fld b 144 16,(xg ((b.take (4 * fld b 96 4).toNat).drop 20)).1,b.drop (4 * fld b 96 4).toNat⟩,0)
theorem cV {l:List Opt} (h:(qY l).2=0):∃ b,ke vv l []=some b/\(qY l).1=wQ b/\(wQ b).length<=40/\(wQ b).length % 4=0:=by
 unfold qY at h ⊢
 cases hp:ke vv l [] with
 | none=>rw [hp] at h; cases h
 | some b=>
  have:=(yw hp).2.2 (by simp);have h2:=pC b;exact ⟨b,rfl,rfl,by omega,lw b⟩
theorem fY (l:List Opt):(qY l).1.length<=40:=by
 by_cases h:(qY l).2=0
 ·obtain ⟨b,h1,h2,h3,h4⟩:=cV h;rw [h2]; exact h3
 ·unfold qY at h ⊢
  cases hp:ke vv l [] with
  | none=>simp
  | some b=>rw [hp] at h; exact absurd rfl h
theorem bq {l:List Opt} (hb:∀ o∈l,Bytes o.data):Bytes (qY l).1:=by
 unfold qY
 cases hp:ke vv l [] with
 | none=>exact qg
 | some b=>
  obtain ⟨h1,h2,h3⟩:=yw hp;rw [List.nil_append] at h1;subst h1;exact ce (pE h2 hb)
theorem gq {t:Tcp} (h:ji t=0):¬ jF t/\(qY t.opts).2=0/\20+(qY t.opts).1.length+t.data.length<=65535:=by
 unfold ji at h
 split at h
 ·cases h
 ·split at h
  ·rename_i h1 h2; exact absurd h h2
  ·split at h
   ·cases h
   ·rename_i h1 h2 h3;exact ⟨h1,by simpa using h2,by omega⟩
theorem nO {t:Tcp} (h:¬ jF t) {k:Nat} (hk:k<=40):∀ p∈yH t k,1<=p.1/\p.1<=32/\0<=p.2/\p.2<2 ^ p.1:=by
 unfold jF at h;intro p hp;unfold yH at hp;simp only [List.mem_cons,List.mem_nil_iff,or_false] at hp
 rcases hp with rfl | rfl | rfl | rfl | rfl | rfl | rfl | rfl | rfl | rfl <;> simp <;> omega
theorem iM {t:Tcp} (h:¬ jF t) {k:Nat} (hk:k<=40):vx (mkB 20 (zx (yH t k))) 0 [16,16,32,32,4,4,8,16,16,16]=[t.sport,t.dport,t.seq,t.ack,(20+(k:Int)) / 4,0,t.flags,t.win,0,t.urg]:=
 gU (ps:=yH t k) (k:=20) (fun p hp=>(nO h hk p hp).2.2) rfl
theorem pj {t:Tcp} (hb:Bytes t.data) (ho:∀ o∈t.opts,Bytes o.data):Bytes (zY t):=
 ((jM (vI _) 20).app (bq ho)).app hb
theorem kP (t:Tcp):(zY t).length=20+(qY t.opts).1.length+t.data.length:=by
 unfold zY;rw [List.length_append,List.length_append,qR]
theorem cw (src dst:Ip) (t:Tcp):(yq src dst t).length=20+(qY t.opts).1.length+t.data.length:=by
 unfold yq;rw [List.length_set,List.length_set,kP]
theorem rY (src dst:Ip) {t:Tcp} (h:¬ jF t):fld (yq src dst t) 0 16=t.sport/\fld (yq src dst t) 16 16=t.dport/\fld (yq src dst t) 32 32=t.seq/\fld (yq src dst t) 64 32=t.ack/\
  fld (yq src dst t) 96 4=(20+((qY t.opts).1.length:Int)) / 4/\fld (yq src dst t) 104 8=t.flags/\fld (yq src dst t) 112 16=t.win/\fld (zY t) 128 16=0/\fld (yq src dst t) 144 16=t.urg:=by
 have hf:=iM h (fY t.opts)
 have e:∀ j w,j+w<=160->fld (zY t) j w=fld (mkB 20 (zx (yH t (qY t.opts).1.length))) j w:=fun j w hj=>by
  unfold zY;rw [List.append_assoc,vQ (by rw [qR]; omega)]
 have e2:∀ j w,j+w<=128\/144<=j->fld (yq src dst t) j w=fld (zY t) j w:=fun j w hj=>by
  unfold yq;rw [uM (by omega),uM (by omega)]
 simp only [vx,List.cons.injEq,Nat.zero_add,Nat.reduceAdd] at hf;obtain ⟨h0,h1,h2,h3,h4,h5,h6,h7,h8,h9,_⟩:=hf
 rw [e2 0 16 (by omega),e2 16 16 (by omega),e2 32 32 (by omega),e2 64 32 (by omega),e2 96 4 (by omega),e2 104 8 (by omega),e2 112 16 (by omega),e2 144 16 (by omega),
  e 0 16 (by omega),e 16 16 (by omega),e 32 32 (by omega),e 64 32 (by omega),e 96 4 (by omega),e 104 8 (by omega),e 112 16 (by omega),e 144 16 (by omega),e 128 16 (by omega)]
 exact ⟨h0,h1,h2,h3,h4,h6,h7,h8,h9⟩
theorem Zr {src dst:Ip} (hs:src.Ok) (hd:dst.Ok) {t:Tcp} (hb:Bytes t.data) (ho:∀ o∈t.opts,Bytes o.data) (h:¬ jF t):zm ((qG src dst 6 (zY t).length).1++yq src dst t)=65535:=by
 have hB:=pj hb ho;have hz:=rd hB (i:=16) (rY src dst h).2.2.2.2.2.2.2.1;have hl:=kP t;exact iK (pL hs hd _ _) rfl (by omega) hz.1 hz.2 ((yY hs hd _ _).1.app hB) rfl
theorem ov {t:Tcp} {src dst:Ip} (hs:src.Ok) (hd:dst.Ok) (hb:Bytes t.data) (ho:∀ o∈t.opts,Bytes o.data) (h:(ku src dst t).2=0):wN src dst (ku src dst t).1=(t,0):=by
 unfold ku at h ⊢
 by_cases hp:(qG src dst 0 0).2=0
 ·rw [if_neg (by simpa using hp)] at h ⊢
  by_cases hc:ji t=0
  ·rw [if_neg (by simpa using hc)];obtain ⟨h1,h2,h3⟩:=gq hc;obtain ⟨b,g1,g2,g3,g4⟩:=cV h2;have hl:=cw src dst t;obtain ⟨f0,f1,f2,f3,f4,f5,f6,f7,f8⟩:=rY src dst h1;have hsum:=Zr hs hd hb ho h1
   show wN src dst (yq src dst t)=_;rw [g2] at hl f4 h3
   have hg:good src dst 6 (yq src dst t)=true:=by
    unfold good;have e:((yq src dst t).length:Int)=(zY t).length:=by rw [cw,kP]
    rw [e,dm hp (by omega) (by omega) (by omega) (by rw [kP,g2]; omega),hsum];rfl
   have hhead:4 * fld (yq src dst t) 96 4=((20+(wQ b).length:Nat):Int):=by rw [f4]; omega
   have hsplit:yq src dst t=((mkB 20 (zx (yH t (qY t.opts).1.length))).set 16 (rO src dst t / 256 % 256)).set 17 (rO src dst t % 256)++wQ b++t.data:=by
    unfold yq zY;rw [g2,List.append_assoc,List.set_append_left _ _ (by rw [qR]; omega),List.set_append_left _ _ (by rw [List.length_set,qR]; omega),List.append_assoc]
   have hH:(((mkB 20 (zx (yH t (qY t.opts).1.length))).set 16 (rO src dst t / 256 % 256)).set 17 (rO src dst t % 256)).length=20:=by rw [List.length_set,List.length_set,qR]
   have ht:(yq src dst t).take (20+(wQ b).length)=((mkB 20 (zx (yH t (qY t.opts).1.length))).set 16 (rO src dst t / 256 % 256)).set 17 (rO src dst t % 256)++wQ b:=by
    rw [hsplit,List.take_left' (by rw [List.length_append,hH])]
   have hd' : (yq src dst t).drop (20+(wQ b).length)=t.data:=by
    rw [hsplit,List.drop_left' (by rw [List.length_append,hH])]
   have ho' : xg (wQ b)=(t.opts,0):=by
    unfold xg;rw [if_neg (by omega),bH g1 (Nat.le_refl _)]
   unfold wN;rw [if_neg (by omega),if_neg (by simpa using hp),if_neg (by omega),hhead,Int.toNat_natCast,if_neg (by omega),hg,if_neg (by decide),ht,List.drop_left' hH,ho',if_neg (by simp),hd',f0,f1,f2,f3,f5,f6,f8]
  ·rw [if_pos (by simpa using hc)] at h;exact absurd h hc
 ·rw [if_pos (by simpa using hp)] at h;exact absurd h hp
def fQ (k n:Int):Bool:=true
def qJ (l:List Opt):List Int × Int:=match ke fQ l [] with
 | none=>([],65)
 | some b=>(wQ b,0)
def vH (ip:Ip):Prop:=ip.v=4/\ip.a=a4 ip.a
instance (ip:Ip):Decidable (vH ip):=by unfold vH; infer_instance
def fy (mf:Bool) (off n:Int):Int:=if (mf=true/\(n=0\/n % 8≠0))\/off+n > 65515 then 66 else 0
def vc (h:Ip4):Prop:=h.tos<0\/h.tos > 255\/h.id<0\/h.id > 65535\/h.off<0\/h.off > 65528\/h.off % 8≠0\/h.ttl<0\/h.ttl > 255\/h.proto<0\/h.proto > 255\/¬ vH h.src\/¬ vH h.dst
instance (h:Ip4):Decidable (vc h):=by unfold vc; infer_instance
def jt (h:Ip4):Int:=
 if vc h then 68 else if (qJ h.opts).2≠0 then (qJ h.opts).2
 else if 20+(qJ h.opts).1.length+h.data.length > 65535 then 63 else fy h.mf h.off h.data.length
def b2i (b:Bool):Int:=if b=true then 1 else 0
def fw (h:Ip4) (k:Nat):List (Nat × Int):=[(4,4),(4,(20+(k:Int)) / 4),(8,h.tos),(16,20+(k:Int)+(h.data.length:Int)),(16,h.id),(1,0),(1,b2i h.df),(1,b2i h.mf),(13,h.off / 8),(8,h.ttl),(8,h.proto),(16,0)]
def vq (h:Ip4):List Int:=mkB 12 (zx (fw h (qJ h.opts).1.length))++h.src.a.take 4++h.dst.a.take 4++(qJ h.opts).1
def VU (h:Ip4):Int:=65535 - zm (vq h)
def vD (h:Ip4):List Int:=((vq h).set 10 (VU h / 256 % 256)).set 11 (VU h % 256)
def WY (h:Ip4):List Int:=vD h++h.data
def jq (h:Ip4):List Int × Int:=if jt h≠0 then ([],jt h) else (WY h,0)
def kH (b:List Int):List Opt × Int:=if b.length > 40 then ([],65) else match vG fQ b.length b with
 | none=>([],65)
 | some l=>(l,0)
def qO (b:List Int):Ip4 × Int:=
 if b.length > 65535 then (Ip4.z,2)
 else if b.length<20 then (Ip4.z,60)
 else if fld b 0 4≠4 then (Ip4.z,61)
 else if 4 * fld b 4 4<20\/4 * fld b 4 4 > b.length then (Ip4.z,62)
 else if fld b 16 16<4 * fld b 4 4\/fld b 16 16 > b.length then (Ip4.z,63)
 else if zm (b.take (4 * fld b 4 4).toNat)≠65535 then (Ip4.z,64)
 else if (kH ((b.take (4 * fld b 4 4).toNat).drop 20)).2≠0 then (Ip4.z,(kH ((b.take (4 * fld b 4 4).toNat).drop 20)).2)
 else if fy (fld b 50 1 == 1) (8 * fld b 51 13) (fld b 16 16 - 4 * fld b 4 4)≠0 then (Ip4.z,fy (fld b 50 1 == 1) (8 * fld b 51 13) (fld b 16 16 - 4 * fld b 4 4))
 else (⟨fld b 8 8,fld b 32 16,fld b 49 1 == 1,fld b 50 1 == 1,8 * fld b 51 13,fld b 64 8,fld b 72 8,⟨4,a4 (b.drop 12)⟩,⟨4,a4 (b.drop 16)⟩,(kH ((b.take (4 * fld b 4 4).toNat).drop 20)).1,(b.take (fld b 16 16).toNat).drop (4 * fld b 4 4).toNat⟩,0)
theorem cI {l:List Opt} (h:(qJ l).2=0):∃ b,ke fQ l []=some b/\(qJ l).1=wQ b/\(wQ b).length<=40/\(wQ b).length % 4=0:=by
 unfold qJ at h ⊢
 cases hp:ke fQ l [] with
 | none=>rw [hp] at h; cases h
 | some b=>
  have:=(yw hp).2.2 (by simp);have h2:=pC b;exact ⟨b,rfl,rfl,by omega,lw b⟩
theorem fP (l:List Opt):(qJ l).1.length<=40:=by
 by_cases h:(qJ l).2=0
 ·obtain ⟨b,h1,h2,h3,h4⟩:=cI h;rw [h2]; exact h3
 ·unfold qJ at h ⊢
  cases hp:ke fQ l [] with
  | none=>simp
  | some b=>rw [hp] at h; exact absurd rfl h
theorem hY {l:List Opt} (hb:∀ o∈l,Bytes o.data):Bytes (qJ l).1:=by
 unfold qJ
 cases hp:ke fQ l [] with
 | none=>exact qg
 | some b=>
  obtain ⟨h1,h2,h3⟩:=yw hp;rw [List.nil_append] at h1;subst h1;exact ce (pE h2 hb)
theorem gf {h:Ip4} (c:jt h=0):¬ vc h/\(qJ h.opts).2=0/\20+(qJ h.opts).1.length+h.data.length<=65535/\fy h.mf h.off h.data.length=0:=by
 unfold jt at c
 split at c
 ·cases c
 ·split at c
  ·rename_i h1 h2; exact absurd c h2
  ·split at c
   ·cases c
   ·rename_i h1 h2 h3;exact ⟨h1,by simpa using h2,by omega,c⟩
theorem b2i_r (b:Bool):0<=b2i b/\b2i b<2:=by unfold b2i; split <;> decide
theorem b2i_eq (b:Bool):(b2i b == 1)=b:=by cases b <;> rfl
theorem rX {h:Ip4} (c:¬ vc h) {k:Nat} (hk:k<=40) (hl:20+k+h.data.length<=65535):∀ p∈fw h k,1<=p.1/\p.1<=32/\0<=p.2/\p.2<2 ^ p.1:=by
 unfold vc at c;have h1:=b2i_r h.df;have h2:=b2i_r h.mf;intro p hp;unfold fw at hp;simp only [List.mem_cons,List.mem_nil_iff,or_false] at hp
 rcases hp with rfl | rfl | rfl | rfl | rfl | rfl | rfl | rfl | rfl | rfl | rfl | rfl <;> simp <;> omega
theorem iO {h:Ip4} (c:¬ vc h) {k:Nat} (hk:k<=40) (hl:20+k+h.data.length<=65535):vx (mkB 12 (zx (fw h k))) 0 [4,4,8,16,16,1,1,1,13,8,8,16]=[4,(20+(k:Int)) / 4,h.tos,20+(k:Int)+(h.data.length:Int),h.id,0,b2i h.df,b2i h.mf,h.off / 8,h.ttl,h.proto,0]:=
 gU (ps:=fw h k) (k:=12) (fun p hp=>(rX c hk hl p hp).2.2) rfl
theorem po {h:Ip4} (hs:h.src.Ok) (hd:h.dst.Ok) (ho:∀ o∈h.opts,Bytes o.data):Bytes (vq h):=
 (((jM (vI _) 12).app (hs.2.take 4)).app (hd.2.take 4)).app (hY ho)
theorem fN {h:Ip4} (hs:h.src.Ok) (hd:h.dst.Ok):(vq h).length=20+(qJ h.opts).1.length:=by
 unfold vq;have:=hs.1; have:=hd.1;simp only [List.length_append,qR,List.length_take];omega
theorem gy {h:Ip4} (hs:h.src.Ok) (hd:h.dst.Ok):(vD h).length=20+(qJ h.opts).1.length:=by
 unfold vD;rw [List.length_set,List.length_set,fN hs hd]
theorem lE {h:Ip4} (hs:h.src.Ok) (hd:h.dst.Ok) (ho:∀ o∈h.opts,Bytes o.data):Bytes (vD h):=fM (po hs hd ho) 10 _
theorem a4_ext {l m:List Int} (h:∀ i,i<4->qk l i=qk m i):a4 l=a4 m:=by
 unfold a4;rw [h 0 (by decide),h 1 (by decide),h 2 (by decide),h 3 (by decide)]
theorem gT (l:List Int) (k i:Nat):qk (l.drop k) i=qk l (k+i):=by
 unfold qk;simp [List.getD_eq_getElem?_getD,List.getElem?_drop]
theorem rk {h:Ip4} (hs:h.src.Ok) (hd:h.dst.Ok) (c:¬ vc h) (hl:20+(qJ h.opts).1.length+h.data.length<=65535) (q:List Int) :
  fld (vD h++q) 0 4=4/\fld (vD h++q) 4 4=(20+((qJ h.opts).1.length:Int)) / 4/\fld (vD h++q) 8 8=h.tos/\fld (vD h++q) 16 16=20+((qJ h.opts).1.length:Int)+(h.data.length:Int)/\fld (vD h++q) 32 16=h.id/\
  fld (vD h++q) 49 1=b2i h.df/\fld (vD h++q) 50 1=b2i h.mf/\fld (vD h++q) 51 13=h.off / 8/\fld (vD h++q) 64 8=h.ttl/\fld (vD h++q) 72 8=h.proto/\fld (vq h) 80 16=0:=by
 have hf:=iO c (fP h.opts) hl;have hwl:=gy hs hd
 have e:∀ j w,j+w<=96->fld (vq h) j w=fld (mkB 12 (zx (fw h (qJ h.opts).1.length))) j w:=fun j w hj=>by
  unfold vq;rw [List.append_assoc,List.append_assoc,vQ (by rw [qR]; omega)]
 have e2:∀ j w,j+w<=80->fld (vD h++q) j w=fld (vq h) j w:=fun j w hj=>by
  rw [vQ (by omega)];unfold vD;rw [uM (by omega),uM (by omega)]
 simp only [vx,List.cons.injEq,Nat.zero_add,Nat.reduceAdd] at hf;obtain ⟨h0,h1,h2,h3,h4,h5,h6,h7,h8,h9,h10,h11,_⟩:=hf
 rw [e2 0 4 (by omega),e2 4 4 (by omega),e2 8 8 (by omega),e2 16 16 (by omega),e2 32 16 (by omega),e2 49 1 (by omega),e2 50 1 (by omega),e2 51 13 (by omega),e2 64 8 (by omega),e2 72 8 (by omega),
  e 0 4 (by omega),e 4 4 (by omega),e 8 8 (by omega),e 16 16 (by omega),e 32 16 (by omega),e 49 1 (by omega),e 50 1 (by omega),e 51 13 (by omega),e 64 8 (by omega),e 72 8 (by omega),e 80 16 (by omega)]
 exact ⟨h0,h1,h2,h3,h4,h6,h7,h8,h9,h10,h11⟩
theorem ZM {h:Ip4} (hs:h.src.Ok) (hd:h.dst.Ok) (ho:∀ o∈h.opts,Bytes o.data) (c:¬ vc h) (hl:20+(qJ h.opts).1.length+h.data.length<=65535):zm (vD h)=65535:=by
 have hB:=po hs hd ho;have hz:=rd hB (i:=10) (rk hs hd c hl []).2.2.2.2.2.2.2.2.2.2;have hl:=fN hs hd;exact iK (p:=[]) rfl rfl (by omega) hz.1 hz.2 hB rfl
theorem QX {h:Ip4} (hs:h.src.Ok) (hd:h.dst.Ok) (f:vH h.src) (q:List Int):(⟨4,a4 ((vD h++q).drop 12)⟩ : Ip)=h.src:=by
 have hwl:=gy hs hd;have h1:=hs.1
 have:a4 ((vD h++q).drop 12)=a4 h.src.a:=a4_ext (fun i hi=>by
  rw [gT,zk,if_pos (by omega)];unfold vD;rw [ge (by omega),ge (by omega)];unfold vq
  rw [List.append_assoc,List.append_assoc,zk,if_neg (by rw [qR]; omega),zk,if_pos (by rw [qR,List.length_take]; omega),qR,gH (by omega),Nat.add_sub_cancel_left])
 rw [this,<-f.2,<-f.1]
theorem oF {h:Ip4} (hs:h.src.Ok) (hd:h.dst.Ok) (f:vH h.dst) (q:List Int):(⟨4,a4 ((vD h++q).drop 16)⟩ : Ip)=h.dst:=by
 have hwl:=gy hs hd;have h1:=hs.1;have h2:=hd.1;have hl4:(h.src.a.take 4).length=4:=by rw [List.length_take]; omega
 have:a4 ((vD h++q).drop 16)=a4 h.dst.a:=a4_ext (fun i hi=>by
  rw [gT,zk,if_pos (by omega)];unfold vD;rw [ge (by omega),ge (by omega)];unfold vq
  rw [List.append_assoc,List.append_assoc,zk,if_neg (by rw [qR]; omega),zk,if_neg (by rw [qR,hl4]; omega),zk,if_pos (by rw [qR,hl4,List.length_take]; omega),qR,hl4,gH (by omega),show 16+i - 12 - 4=i by omega])
 rw [this,<-f.2,<-f.1]
theorem ai {h:Ip4} (hs:h.src.Ok) (hd:h.dst.Ok) (ho:∀ o∈h.opts,Bytes o.data) (c:(jq h).2=0) (q:List Int) (hq:(jq h).1.length+q.length<=65535):qO ((jq h).1++q)=(h,0):=by
 unfold jq at c hq ⊢
 by_cases hc:jt h=0
 ·rw [if_neg (by simpa using hc)] at hq ⊢;obtain ⟨h1,h2,h3,h4⟩:=gf hc;obtain ⟨b,g1,g2,g3,g4⟩:=cI h2;have hwl:=gy hs hd;have hsum:=ZM hs hd ho h1 h3;obtain ⟨f0,f1,f2,f3,f4,f5,f6,f7,f8,f9,_⟩:=rk hs hd h1 h3 (h.data++q);have fs:vH h.src:=by unfold vc at h1; exact Decidable.byContradiction fun hx=>h1 (by simp [hx])
  have fd' : vH h.dst:=by unfold vc at h1; exact Decidable.byContradiction fun hx=>h1 (by simp [hx])
  have e1:=QX hs hd fs (h.data++q);have e2:=oF hs hd fd' (h.data++q);have hoff:0<=h.off/\h.off % 8=0:=by unfold vc at h1; omega
  show qO ((vD h++h.data)++q)=_;change ((vD h++h.data).length+q.length)<=65535 at hq;rw [List.length_append] at hq;rw [List.append_assoc];have hLl:(vD h++(h.data++q)).length=(vD h).length+(h.data.length+q.length):=by rw [List.length_append,List.length_append]
  have ht:(vD h++(h.data++q)).take (20+(wQ b).length)=vD h:=by rw [List.take_left' (by rw [hwl,g2])]
  have hd2:(vD h).drop 20=wQ b:=by
   unfold vD;rw [List.drop_set_of_lt (by omega),List.drop_set_of_lt (by omega)];unfold vq;rw [List.drop_left' (by have:=hs.1; have:=hd.1; simp only [List.length_append,qR,List.length_take]; omega),g2]
  have htot:((vD h++(h.data++q)).take (20+(wQ b).length+h.data.length)).drop (20+(wQ b).length)=h.data:=by
   rw [<-List.append_assoc,List.take_left' (by rw [List.length_append,hwl,g2]),List.drop_left' (by rw [hwl,g2])]
  rw [g2] at hwl f1 f3 h3;have hhead:4 * ((20+((wQ b).length:Int)) / 4)=((20+(wQ b).length:Nat):Int):=by omega
  have htt:20+((wQ b).length:Int)+(h.data.length:Int)=((20+(wQ b).length+h.data.length:Nat):Int):=by omega
  have hget:kH (wQ b)=(h.opts,0):=by
   unfold kH;rw [if_neg (by omega),bH g1 (Nat.le_refl _)]
  have hfr:fy h.mf (8 * (h.off / 8)) (((20+(wQ b).length+h.data.length:Nat):Int) - ((20+(wQ b).length:Nat):Int))=0:=by
   rw [show 8 * (h.off / 8)=h.off by omega,show ((20+(wQ b).length+h.data.length:Nat):Int) - ((20+(wQ b).length:Nat):Int)=h.data.length by omega,h4]
  unfold qO
  rw [if_neg (by omega),if_neg (by omega),f0,if_neg (by decide),f1,hhead,if_neg (by omega),f3,htt,if_neg (by omega),Int.toNat_natCast,Int.toNat_natCast,ht,hsum,if_neg (by decide),hd2,hget,if_neg (by simp),f6,b2i_eq,f7,hfr,if_neg (by decide),
   htot,f2,f4,f5,b2i_eq,f8,f9,e1,e2,show 8 * (h.off / 8)=h.off by omega]
 ·rw [if_pos (by simpa using hc)] at c;exact absurd c hc
def wV (n:Int):Prop:=n=33024\/n=34984
instance (n:Int):Decidable (wV n):=by unfold wV; infer_instance
def xQ (m:List Int):Prop:=qk m 0 % 2=1
instance (m:List Int):Decidable (xQ m):=by unfold xQ; infer_instance
def xy:List Tag->Prop
 | []=>True
 | [t]=>wV t.tpid
 | [t,u]=>wV t.tpid/\u.tpid=33024
 | _=>False
instance (l:List Tag):Decidable (xy l):=by
 match l with
 | []=>exact isTrue trivial
 | [t]=>exact (inferInstance:Decidable (wV t.tpid))
 | [t,u]=>exact (inferInstance:Decidable (wV t.tpid/\u.tpid=33024))
 | _::_::_::_=>exact isFalse id
def yg (t:Tag):Prop:=0<=t.pcp/\t.pcp<=7/\0<=t.vid/\t.vid<=4094
instance (t:Tag):Decidable (yg t):=by unfold yg; infer_instance
def gb (n:Int):Prop:=1536<=n/\n<=65535/\¬ wV n
instance (n:Int):Decidable (gb n):=by unfold gb; infer_instance
def zW (f:Frm):Int:=
 if xQ f.src then 54 else if ¬ xy f.tags then 51 else if ¬ (∀ t∈f.tags,yg t) then 52 else if ¬ gb f.type then 53
 else if 14+4 * f.tags.length+f.data.length > 65535 then 2 else 0
def kj (n:Int):List Int:=[n / 256 % 256,n % 256]
def wG (t:Tag):Int:=t.pcp * 8192+(if t.dei=true then 4096 else 0)+t.vid
def yt (t:Tag):List Int:=kj t.tpid++kj (wG t)
def yj (f:Frm):List Int:=f.dst++f.src++f.tags.flatMap yt++kj f.type++f.data
def fS (f:Frm):List Int × Int:=if zW f≠0 then ([],zW f) else (yj f,0)
def nQ (b:List Int):List Int:=b++List.replicate (60 - b.length) 0
def two (b:List Int) (i:Nat):Int:=qk b i * 256+qk b (i+1)
def fg (n w:Int):Tag:=⟨n,w / 8192,w / 4096 % 2 == 1,w % 4096⟩
def zQ (b:List Int):Nat->List Tag->Nat->Int × List Tag × Nat
 | 0,ts,i=>if wV (two b i) then (51,[],0) else (0,ts,i)
 | k+1,ts,i=>if wV (two b i) then
   if ts.length=1/\two b i=34984 then (51,[],0) else if b.length<i+6 then (50,[],0)
   else if two b (i+2) % 4096=4095 then (52,[],0) else zQ b k (ts++[fg (two b i) (two b (i+2))]) (i+4)
  else (0,ts,i)
def qo (b:List Int):Frm × Int:=
 if b.length > 65535 then (Frm.z,2) else if b.length<14 then (Frm.z,50)
 else if xQ ((b.take 12).drop 6) then (Frm.z,54)
 else if (zQ b 2 [] 12).1≠0 then (Frm.z,(zQ b 2 [] 12).1)
 else if two b (zQ b 2 [] 12).2.2<1536 then (Frm.z,53)
 else (⟨b.take 6,(b.take 12).drop 6,(zQ b 2 [] 12).2.1,two b (zQ b 2 [] 12).2.2,b.drop ((zQ b 2 [] 12).2.2+2)⟩,0)
theorem kQ {f:Frm} (h:zW f=0):¬ xQ f.src/\xy f.tags/\(∀ t∈f.tags,yg t)/\gb f.type/\14+4 * f.tags.length+f.data.length<=65535:=by
 unfold zW at h
 split at h
 ·cases h
 ·split at h
  ·cases h
  ·split at h
   ·cases h
   ·split at h
    ·cases h
    ·split at h
     ·cases h
     ·rename_i h1 h2 h3 h4 h5;exact ⟨h1,Decidable.not_not.1 h2,Decidable.not_not.1 h3,Decidable.not_not.1 h4,by omega⟩
theorem six {l:List Int} (h:l.length=6):∃ a b c d e f,l=[a,b,c,d,e,f]:=by
 match l,h with
 | [a,b,c,d,e,f],_=>exact ⟨a,b,c,d,e,f,rfl⟩
theorem sP {t:Tag} (h:yg t):0<=wG t/\wG t<=65535/\wG t % 4096≠4095/\fg t.tpid (wG t)=t:=by
 unfold yg at h;obtain ⟨a,b,c,d⟩:=t;dsimp only at h
 cases c with
 | true=>
  have e:wG ⟨a,b,true,d⟩ = b * 8192+4096+d:=by simp [wG]
  rw [e];refine ⟨by omega,by omega,by omega,?_⟩;unfold fg;dsimp only;rw [show (b * 8192+4096+d) / 8192=b by omega,show (b * 8192+4096+d) / 4096 % 2=1 by omega,show (b * 8192+4096+d) % 4096=d by omega];rfl
 | false=>
  have e:wG ⟨a,b,false,d⟩ = b * 8192+d:=by simp [wG]
  rw [e];refine ⟨by omega,by omega,by omega,?_⟩;unfold fg;dsimp only;rw [show (b * 8192+d) / 8192=b by omega,show (b * 8192+d) / 4096 % 2=0 by omega,show (b * 8192+d) % 4096=d by omega];rfl
theorem kf {n:Int} (h:0<=n) (h2:n<=65535):n / 256 % 256 * 256+n % 256=n:=by omega
theorem sO {f:Frm} (hs:f.src.length=6) (hd:f.dst.length=6) (c:zW f=0) (q:List Int) (hq:(yj f).length+q.length<=65535):qo (yj f++q)=({ f with data:=f.data++q },0):=by
 obtain ⟨h1,h2,h3,h4,h5⟩:=kQ c;obtain ⟨dst,src,tags,type,data⟩:=f;dsimp only at hs hd h1 h2 h3 h4 h5;obtain ⟨d0,d1,d2,d3,d4,d5,rfl⟩:=six hd;obtain ⟨s0,s1,s2,s3,s4,s5,rfl⟩:=six hs;unfold gb at h4;have ht:=kf (n:=type) (by omega) (by omega);have e33:∀ x:Int,x=33024->wV x:=fun x h=>.inl h
 match tags,h2 with
 | [],_=>
  have e:yj ⟨[d0,d1,d2,d3,d4,d5],[s0,s1,s2,s3,s4,s5],[],type,data⟩++q=d0::d1::d2::d3::d4::d5::s0::s1::s2::s3::s4::s5::(type / 256 % 256)::(type % 256)::(data++q):=by simp [yj,kj]
  have hl:(d0::d1::d2::d3::d4::d5::s0::s1::s2::s3::s4::s5::(type / 256 % 256)::(type % 256)::(data++q)).length<=65535:=by rw [<-e,List.length_append]; omega
  have hl2:14<=(d0::d1::d2::d3::d4::d5::s0::s1::s2::s3::s4::s5::(type / 256 % 256)::(type % 256)::(data++q)).length:=by simp
  have t12:two (d0::d1::d2::d3::d4::d5::s0::s1::s2::s3::s4::s5::(type / 256 % 256)::(type % 256)::(data++q)) 12=type:=ht;rw [e];generalize hL:(d0::d1::d2::d3::d4::d5::s0::s1::s2::s3::s4::s5::(type / 256 % 256)::(type % 256)::(data++q))=L at hl hl2 t12 ⊢
  have hlt:zQ L 2 [] 12=(0,[],12):=by
   rw [zQ,t12,if_neg h4.2.2]
  unfold qo;rw [hlt,if_neg (by omega),if_neg (by omega),if_neg (by rw [<-hL]; exact h1),if_neg (by simp),t12,if_neg (by omega),<-hL];rfl
 | [t],h2=>
  have w:=sP (h3 t (by simp));have htp:0<=t.tpid/\t.tpid<=65535:=by unfold xy wV at h2; omega
  have e:yj ⟨[d0,d1,d2,d3,d4,d5],[s0,s1,s2,s3,s4,s5],[t],type,data⟩++q=d0::d1::d2::d3::d4::d5::s0::s1::s2::s3::s4::s5::(t.tpid / 256 % 256)::(t.tpid % 256)::(wG t / 256 % 256)::(wG t % 256)::(type / 256 % 256)::(type % 256)::(data++q):=by simp [yj,kj,yt]
  have hl:(d0::d1::d2::d3::d4::d5::s0::s1::s2::s3::s4::s5::(t.tpid / 256 % 256)::(t.tpid % 256)::(wG t / 256 % 256)::(wG t % 256)::(type / 256 % 256)::(type % 256)::(data++q)).length<=65535:=by rw [<-e,List.length_append]; omega
  have hl2:18<=(d0::d1::d2::d3::d4::d5::s0::s1::s2::s3::s4::s5::(t.tpid / 256 % 256)::(t.tpid % 256)::(wG t / 256 % 256)::(wG t % 256)::(type / 256 % 256)::(type % 256)::(data++q)).length:=by simp
  have t12:two (d0::d1::d2::d3::d4::d5::s0::s1::s2::s3::s4::s5::(t.tpid / 256 % 256)::(t.tpid % 256)::(wG t / 256 % 256)::(wG t % 256)::(type / 256 % 256)::(type % 256)::(data++q)) 12=t.tpid:=kf htp.1 htp.2;have t14:two (d0::d1::d2::d3::d4::d5::s0::s1::s2::s3::s4::s5::(t.tpid / 256 % 256)::(t.tpid % 256)::(wG t / 256 % 256)::(wG t % 256)::(type / 256 % 256)::(type % 256)::(data++q)) 14=wG t:=kf w.1 w.2.1;have t16:two (d0::d1::d2::d3::d4::d5::s0::s1::s2::s3::s4::s5::(t.tpid / 256 % 256)::(t.tpid % 256)::(wG t / 256 % 256)::(wG t % 256)::(type / 256 % 256)::(type % 256)::(data++q)) 16=type:=ht;rw [e];generalize hL:(d0::d1::d2::d3::d4::d5::s0::s1::s2::s3::s4::s5::(t.tpid / 256 % 256)::(t.tpid % 256)::(wG t / 256 % 256)::(wG t % 256)::(type / 256 % 256)::(type % 256)::(data++q))=L at hl hl2 t12 t14 t16 ⊢
  have hlt:zQ L 2 [] 12=(0,[t],16):=by
   rw [zQ,t12,if_pos (show wV t.tpid from h2),if_neg (by simp),if_neg (by omega),t14,if_neg w.2.2.1,zQ,t16,if_neg h4.2.2,w.2.2.2];rfl
  unfold qo;rw [hlt,if_neg (by omega),if_neg (by omega),if_neg (by rw [<-hL]; exact h1),if_neg (by simp),t16,if_neg (by omega),<-hL];rfl
 | [t,u],h2=>
  have w:=sP (h3 t (by simp));have w':=sP (h3 u (by simp));have htp:0<=t.tpid/\t.tpid<=65535:=by have:=h2.1; unfold wV at this; omega
  have hup:0<=u.tpid/\u.tpid<=65535:=by have:=h2.2; omega
  have e:yj ⟨[d0,d1,d2,d3,d4,d5],[s0,s1,s2,s3,s4,s5],[t,u],type,data⟩++q=d0::d1::d2::d3::d4::d5::s0::s1::s2::s3::s4::s5::(t.tpid / 256 % 256)::(t.tpid % 256)::(wG t / 256 % 256)::(wG t % 256)::(u.tpid / 256 % 256)::(u.tpid % 256)::(wG u / 256 % 256)::(wG u % 256)::(type / 256 % 256)::(type % 256)::(data++q):=by simp [yj,kj,yt]
  generalize hL:(d0::d1::d2::d3::d4::d5::s0::s1::s2::s3::s4::s5::(t.tpid / 256 % 256)::(t.tpid % 256)::(wG t / 256 % 256)::(wG t % 256)::(u.tpid / 256 % 256)::(u.tpid % 256)::(wG u / 256 % 256)::(wG u % 256)::(type / 256 % 256)::(type % 256)::(data++q))=L at e;have hl:L.length<=65535:=by rw [<-e,List.length_append]; omega
  have hl2:22<=L.length:=by rw [<-hL]; simp
  have t12:two L 12=t.tpid:=by rw [<-hL]; exact kf htp.1 htp.2
  have t14:two L 14=wG t:=by rw [<-hL]; exact kf w.1 w.2.1
  have t16:two L 16=u.tpid:=by rw [<-hL]; exact kf hup.1 hup.2
  have t18:two L 18=wG u:=by rw [<-hL]; exact kf w'.1 w'.2.1
  have t20:two L 20=type:=by rw [<-hL]; exact ht
  rw [e]
  have hlt:zQ L 2 [] 12=(0,[t,u],20):=by
   rw [zQ,t12,if_pos h2.1,if_neg (by simp),if_neg (by omega),t14,if_neg w.2.2.1,zQ,t16,if_pos (e33 _ h2.2),if_neg (by have:=h2.2; omega),if_neg (by omega),t18,if_neg w'.2.2.1,zQ,t20,if_neg h4.2.2,w.2.2.2,w'.2.2.2];rfl
  unfold qo;rw [hlt,if_neg (by omega),if_neg (by omega),if_neg (by rw [<-hL]; exact h1),if_neg (by simp),t20,if_neg (by omega),<-hL];rfl
theorem bK (f:Frm) (hs:f.src.length=6) (hd:f.dst.length=6):(yj f).length=14+4 * f.tags.length+f.data.length:=by
 have:(f.tags.flatMap yt).length=4 * f.tags.length:=by
  generalize f.tags=l
  induction l with
  | nil=>rfl
  | cons t l ih=>rw [List.flatMap_cons,List.length_append,ih,List.length_cons]; simp [yt,kj]; omega
 unfold yj;simp only [List.length_append,this,hs,hd,kj,List.length_cons,List.length_nil];omega
def wP:List Int:=[0,1,8,0,6,4]
def mN:List Int:=[0,0,0,0,0,0]
def wE (op:Int) (m:List Int):Int:=if op≠1/\op≠2 then 57 else if xQ m\/m=mN then 58 else 0
def vF (a:Arp):List Int × Int:=
 if wE a.op a.smac≠0 then ([],wE a.op a.smac) else if ¬ vH a.sip\/¬ vH a.tip then ([],20)
 else (wP++kj a.op++a.smac++a.sip.a.take 4++a.tmac++a.tip.a.take 4,0)
def zy (b:List Int):Arp × Int:=
 if b.length > 65535 then (Arp.z,2) else if b.length<28 then (Arp.z,55) else if b.take 6≠wP then (Arp.z,56)
 else if wE (two b 6) ((b.take 14).drop 8)≠0 then (Arp.z,wE (two b 6) ((b.take 14).drop 8))
 else (⟨two b 6,(b.take 14).drop 8,⟨4,a4 (b.drop 14)⟩,(b.take 24).drop 18,⟨4,a4 (b.drop 24)⟩⟩,0)
theorem bO {l:List Int} (h:l.length=16):∃ a b c d m,l=a::b::c::d::m/\l.take 4=[a,b,c,d]:=by
 match l,h with
 | a::b::c::d::m,_=>exact ⟨a,b,c,d,m,rfl,rfl⟩
theorem iU {a:Arp} (hs:a.smac.length=6) (ht:a.tmac.length=6) (h1:a.sip.Ok) (h2:a.tip.Ok) (c:(vF a).2=0) (q:List Int) (hq:(vF a).1.length+q.length<=65535):zy ((vF a).1++q)=(a,0):=by
 obtain ⟨op,smac,sip,tmac,tip⟩:=a;obtain ⟨sv,sa⟩:=sip;obtain ⟨tv,ta⟩:=tip;dsimp only at hs ht;have l1:=h1.1;have l2:=h2.1;dsimp only at l1 l2;unfold vF at c hq ⊢;dsimp only at c hq ⊢
 by_cases e1:wE op smac=0
 ·rw [if_neg (by simpa using e1)] at c hq ⊢
  by_cases e2:¬ vH ⟨sv,sa⟩\/¬ vH ⟨tv,ta⟩
  ·rw [if_pos e2] at c; cases c
  ·rw [if_neg e2] at hq ⊢;have f1:vH ⟨sv,sa⟩:=Decidable.byContradiction fun h=>e2 (.inl h)
   have f2:vH ⟨tv,ta⟩:=Decidable.byContradiction fun h=>e2 (.inr h)
   obtain ⟨s0,s1,s2,s3,s4,s5,rfl⟩:=six hs;obtain ⟨t0,t1,t2,t3,t4,t5,rfl⟩:=six ht;obtain ⟨a0,a1,a2,a3,am,rfl,ha⟩:=bO l1;obtain ⟨b0,b1,b2,b3,bm,rfl,hb⟩:=bO l2;rw [ha,hb] at hq ⊢
   have hop:op=1\/op=2:=by
    unfold wE at e1
    split at e1
    ·cases e1
    ·omega
   have w:=kf (n:=op) (by omega) (by omega);have g1:=f1.2;have g2:=f2.2;have v1:=f1.1;have v2:=f2.1;dsimp only at g1 g2 v1 v2;subst v1;subst v2;simp only [List.length_append,List.length_cons,List.length_nil,wP,kj] at hq;generalize hL:wP++kj op++[s0,s1,s2,s3,s4,s5]++[a0,a1,a2,a3]++[t0,t1,t2,t3,t4,t5]++[b0,b1,b2,b3]++q=L;have hl:L.length<=65535/\28<=L.length:=by rw [<-hL]; simp [wP,kj]; omega
   have t6:two L 6=op:=by rw [<-hL]; exact w
   have k1:(L.take 14).drop 8=[s0,s1,s2,s3,s4,s5]:=by rw [<-hL]; rfl
   have k2:(L.take 24).drop 18=[t0,t1,t2,t3,t4,t5]:=by rw [<-hL]; rfl
   have k3:a4 (L.drop 14)=a0::a1::a2::a3::am:=by rw [g1,<-hL]; rfl
   have k4:a4 (L.drop 24)=b0::b1::b2::b3::bm:=by rw [g2,<-hL]; rfl
   unfold zy;rw [if_neg (by omega),if_neg (by omega),if_neg (by rw [<-hL]; exact fun h=>h rfl),t6,k1,e1,if_neg (by simp),k2,k3,k4]
 ·rw [if_pos (by simpa using e1)] at c;exact absurd c e1
def wy (k:Int):Int:=if k=0 then 1 else if k=43 then 2 else if k=44 then 3 else if k=60 then 1 else 0
def sB:Nat->Nat->List Int
 | 0,_=>[]
 | _+1,0=>[]
 | _+1,1=>[0]
 | f+1,n+2=>(1::((Nat.min (n+2) 257 - 2:Nat):Int)::List.replicate (Nat.min (n+2) 257 - 2) 0)++sB f (n+2 - Nat.min (n+2) 257)
def kC (n:Nat):List Int:=sB n n
theorem bk:∀ (f g n:Nat),n<=f->n<=g->sB f n=sB g n
 | 0,0,n,_,_=>rfl
 | 0,g+1,n,h,_=>by obtain rfl:n=0:=by omega
                   rfl
 | f+1,0,n,_,h=>by obtain rfl:n=0:=by omega
                   rfl
 | f+1,g+1,0,_,_=>rfl
 | f+1,g+1,1,_,_=>rfl
 | f+1,g+1,n+2,h,h2=>by
  have hm:2<=Nat.min (n+2) 257:=by show 2<=min (n+2) 257; omega
  rw [sB,sB,bk f g (n+2 - Nat.min (n+2) 257) (by omega) (by omega)]
theorem yQ {n:Nat} (h:1<n):kC n=(1::((Nat.min n 257 - 2:Nat):Int)::List.replicate (Nat.min n 257 - 2) 0)++kC (n - Nat.min n 257):=by
 obtain ⟨k,rfl⟩ : ∃ k,n=k+2:=⟨n - 2,by omega⟩;have hm:2<=Nat.min (k+2) 257:=by show 2<=min (k+2) 257; omega
 unfold kC;rw [sB,bk (k+1) (k+2 - Nat.min (k+2) 257) _ (by omega) (Nat.le_refl _)]
theorem gp:∀ (n:Nat),(kC n).length=n:=by
 intro n
 induction n using Nat.strongRecOn with
 | ind n ih=>
  by_cases h:1<n
  ·have hm:2<=Nat.min n 257/\Nat.min n 257<=n:=by show 2<=min n 257/\min n 257<=n; omega
   rw [yQ h,List.length_append,ih _ (by omega),List.length_cons,List.length_cons,List.length_replicate];omega
  ·match n,h with
   | 0,_=>rfl
   | 1,_=>rfl
   | n+2,h=>omega
theorem JA:∀ (n:Nat),Bytes (kC n):=by
 intro n
 induction n using Nat.strongRecOn with
 | ind n ih=>
  by_cases h:1<n
  ·have hm:2<=Nat.min n 257/\Nat.min n 257<=257:=by show 2<=min n 257/\min n 257<=257; omega
   rw [yQ h];refine Bytes.app ?_ (ih _ (by omega));refine qQ (by decide) (by decide) (qQ (by omega) (by omega) (fun x hx=>?_));rw [List.eq_of_mem_replicate hx]; decide
  ·match n,h with
   | 0,_=>exact qg
   | 1,_=>exact qQ (by decide) (by decide) qg
   | n+2,h=>omega
def ff (o:Opt):List Int:=o.kind::(o.data.length:Int)::o.data
def dS (o:Opt):Prop:=o.kind<0\/o.kind > 255\/o.kind=1\/(o.kind≠0/\o.data.length > 255)
instance (o:Opt):Decidable (dS o):=by unfold dS; infer_instance
def oy (prev:Bool) (o:Opt):Prop:=o.data=[]\/prev=true\/(∃ c∈o.data,c≠0)\/o.data.length > 2046
instance (prev:Bool) (o:Opt):Decidable (oy prev o):=by unfold oy; infer_instance
def gu:Bool->List Opt->List Int->Option (List Int)
 | _,[],b=>if b.length % 8=6/\b.length<=2046 then some b else none
 | prev,o::l,b=>if dS o then none else if o.kind≠0 then gu false l (b++ff o)
   else if oy prev o then none else gu true l (b++kC o.data.length)
def qI (x:Ext):List Int × Int:=
 if x.kind<0\/x.kind > 255\/(wy x.kind≠1/\wy x.kind≠2) then ([],72)
 else if wy x.kind=1 then (if x.data≠[] then ([],72) else match gu false x.opts [] with
  | none=>([],75)
  | some b=>(b,0))
 else if x.opts≠[]\/x.data.length % 8≠6\/x.data.length > 2046 then ([],72) else (x.data,0)
def vR (next:Int):List Ext->Int
 | []=>next
 | y::_=>y.kind
def wu (next:Int):Bool->List Ext->List Int->List Int × Int
 | _,[],out=>(out,0)
 | fst,x::l,out=>if x.kind=0/\fst=false then ([],73) else if (qI x).2≠0 then ([],(qI x).2)
   else wu next false l (out++(vR next l % 256::((qI x).1.length:Int) / 8 % 256::(qI x).1))
def pA (f:Frag) (n:Int):Bool:=!decide ((f.more=true/\(n=0\/n % 8≠0))\/(f.off > 0/\n=0)) && decide (f.off+n<=65535)
def vO (h:Ip6):Int:=if h.src.v≠6\/h.dst.v≠6\/h.cls<0\/h.cls > 255\/h.flow<0\/h.flow >= 1048576\/h.hop<0\/h.hop > 255\/h.next<0\/h.next > 255 then 78 else 0
def zC (h:Ip6):Int:=
 if h.frag.has=false then (if h.frag≠Frag.z then 76 else if wy h.next≠0 then 72 else 0)
 else if h.frag.id<0\/h.frag.id >= 4294967296\/h.frag.off<0\/h.frag.off % 8≠0\/h.frag.off > 65528\/pA h.frag h.data.length=false then 76 else 0
def vL (h:Ip6):Int:=if h.frag.has=true then 44 else h.next
def vn (h:Ip6):Int:=vR (vL h) h.exts
def gi (h:Ip6):List (Nat × Int):=[(8,h.next),(8,0),(13,h.frag.off / 8),(2,0),(1,b2i h.frag.more),(32,h.frag.id)]
def qS (h:Ip6):List Int:=if h.frag.has=true then mkB 8 (zx (gi h)) else []
def zd (h:Ip6):List Int × Int:=if h.exts.length > 8 then ([],74) else wu (vL h) true h.exts []
def yW (h:Ip6):List (Nat × Int):=[(4,6),(8,h.cls),(20,h.flow),(16,(((zd h).1++qS h).length:Int)+(h.data.length:Int)),(8,vn h),(8,h.hop)]
def kz (h:Ip6):List Int:=mkB 8 (zx (yW h))++(h.src.a++(h.dst.a++(((zd h).1++qS h)++h.data)))
def zL (h:Ip6):List Int × Int:=
 if vO h≠0 then ([],vO h) else if (zd h).2≠0 then ([],(zd h).2) else if zC h≠0 then ([],zC h)
 else if 40+((zd h).1++qS h).length+h.data.length > 65535 then ([],2) else (kz h,0)
def alone (p:Pkt):Pkt:=⟨p.dst,p.src,p.tags,p.kind,if p.kind=1 then p.arp else Arp.z,if p.kind=2 then p.ip4 else Ip4.z,if p.kind=3 then p.ip6 else Ip6.z,p.l4,
 if p.l4=1 then p.icmp else Icmp.z,if p.l4=2 then p.udp else Udp.z,if p.l4=3 then p.tcp else Tcp.z⟩
def mixed (p:Pkt):Prop:=(p.kind<1\/p.kind > 3\/p.l4<0\/p.l4 > 3)\/p≠alone p\/p.l4≠zN p\/(p.l4≠0/\(qB p≠[]\/(p.l4=1/\p.icmp.v≠(qm p).v)))
instance (p:Pkt):Decidable (mixed p):=by unfold mixed; infer_instance
def qK (p:Pkt):List Int × Int:=
 if p.l4=1 then vS (qm p).src (qm p).dst p.icmp
 else if p.l4=2 then kc (qm p).src (qm p).dst p.udp
 else if p.l4=3 then ku (qm p).src (qm p).dst p.tcp
 else (qB p,0)
def vt (p:Pkt):Int:=
 if p.l4=1 then wW p.icmp else if p.l4=2 then vP (qm p).v p.udp else if p.l4=3 then ji p.tcp else 0
def yc (p:Pkt):Int:=if p.kind=2 then jt p.ip4 else (zL p.ip6).2
def wh (p:Pkt):List Int × Int:=
 if p.kind=1 then vF p.arp else if yc p≠0 then ([],yc p) else if vt p≠0 then ([],vt p)
 else if (qK p).2≠0 then ([],(qK p).2)
 else if p.kind=2 then jq (qD p (qK p).1).ip4 else zL (qD p (qK p).1).ip6
def zr (p:Pkt) (ty:Int) (b:List Int):Frm:=⟨p.dst,p.src,p.tags,ty,b⟩
def zX (p:Pkt):List Int × Int:=
 if zW (zr p 2048 [])≠0 then ([],zW (zr p 2048 [])) else if mixed p then ([],101)
 else if (wh p).2≠0 then ([],(wh p).2) else fS (zr p (vX p.kind) (wh p).1)
def xc (p:Pkt):List Int × Int:=if (zX p).2≠0 then ([],(zX p).2) else (nQ (zX p).1,0)
def ui (p:Pkt) (b:List Int):Pkt:={ qD p b with l4:=0,icmp:=Icmp.z,udp:=Udp.z,tcp:=Tcp.z }
def yB (p:Pkt):Pkt × Int:=
 if (zX p).2≠0 then (Pkt.z,(zX p).2) else if p.l4=0 then (p,0) else if (qK p).2≠0 then (Pkt.z,(qK p).2) else (ui p (qK p).1,0)
def jW (p:Pkt):Pkt × Int:=
 if (p.kind≠2/\p.kind≠3)\/p.l4≠0 then (p,0)
 else if zN p=1 then (if (wv (qm p).v (qm p).src (qm p).dst (qB p)).2≠0 then (Pkt.z,(wv (qm p).v (qm p).src (qm p).dst (qB p)).2)
  else ({ qD p [] with l4:=1,icmp:=(wv (qm p).v (qm p).src (qm p).dst (qB p)).1 },0))
 else if zN p=2 then (if (wa (qm p).src (qm p).dst (qB p)).2≠0 then (Pkt.z,(wa (qm p).src (qm p).dst (qB p)).2)
  else ({ qD p [] with l4:=2,udp:=(wa (qm p).src (qm p).dst (qB p)).1 },0))
 else if zN p=3 then (if (wN (qm p).src (qm p).dst (qB p)).2≠0 then (Pkt.z,(wN (qm p).src (qm p).dst (qB p)).2)
  else ({ qD p [] with l4:=3,tcp:=(wN (qm p).src (qm p).dst (qB p)).1 },0))
 else (p,0)
theorem xB {p:Pkt} (h:(zX p).2=0):zW (zr p 2048 [])=0/\¬ mixed p/\(wh p).2=0/\zW (zr p (vX p.kind) (wh p).1)=0/\(zX p).1=yj (zr p (vX p.kind) (wh p).1):=by
 unfold zX at h ⊢
 split at h
 ·rename_i h1; exact absurd h h1
 ·rename_i h1;rw [if_neg h1]
  split at h
  ·cases h
  ·rename_i h2;rw [if_neg h2]
   split at h
   ·rename_i h3; exact absurd h h3
   ·rename_i h3;rw [if_neg h3];unfold fS at h ⊢
    split at h
    ·rename_i h4; exact absurd h h4
    ·rename_i h4;rw [if_neg h4];exact ⟨Decidable.not_not.1 h1,h2,Decidable.not_not.1 h3,Decidable.not_not.1 h4,rfl⟩
theorem fL {p:Pkt} (h:¬ mixed p):1<=p.kind/\p.kind<=3/\0<=p.l4/\p.l4<=3/\p=alone p/\p.l4=zN p/\(p.l4≠0->qB p=[]/\(p.l4=1->p.icmp.v=(qm p).v)):=by
 unfold mixed at h;refine ⟨by omega,by omega,by omega,by omega,Decidable.byContradiction fun hx=>h (.inr (.inl hx)),Decidable.byContradiction fun hx=>h (.inr (.inr (.inl hx))),fun h0=>⟨Decidable.byContradiction fun hx=>h (.inr (.inr (.inr ⟨h0,.inl hx⟩))),fun h1=>Decidable.byContradiction fun hx=>h (.inr (.inr (.inr ⟨h0,.inr ⟨h1,hx⟩⟩)))⟩⟩
theorem cm {p:Pkt} (hk:p.kind≠1) (h:(wh p).2=0):yc p=0/\vt p=0/\(qK p).2=0/\wh p=(if p.kind=2 then jq (qD p (qK p).1).ip4 else zL (qD p (qK p).1).ip6):=by
 unfold wh at h ⊢;rw [if_neg hk] at h ⊢
 split at h
 ·rename_i h1; exact absurd h h1
 ·rename_i h1;rw [if_neg h1]
  split at h
  ·rename_i h2; exact absurd h h2
  ·rename_i h2;rw [if_neg h2]
   split at h
   ·rename_i h3; exact absurd h h3
   ·rename_i h3;rw [if_neg h3];exact ⟨Decidable.not_not.1 h1,Decidable.not_not.1 h2,Decidable.not_not.1 h3,rfl⟩
structure Pkt.Ok (p:Pkt):Prop where
 s4:p.ip4.src.Ok
 d4:p.ip4.dst.Ok
 s6:p.ip6.src.Ok
 d6:p.ip6.dst.Ok
 dst:p.dst.length=6/\Bytes p.dst
 src:p.src.length=6/\Bytes p.src
 smac:p.arp.smac.length=6/\Bytes p.arp.smac
 tmac:p.arp.tmac.length=6/\Bytes p.arp.tmac
 sip:p.arp.sip.Ok
 tip:p.arp.tip.Ok
 o4:∀ o∈p.ip4.opts,Bytes o.data
 b4:Bytes p.ip4.data
 x6:∀ x∈p.ip6.exts,Bytes x.data/\∀ o∈x.opts,Bytes o.data
 b6:Bytes p.ip6.data
 bi:Bytes p.icmp.data
 bu:Bytes p.udp.data
 ot:∀ o∈p.tcp.opts,Bytes o.data
 bt:Bytes p.tcp.data
theorem ny {p:Pkt} (h:p.Ok):(qm p).src.Ok/\(qm p).dst.Ok:=by
 unfold qm
 split
 ·exact ⟨h.s4,h.d4⟩
 ·exact ⟨h.s6,h.d6⟩
theorem aU (p:Pkt) (b:List Int):qm (qD p b)=qm p:=by
 by_cases h:p.kind=2
 ·unfold qm qD; simp [h]
 ·unfold qm qD; simp [h]
theorem tt (p:Pkt) (b:List Int):qm (ui p b)=qm p:=aU p b
theorem bg (p:Pkt) (b:List Int):(qD p b).kind=p.kind:=by unfold qD; split <;> rfl
theorem bA (p:Pkt) (b:List Int):(ui p b).kind=p.kind:=bg p b
theorem sQ (p:Pkt) (b:List Int):zN (ui p b)=zN p:=by unfold zN; rw [tt,bA]
theorem aO {p:Pkt} (b:List Int):qB (ui p b)=b:=by
 by_cases h:p.kind=2
 ·unfold qB ui qD; simp [h]
 ·unfold qB ui qD; simp [h]
theorem ac {p:Pkt} (b:List Int) (h:qB p=[]):qD (qD p b) []=p:=by
 unfold qB at h;obtain ⟨a1,a2,a3,k,a5,i4,i6,l,m,u,t⟩:=p;obtain ⟨f1,f2,f3,f4,f5,f6,f7,f8,f9,f10,f11⟩:=i4;obtain ⟨g1,g2,g3,g4,g5,g6,g7,g8,g9⟩:=i6
 by_cases hk:k=2
 ·subst hk;simp at h;subst h;rfl
 ·simp [hk] at h;subst h;simp [qD,hk]
theorem aY (p:Pkt) (b:List Int):qD (ui p b) []={ qD (qD p b) [] with l4:=0,icmp:=Icmp.z,udp:=Udp.z,tcp:=Tcp.z }:=by
 by_cases h:p.kind=2
 ·unfold ui qD; simp [h]
 ·unfold ui qD; simp [h]
theorem mA {p:Pkt} (h:¬ mixed p):jW p=(p,0):=by
 obtain ⟨h1,h2,h3,h4,h5,h6,h7⟩:=fL h;unfold jW
 by_cases h0:p.l4=0
 ·by_cases hk:p.kind≠2/\p.kind≠3
  ·rw [if_pos (.inl hk)]
  ·rw [if_neg (by omega),if_neg (by omega),if_neg (by omega),if_neg (by omega)]
 ·rw [if_pos (.inr h0)]
theorem sr {p:Pkt} (ok:p.Ok) (h:(yB p).2=0):jW (yB p).1=(p,0)/\(yB p).1.l4=0/\jW p=(p,0)/\(yB p).1.icmp=Icmp.z/\(yB p).1.udp=Udp.z/\(yB p).1.tcp=Tcp.z:=by
 unfold yB at h ⊢
 by_cases hm:(zX p).2=0
 ·rw [if_neg (by simpa using hm)] at h ⊢;obtain ⟨q1,q2,q3,q4,q5⟩:=xB hm;have hself:=mA q2;obtain ⟨h1,h2,h3,h4,h5,h6,h7⟩:=fL q2
  by_cases h0:p.l4=0
  ·rw [if_pos h0];refine ⟨hself,h0,hself,?_,?_,?_⟩
   ·rw [show p.icmp=(alone p).icmp from congrArg Pkt.icmp h5]
    show (if p.l4=1 then p.icmp else Icmp.z)=_;rw [if_neg (by omega)]
   ·rw [show p.udp=(alone p).udp from congrArg Pkt.udp h5]
    show (if p.l4=2 then p.udp else Udp.z)=_;rw [if_neg (by omega)]
   ·rw [show p.tcp=(alone p).tcp from congrArg Pkt.tcp h5]
    show (if p.l4=3 then p.tcp else Tcp.z)=_;rw [if_neg (by omega)]
  ·rw [if_neg h0] at h ⊢
   by_cases ha:(qK p).2=0
   ·rw [if_neg (by simpa using ha)];refine ⟨?_,rfl,hself,rfl,rfl,rfl⟩;obtain ⟨d0,d1⟩:=h7 h0;have hk1:p.kind≠1:=fun hk=>h0 (by rw [h6]; unfold zN; rw [if_pos (.inl hk)])
    have he:=ny ok;have eL:=sQ p (qK p).1;have eE:=tt p (qK p).1;have eK:=bA p (qK p).1;have eD:=aO (p:=p) (qK p).1;have eW:qD (ui p (qK p).1) []={ p with l4:=0,icmp:=Icmp.z,udp:=Udp.z,tcp:=Tcp.z }:=by rw [aY,ac _ d0]
    have r:∀ (a b c:_),(({ p with l4:=0,icmp:=Icmp.z,udp:=Udp.z,tcp:=Tcp.z }:Pkt))=({ p with l4:=0,icmp:=Icmp.z,udp:=Udp.z,tcp:=Tcp.z }:Pkt):=fun (_ _ _:Nat)=>rfl
    have z1:p.l4≠1->p.icmp=Icmp.z:=fun hx=>by
     rw [show p.icmp=(alone p).icmp from congrArg Pkt.icmp h5]
     show (if p.l4=1 then p.icmp else Icmp.z)=_;rw [if_neg hx]
    have z2:p.l4≠2->p.udp=Udp.z:=fun hx=>by
     rw [show p.udp=(alone p).udp from congrArg Pkt.udp h5]
     show (if p.l4=2 then p.udp else Udp.z)=_;rw [if_neg hx]
    have z3:p.l4≠3->p.tcp=Tcp.z:=fun hx=>by
     rw [show p.tcp=(alone p).tcp from congrArg Pkt.tcp h5]
     show (if p.l4=3 then p.tcp else Tcp.z)=_;rw [if_neg hx]
    unfold jW
    rw [eL,eE,eK,eD,<-h6,if_neg (by
     intro hx
     rcases hx with hx | hx
     ·omega
     ·exact hx rfl),eW]
    clear eW eD eE eK eL r q1 q2 q3 q4 q5 hself
    obtain hl | hl | hl:p.l4=1\/p.l4=2\/p.l4=3:=by omega
    ·have hab:qK p=vS (qm p).src (qm p).dst p.icmp:=by unfold qK; rw [if_pos hl]
     rw [hab] at ha ⊢;have hr:=sK he.1 he.2 ok.bi ha;rw [d1 hl] at hr;rw [if_pos hl,hr,if_neg (by simp)];have e2:=z2 (by omega);have e3:=z3 (by omega);obtain ⟨a1,a2,a3,k,a5,i4,i6,l,m,u,t⟩:=p;dsimp only at hl e2 e3;subst hl e2 e3;rfl
    ·have hab:qK p=kc (qm p).src (qm p).dst p.udp:=by unfold qK; rw [if_neg (by omega),if_pos hl]
     rw [hab] at ha ⊢;have hr:=aX he.1 he.2 ok.bu ha;rw [if_neg (by omega),if_pos hl,hr,if_neg (by simp)];have e2:=z1 (by omega);have e3:=z3 (by omega);obtain ⟨a1,a2,a3,k,a5,i4,i6,l,m,u,t⟩:=p;dsimp only at hl e2 e3;subst hl e2 e3;rfl
    ·have hab:qK p=ku (qm p).src (qm p).dst p.tcp:=by unfold qK; rw [if_neg (by omega),if_neg (by omega),if_pos hl]
     rw [hab] at ha ⊢;have hr:=ov he.1 he.2 ok.bt ok.ot ha;rw [if_neg (by omega),if_neg (by omega),if_pos hl,hr,if_neg (by simp)];have e2:=z1 (by omega);have e3:=z2 (by omega);obtain ⟨a1,a2,a3,k,a5,i4,i6,l,m,u,t⟩:=p;dsimp only at hl e2 e3;subst hl e2 e3;rfl
   ·rw [if_pos (by simpa using ha)] at h;exact absurd h ha
 ·rw [if_pos (by simpa using hm)] at h;exact absurd h hm
def wo (run:Nat) (l:List Opt):List Opt:=if run=0 then l else ⟨0,List.replicate run 0⟩::l
def jh:Nat->Nat->List Int->Option (List Opt)
 | _,run,[]=>some (wo run [])
 | 0,_,_::_=>none
 | f+1,run,[k]=>if k=0 then jh f (run+1) [] else none
 | f+1,run,k::n::r'=>if k=0 then jh f (run+1) (n::r') else if n > r'.length then none else if k=1 then jh f (run+2+n.toNat) (r'.drop n.toNat)
   else (jh f 0 (r'.drop n.toNat)).map (fun l=>wo run (⟨k,r'.take n.toNat⟩::l))
theorem jJ:∀ (f g run:Nat) (b:List Int),b.length<=f->b.length<=g->jh f run b=jh g run b
 | f,g,run,[],_,_=>by cases f <;> cases g <;> rfl
 | 0,g,run,k::r,h,_=>by simp at h
 | f+1,0,run,k::r,_,h=>by simp at h
 | f+1,g+1,run,[k],h,h2=>by
  show (if k=0 then jh f (run+1) [] else none)=if k=0 then jh g (run+1) [] else none
  rw [jJ f g _ [] (by simp) (by simp)]
 | f+1,g+1,run,k::n::r',h,h2=>by
  rw [List.length_cons,List.length_cons] at h h2;rw [jh,jh,jJ f g _ (n::r') (by rw [List.length_cons]; omega) (by rw [List.length_cons]; omega),jJ f g _ (r'.drop n.toNat) (by rw [List.length_drop]; omega) (by rw [List.length_drop]; omega),jJ f g 0 (r'.drop n.toNat) (by rw [List.length_drop]; omega) (by rw [List.length_drop]; omega)]
def vC (run:Nat) (b:List Int):Option (List Opt):=jh b.length run b
theorem ap (run:Nat):vC run []=some (wo run []):=rfl
theorem uA (run:Nat) (r:List Int):vC run (0::r)=vC (run+1) r:=by
 unfold vC
 match r with
 | []=>rfl
 | n::r'=>rw [List.length_cons,jh,if_pos rfl]
theorem fH {run:Nat} {k n:Int} {r:List Int} (hk:k≠0):vC run (k::n::r)=if n > r.length then none else if k=1 then vC (run+2+n.toNat) (r.drop n.toNat) else (vC 0 (r.drop n.toNat)).map (fun l=>wo run (⟨k,r.take n.toNat⟩::l)):=by
 unfold vC;rw [List.length_cons,jh,if_neg hk,jJ (n::r).length _ _ (r.drop n.toNat) (by rw [List.length_drop,List.length_cons]; omega) (Nat.le_refl _),jJ (n::r).length _ 0 (r.drop n.toNat) (by rw [List.length_drop,List.length_cons]; omega) (Nat.le_refl _)]
theorem iY {run:Nat} {k:Int} (hk:k≠0):vC run [k]=none:=by
 unfold vC
 show jh (0+1) run [k]=none;rw [jh,if_neg hk]
theorem aA:∀ (n run:Nat) (r:List Int),vC run (kC n++r)=vC (run+n) r:=by
 intro n
 induction n using Nat.strongRecOn with
 | ind n ih=>
  intro run r
  by_cases h:1<n
  ·have hm:2<=Nat.min n 257/\Nat.min n 257<=n:=by show 2<=min n 257/\min n 257<=n; omega
   rw [yQ h];generalize Nat.min n 257=m at hm ⊢
   show vC run (1::((m - 2:Nat):Int)::(List.replicate (m - 2) 0++kC (n - m)++r))=_;rw [fH (by decide),if_neg (by simp only [List.length_append,List.length_replicate]; omega),if_pos rfl,Int.toNat_natCast,List.append_assoc,List.drop_left' (by rw [List.length_replicate]),ih (n - m) (by omega)];rw [show run+2+(m - 2)+(n - m)=run+n by omega]
  ·match n,h with
   | 0,_=>rfl
   | 1,_=>exact uA run r
   | n+2,h=>omega
theorem mE:∀ (l:List Opt) (prev:Bool) (run:Nat) (b c:List Int),(prev=false->run=0)->gu prev l b=some c->∃ t,c=b++t/\vC run t=some (wo run l)
 | [],prev,run,b,c,hr,h=>by
  rw [gu] at h
  split at h
  ·injection h with h; exact ⟨[],by rw [List.append_nil,h],rfl⟩
  ·cases h
 | o::l,prev,run,b,c,hr,h=>by
  rw [gu] at h
  split at h
  ·cases h
  ·rename_i h1;unfold dS at h1
   split at h
   ·rename_i h2;obtain ⟨t,h3,h4⟩:=mE l false 0 _ c (fun _=>rfl) h;refine ⟨ff o++t,by rw [h3,List.append_assoc],?_⟩
    show vC run (o.kind::(o.data.length:Int)::(o.data++t))=_;rw [fH h2,if_neg (by rw [List.length_append]; omega),if_neg (by omega),Int.toNat_natCast,List.drop_left,List.take_left,h4];rfl
   ·rename_i h2
    split at h
    ·cases h
    ·rename_i h5;unfold oy at h5
     have hp:prev=false:=by cases prev with
      | false=>rfl
      | true=>exact absurd (.inr (.inl rfl)) h5
     have hz:o.data=List.replicate o.data.length 0:=List.eq_replicate_iff.2 ⟨rfl,fun x hx=>Decidable.byContradiction fun hne=>h5 (.inr (.inr (.inl ⟨x,hx,hne⟩)))⟩;have hne:o.data.length≠0:=fun h0=>h5 (.inl (List.length_eq_zero_iff.1 h0))
     obtain ⟨t,h3,h4⟩:=mE l true o.data.length _ c (fun hx=>by cases hx) h;refine ⟨kC o.data.length++t,by rw [h3,List.append_assoc],?_⟩;rw [aA,hr hp,Nat.zero_add,h4];unfold wo;rw [if_neg hne,if_pos rfl,<-hz];have:o.kind=0:=Decidable.not_not.1 h2;rw [<-this]
theorem cO:∀ (l:List Opt) (prev:Bool) (b c:List Int),gu prev l b=some c->c.length % 8=6/\c.length<=2046
 | [],prev,b,c,h=>by
  rw [gu] at h
  split at h
  ·rename_i h1; injection h with h; rw [<-h]; exact h1
  ·cases h
 | o::l,prev,b,c,h=>by
  rw [gu] at h
  split at h
  ·cases h
  ·split at h
   ·exact cO l _ _ c h
   ·split at h
    ·cases h
    ·exact cO l _ _ c h
theorem fC:∀ (l:List Opt) (prev:Bool) (b c:List Int),Bytes b->(∀ o∈l,Bytes o.data)->gu prev l b=some c->Bytes c
 | [],prev,b,c,hb,ho,h=>by
  rw [gu] at h
  split at h
  ·injection h with h; rw [<-h]; exact hb
  ·cases h
 | o::l,prev,b,c,hb,ho,h=>by
  rw [gu] at h
  split at h
  ·cases h
  ·rename_i h1;unfold dS at h1
   split at h
   ·exact fC l _ _ c (hb.app (qQ (by omega) (by omega) (qQ (by omega) (by omega) (ho o (List.mem_cons_self ..))))) (fun x hx=>ho x (List.mem_cons_of_mem _ hx)) h
   ·split at h
    ·cases h
    ·exact fC l _ _ c (hb.app (JA _)) (fun x hx=>ho x (List.mem_cons_of_mem _ hx)) h
theorem cB {x:Ext} (h:(qI x).2=0):0<=x.kind/\x.kind<=255/\(qI x).1.length % 8=6/\(qI x).1.length<=2046/\
  ((wy x.kind=1/\x.data=[]/\vC 0 (qI x).1=some x.opts)\/(wy x.kind=2/\x.opts=[]/\(qI x).1=x.data)):=by
 unfold qI at h ⊢
 split at h
 ·cases h
 ·rename_i h1;rw [if_neg h1]
  split at h
  ·rename_i h2;rw [if_pos h2]
   split at h
   ·cases h
   ·rename_i h3;rw [if_neg h3]
    cases hp:gu false x.opts [] with
    | none=>rw [hp] at h; cases h
    | some b=>
     have hl:=cO _ _ _ _ hp;obtain ⟨t,g1,g2⟩:=mE _ _ 0 _ _ (fun _=>rfl) hp;rw [List.nil_append] at g1;subst g1;exact ⟨by omega,by omega,hl.1,hl.2,.inl ⟨h2,Decidable.not_not.1 h3,g2⟩⟩
  ·rename_i h2;rw [if_neg h2]
   split at h
   ·cases h
   ·rename_i h3;rw [if_neg h3];exact ⟨by omega,by omega,by show x.data.length % 8=6; omega,by show x.data.length<=2046; omega,.inr ⟨by omega,Decidable.byContradiction fun hx=>h3 (.inl hx),rfl⟩⟩
theorem lD {x:Ext} (hb:Bytes x.data) (ho:∀ o∈x.opts,Bytes o.data):Bytes (qI x).1:=by
 unfold qI
 split
 ·exact qg
 ·split
  ·split
   ·exact qg
   ·cases hp:gu false x.opts [] with
    | none=>exact qg
    | some b=>exact fC _ _ _ _ qg ho hp
  ·split
   ·exact qg
   ·exact hb
def pz (exts:List Ext) (r:List Int):Chn × Int:=
 if r.length<8 then (Chn.z,72)
 else if pA ⟨true,fld r 31 1 == 1,fld r 32 32,8 * fld r 16 13⟩ ((r.length:Int) - 8)=false then (Chn.z,76)
 else (⟨exts,⟨true,fld r 31 1 == 1,fld r 32 32,8 * fld r 16 13⟩,fld r 0 8,r.drop 8⟩,0)
def yT (r:List Int):Nat:=8 * (qk r 1).toNat+6
def wJ:Nat->Bool->List Ext->Int->List Int->Chn × Int
 | 0,_,_,_,_=>(Chn.z,0)
 | f+1,fst,exts,next,r=>if wy next=0 then (⟨exts,Frag.z,next,r⟩,0) else if wy next=3 then pz exts r
  else if next=0/\fst=false then (Chn.z,73) else if exts.length=8 then (Chn.z,74) else if r.length<8 then (Chn.z,72)
  else if yT r > r.length - 2 then (Chn.z,72)
  else if wy next=2 then wJ f false (exts++[⟨next,[],(r.drop 2).take (yT r)⟩]) (qk r 0) (r.drop (2+yT r))
  else match vC 0 ((r.drop 2).take (yT r)) with
   | none=>(Chn.z,75)
   | some l=>wJ f false (exts++[⟨next,l,[]⟩]) (qk r 0) (r.drop (2+yT r))
theorem pO {next:Int} (hn:0<=next/\next<=255):∀ (l:List Ext) (fst:Bool) (exts:List Ext) (f:Nat) (out c rest:List Int),wu next fst l out=(c,0)->exts.length+l.length<=8->l.length<=f->
  ∃ t g,c=out++t/\wJ f fst exts (vR next l) (t++rest)=wJ (f - l.length) g (exts++l) next rest
 | [],fst,exts,f,out,c,rest,h,_,_=>by
  rw [wu] at h;injection h with h h2;exact ⟨[],fst,by rw [List.append_nil,h],by rw [List.append_nil]; rfl⟩
 | x::l,fst,exts,f,out,c,rest,h,he,hf=>by
  rw [List.length_cons] at he hf;rw [wu] at h
  split at h
  ·injection h with h h2; cases h2
  ·rename_i h1
   split at h
   ·rename_i h2; injection h with h h3; exact absurd h3 h2
   ·rename_i h2;have hx:=cB (Decidable.not_not.1 h2);obtain ⟨t,g,h3,h4⟩:=pO hn l false (exts++[x]) (f - 1) _ c rest h (by rw [List.length_append]; simp; omega) (by omega);obtain ⟨k1,k2,k3,k4,k5⟩:=hx
    have hth:vR next l % 256=vR next l:=by
     match l,h with
     | [],_=>exact Int.emod_eq_of_lt hn.1 (by show next<256; omega)
     | y::l',h=>
      rw [wu] at h
      split at h
      ·injection h with h h2; cases h2
      ·split at h
       ·rename_i h2; injection h with h h3; exact absurd h3 h2
       ·rename_i h5;have:=cB (Decidable.not_not.1 h5);exact Int.emod_eq_of_lt this.1 (by show y.kind<256; omega)
    refine ⟨vR next l % 256::((qI x).1.length:Int) / 8 % 256::(qI x).1++t,g,by rw [h3,List.append_assoc],?_⟩;rw [hth];obtain ⟨f,rfl⟩ : ∃ g,f=g+1:=⟨f - 1,by omega⟩
    show wJ (f+1) fst exts x.kind (vR next l::((qI x).1.length:Int) / 8 % 256::((qI x).1++t++rest))=_
    have hll:yT (vR next l::((qI x).1.length:Int) / 8 % 256::((qI x).1++t++rest))=(qI x).1.length:=by
     unfold yT
     show 8 * (((qI x).1.length:Int) / 8 % 256).toNat+6=_;omega
    have hlen:(vR next l::((qI x).1.length:Int) / 8 % 256::((qI x).1++t++rest)).length=2+((qI x).1.length+t.length+rest.length):=by simp; omega
    have hbody:((vR next l::((qI x).1.length:Int) / 8 % 256::((qI x).1++t++rest)).drop 2).take (qI x).1.length=(qI x).1:=by
     show ((qI x).1++t++rest).take _=_;rw [List.append_assoc,List.take_left]
    have hrest:(vR next l::((qI x).1.length:Int) / 8 % 256::((qI x).1++t++rest)).drop (2+(qI x).1.length)=t++rest:=by
     rw [<-List.drop_drop]
     show ((qI x).1++t++rest).drop _=_;rw [List.append_assoc,List.drop_left]
    have hget:qk (vR next l::((qI x).1.length:Int) / 8 % 256::((qI x).1++t++rest)) 0=vR next l:=rfl;have e8:exts++x::l=exts++[x]++l:=by simp
    rw [Nat.add_sub_cancel] at h4;rw [show f+1 - (x::l).length=f - l.length by simp,e8,<-h4]
    rw [wJ,if_neg (by rcases k5 with k | k <;> omega),if_neg (by rcases k5 with k | k <;> omega),if_neg (by
     intro hx; exact h1 hx),if_neg (by omega),hll,hlen,if_neg (by omega),if_neg (by omega),hbody,hrest,hget]
    obtain ⟨xk,xo,xd⟩:=x
    rcases k5 with ⟨k5,k6,k7⟩ | ⟨k5,k6,k7⟩
    ·rw [if_neg (by rw [k5]; decide),k7];dsimp only at k6;subst k6;rfl
    ·rw [if_pos k5,k7];dsimp only at k6;subst k6;rfl
def zv (b:List Int):Ip6 × Int:=
 if b.length > 65535 then (Ip6.z,2) else if b.length<40 then (Ip6.z,70) else if fld b 0 4≠6 then (Ip6.z,71)
 else if fld b 32 16 >(b.length:Int) - 40 then (Ip6.z,70)
 else if (wJ 9 true [] (fld b 48 8) ((b.drop 40).take (fld b 32 16).toNat)).2≠0 then (Ip6.z,(wJ 9 true [] (fld b 48 8) ((b.drop 40).take (fld b 32 16).toNat)).2)
 else (⟨fld b 4 8,fld b 12 20,fld b 56 8,⟨6,(b.take 24).drop 8⟩,⟨6,(b.take 40).drop 24⟩,(wJ 9 true [] (fld b 48 8) ((b.drop 40).take (fld b 32 16).toNat)).1.exts,(wJ 9 true [] (fld b 48 8) ((b.drop 40).take (fld b 32 16).toNat)).1.frag,
  (wJ 9 true [] (fld b 48 8) ((b.drop 40).take (fld b 32 16).toNat)).1.next,(wJ 9 true [] (fld b 48 8) ((b.drop 40).take (fld b 32 16).toNat)).1.data⟩,0)
theorem cE {h:Ip6} (c:(zL h).2=0):vO h=0/\(zd h).2=0/\zC h=0/\40+((zd h).1++qS h).length+h.data.length<=65535/\(zL h).1=kz h:=by
 unfold zL at c ⊢
 split at c
 ·rename_i h1; exact absurd c h1
 ·rename_i h1;rw [if_neg h1]
  split at c
  ·rename_i h2; exact absurd c h2
  ·rename_i h2;rw [if_neg h2]
   split at c
   ·rename_i h3; exact absurd c h3
   ·rename_i h3;rw [if_neg h3]
    split at c
    ·cases c
    ·rename_i h4;rw [if_neg h4];exact ⟨Decidable.not_not.1 h1,Decidable.not_not.1 h2,Decidable.not_not.1 h3,by omega,rfl⟩
theorem kY {h:Ip6} (c:vO h=0):h.src.v=6/\h.dst.v=6/\0<=h.cls/\h.cls<=255/\0<=h.flow/\h.flow<1048576/\0<=h.hop/\h.hop<=255/\0<=h.next/\h.next<=255:=by
 unfold vO at c
 split at c
 ·cases c
 ·rename_i h1;refine ⟨by omega,by omega,by omega,by omega,by omega,by omega,by omega,by omega,by omega,by omega⟩
theorem ax {h:Ip6} (c:vO h=0) (c2:zC h=0) (hh:h.frag.has=true) (q:List Int) :
  fld (qS h++q) 0 8=h.next/\fld (qS h++q) 16 13=h.frag.off / 8/\fld (qS h++q) 31 1=b2i h.frag.more/\fld (qS h++q) 32 32=h.frag.id/\(qS h).length=8/\0<=h.frag.off/\h.frag.off % 8=0/\pA h.frag h.data.length=true:=by
 have hz:=kY c;unfold zC at c2;rw [if_neg (by rw [hh]; decide)] at c2
 split at c2
 ·cases c2
 ·rename_i h1;have hb:=b2i_r h.frag.more
  have hf:vx (mkB 8 (zx (gi h))) 0 [8,8,13,2,1,32]=[h.next,0,h.frag.off / 8,0,b2i h.frag.more,h.frag.id]:=
   gU (ps:=gi h) (k:=8) (fun p hp=>by
    unfold gi at hp;simp only [List.mem_cons,List.mem_nil_iff,or_false] at hp
    rcases hp with rfl | rfl | rfl | rfl | rfl | rfl <;> simp <;> omega) rfl
  have e:qS h=mkB 8 (zx (gi h)):=by unfold qS; rw [if_pos hh]
  simp only [vx,List.cons.injEq,Nat.zero_add,Nat.reduceAdd] at hf;obtain ⟨f0,f1,f2,f3,f4,f5,_⟩:=hf;rw [e,vQ (by rw [qR]; omega),vQ (by rw [qR]; omega),vQ (by rw [qR]; omega),vQ (by rw [qR]; omega)];refine ⟨f0,f2,f4,f5,qR _ _,by omega,by omega,?_⟩
  cases hfit:pA h.frag h.data.length with
  | true=>rfl
  | false=>exact absurd (.inr (.inr (.inr (.inr (.inr hfit))))) h1
theorem az {h:Ip6} (c:vO h=0) (c2:zC h=0) (f:Nat) (g:Bool) (exts:List Ext):wJ (f+1) g exts (vL h) (qS h++h.data)=(⟨exts,h.frag,h.next,h.data⟩,0):=by
 cases hh:h.frag.has with
 | false=>
  have e1:vL h=h.next:=by unfold vL; rw [if_neg (by rw [hh]; decide)]
  have e2:qS h=[]:=by unfold qS; rw [if_neg (by rw [hh]; decide)]
  unfold zC at c2;rw [if_pos hh] at c2
  split at c2
  ·cases c2
  ·rename_i h1
   split at c2
   ·cases c2
   ·rename_i h2;rw [e1,e2,wJ,if_pos (Decidable.not_not.1 h2),Decidable.not_not.1 h1];rfl
 | true=>
  have e1:vL h=44:=by unfold vL; rw [if_pos hh]
  obtain ⟨f0,f1,f2,f3,f4,f5,f6,f7⟩:=ax c c2 hh h.data;rw [e1,wJ,if_neg (by decide),if_pos (by decide)];unfold pz;have hl:(qS h++h.data).length=8+h.data.length:=by rw [List.length_append,f4]
  have hd:(qS h++h.data).drop 8=h.data:=List.drop_left' f4
  have e3:(⟨true,fld (qS h++h.data) 31 1 == 1,fld (qS h++h.data) 32 32,8 * fld (qS h++h.data) 16 13⟩ : Frag)=h.frag:=by
   rw [f1,f2,f3,b2i_eq,show 8 * (h.frag.off / 8)=h.frag.off by omega,<-hh]
  have e4:((qS h++h.data).length:Int) - 8=h.data.length:=by omega
  rw [e3,e4,f7,if_neg (by omega),if_neg (by decide),f0,hd]
theorem rG {h:Ip6} (c:vO h=0) (c1:(zd h).2=0):0<=vn h/\vn h<=255:=by
 have hz:=kY c;unfold vn;unfold zd at c1
 split at c1
 ·cases c1
 ·match hx:h.exts with
  | []=>
   show 0<=vL h/\vL h<=255;unfold vL; split <;> omega
  | x::l=>
   rw [hx,wu] at c1
   split at c1
   ·cases c1
   ·split at c1
    ·rename_i h2; exact absurd c1 h2
    ·rename_i h2;have:=cB (Decidable.not_not.1 h2);exact ⟨this.1,this.2.1⟩
theorem oc {h:Ip6} (c:(zL h).2=0) (q:List Int) :
  fld (kz h++q) 0 4=6/\fld (kz h++q) 4 8=h.cls/\fld (kz h++q) 12 20=h.flow/\fld (kz h++q) 32 16=(((zd h).1++qS h).length:Int)+(h.data.length:Int)/\fld (kz h++q) 48 8=vn h/\fld (kz h++q) 56 8=h.hop:=by
 obtain ⟨h1,h2,h3,h4,h5⟩:=cE c;have hz:=kY h1;have hf6:=rG h1 h2;have h4':=h4;rw [List.length_append] at h4'
 have hf:vx (mkB 8 (zx (yW h))) 0 [4,8,20,16,8,8]=[6,h.cls,h.flow,(((zd h).1++qS h).length:Int)+(h.data.length:Int),vn h,h.hop]:=
  gU (ps:=yW h) (k:=8) (fun p hp=>by
   unfold yW at hp;simp only [List.mem_cons,List.mem_nil_iff,or_false] at hp
   rcases hp with rfl | rfl | rfl | rfl | rfl | rfl <;> simp <;> omega) rfl
 simp only [vx,List.cons.injEq,Nat.zero_add,Nat.reduceAdd] at hf;obtain ⟨f0,f1,f2,f3,f4,f5,_⟩:=hf;unfold kz;rw [List.append_assoc,vQ (by rw [qR]; omega),vQ (by rw [qR]; omega),vQ (by rw [qR]; omega),vQ (by rw [qR]; omega),vQ (by rw [qR]; omega),vQ (by rw [qR]; omega)];exact ⟨f0,f1,f2,f3,f4,f5⟩
theorem oj {h:Ip6} (hs:h.src.Ok) (hd:h.dst.Ok) (c:(zL h).2=0) (q:List Int) (hq:(zL h).1.length+q.length<=65535):zv ((zL h).1++q)=(h,0):=by
 obtain ⟨h1,h2,h3,h4,h5⟩:=cE c;rw [h5] at hq ⊢;have hz:=kY h1;obtain ⟨f0,f1,f2,f3,f4,f5⟩:=oc c q;have l1:=hs.1;have l2:=hd.1;have hE:∃ cc,zd h=(cc,0):=⟨(zd h).1,by rw [<-h2]⟩;obtain ⟨cc,hE⟩:=hE;have hE1:(zd h).1=cc:=by rw [hE]
 have hn:0<=vL h/\vL h<=255:=by unfold vL; split <;> omega
 have hw:wJ 9 true [] (vn h) (cc++qS h++h.data)=(⟨h.exts,h.frag,h.next,h.data⟩,0):=by
  have hE':=hE;unfold zd at hE'
  split at hE'
  ·injection hE' with _ hx; cases hx
  ·rename_i hl;obtain ⟨t,g,g1,g2⟩:=pO hn h.exts true [] 9 [] cc (qS h++h.data) hE' (by simp; omega) (by omega);rw [List.nil_append] at g1;subst g1;rw [List.append_assoc];refine g2.trans ?_;obtain ⟨f,hf⟩ : ∃ f,9 - h.exts.length=f+1:=⟨8 - h.exts.length,by omega⟩;rw [hf,az h1 h3,List.nil_append]
 have hH:(mkB 8 (zx (yW h))).length=8:=qR _ _
 have hlen:(kz h).length=40+((zd h).1++qS h).length+h.data.length:=by
  unfold kz;rw [List.length_append,List.length_append,List.length_append,List.length_append,hH,l1,l2];omega
 have hsplit:kz h++q=mkB 8 (zx (yW h))++(h.src.a++(h.dst.a++(cc++qS h++h.data++q))):=by
  unfold kz;rw [hE1];simp only [List.append_assoc]
 have e40:(kz h++q).drop 40=cc++qS h++h.data++q:=by
  rw [hsplit,<-List.append_assoc,<-List.append_assoc,List.drop_left' (by rw [List.length_append,List.length_append,hH,l1,l2])]
 have e24:(((kz h++q).take 24).drop 8)=h.src.a:=by
  rw [hsplit,<-List.append_assoc,List.take_left' (by rw [List.length_append,hH,l1]),List.drop_left' hH]
 have e41:(((kz h++q).take 40).drop 24)=h.dst.a:=by
  rw [hsplit,<-List.append_assoc,<-List.append_assoc,List.take_left' (by rw [List.length_append,List.length_append,hH,l1,l2]),List.drop_left' (by rw [List.length_append,hH,l1])]
 have hL:(kz h++q).length=(kz h).length+q.length:=List.length_append
 have et:(cc++qS h++h.data++q).take ((((zd h).1++qS h).length:Int)+(h.data.length:Int)).toNat=cc++qS h++h.data:=by
  have e:(cc++qS h++h.data).length=(cc++qS h).length+h.data.length:=List.length_append;rw [hE1,List.take_left' (by omega)]
 have s1:(⟨6,h.src.a⟩ : Ip)=h.src:=by rw [<-hz.1]
 have s2:(⟨6,h.dst.a⟩ : Ip)=h.dst:=by rw [<-hz.2.1]
 unfold zv;rw [f0,f1,f2,f3,f4,f5,e40,e24,e41,et,hw,if_neg (by omega),if_neg (by omega),if_neg (by decide),if_neg (by omega),if_neg (by simp),s1,s2]
def bare (f:Frm) (k:Int):Pkt:={ Pkt.z with dst:=f.dst,src:=f.src,tags:=f.tags,kind:=k }
def gQ (b:List Int):Pkt × Int:=
 if (qo b).2≠0 then (Pkt.z,(qo b).2)
 else if (qo b).1.type=2054 then (if (zy (qo b).1.data).2≠0 then (Pkt.z,(zy (qo b).1.data).2) else jW { bare (qo b).1 1 with arp:=(zy (qo b).1.data).1 })
 else if (qo b).1.type=2048 then (if (qO (qo b).1.data).2≠0 then (Pkt.z,(qO (qo b).1.data).2) else jW { bare (qo b).1 2 with ip4:=(qO (qo b).1.data).1 })
 else if (qo b).1.type=34525 then (if (zv (qo b).1.data).2≠0 then (Pkt.z,(zv (qo b).1.data).2) else jW { bare (qo b).1 3 with ip6:=(zv (qo b).1.data).1 })
 else (Pkt.z,100)
theorem rD {p:Pkt} (h:p=alone p):(p.kind≠1->p.arp=Arp.z)/\(p.kind≠2->p.ip4=Ip4.z)/\(p.kind≠3->p.ip6=Ip6.z)/\(p.l4≠1->p.icmp=Icmp.z)/\(p.l4≠2->p.udp=Udp.z)/\(p.l4≠3->p.tcp=Tcp.z):=by
 refine ⟨fun hx=>?_,fun hx=>?_,fun hx=>?_,fun hx=>?_,fun hx=>?_,fun hx=>?_⟩
 ·rw [show p.arp=(alone p).arp from congrArg Pkt.arp h]
  show (if p.kind=1 then p.arp else Arp.z)=_;rw [if_neg hx]
 ·rw [show p.ip4=(alone p).ip4 from congrArg Pkt.ip4 h]
  show (if p.kind=2 then p.ip4 else Ip4.z)=_;rw [if_neg hx]
 ·rw [show p.ip6=(alone p).ip6 from congrArg Pkt.ip6 h]
  show (if p.kind=3 then p.ip6 else Ip6.z)=_;rw [if_neg hx]
 ·rw [show p.icmp=(alone p).icmp from congrArg Pkt.icmp h]
  show (if p.l4=1 then p.icmp else Icmp.z)=_;rw [if_neg hx]
 ·rw [show p.udp=(alone p).udp from congrArg Pkt.udp h]
  show (if p.l4=2 then p.udp else Udp.z)=_;rw [if_neg hx]
 ·rw [show p.tcp=(alone p).tcp from congrArg Pkt.tcp h]
  show (if p.l4=3 then p.tcp else Tcp.z)=_;rw [if_neg hx]
theorem cK {p:Pkt} (ok:p.Ok) (hm:(zX p).2=0) (hk:p.kind≠1):jW { (qD p (qK p).1) with l4:=0,icmp:=Icmp.z,udp:=Udp.z,tcp:=Tcp.z }=(p,0):=by
 obtain ⟨q1,q2,q3,q4,q5⟩:=xB hm;obtain ⟨h1,h2,h3,h4,h5,h6,h7⟩:=fL q2;obtain ⟨z1,z2,z3,z4,z5,z6⟩:=rD h5
 by_cases h0:p.l4=0
 ·have e:({ (qD p (qK p).1) with l4:=0,icmp:=Icmp.z,udp:=Udp.z,tcp:=Tcp.z }:Pkt)=p:=by
   have e1:qK p=(qB p,0):=by unfold qK; rw [if_neg (by omega),if_neg (by omega),if_neg (by omega)]
   have e2:qD p (qB p)=p:=by unfold qD qB; split <;> rfl
   rw [e1,e2];have:=z4 (by omega); have:=z5 (by omega); have:=z6 (by omega);obtain ⟨a1,a2,a3,k,a5,i4,i6,l,m,u,t⟩:=p;dsimp only at *
   subst_vars
   rfl
  rw [e];exact mA q2
 ·have hc:(yB p)=(ui p (qK p).1,0):=by
   unfold yB;rw [if_neg (by simpa using hm),if_neg h0,if_neg (by rw [(cm hk q3).2.2.1]; decide)]
  have:=(sr ok (by rw [hc])).1;rw [hc] at this;exact this
theorem uJ {p:Pkt} (ok:p.Ok) (h:(xc p).2=0):gQ (xc p).1=(p,0):=by
 unfold xc at h ⊢
 by_cases hm:(zX p).2=0
 ·rw [if_neg (by simpa using hm)];obtain ⟨q1,q2,q3,q4,q5⟩:=xB hm;obtain ⟨h1,h2,h3,h4,h5,h6,h7⟩:=fL q2;obtain ⟨z1,z2,z3,z4,z5,z6⟩:=rD h5;have hlen:=bK (zr p (vX p.kind) (wh p).1) ok.src.1 ok.dst.1;have hck:=(kQ q4).2.2.2.2;have hpad:(zX p).1.length+(List.replicate (60 - (zX p).1.length) (0:Int)).length<=65535:=by rw [List.length_replicate,q5]; omega
  show gQ (nQ (zX p).1)=_;unfold nQ;generalize List.replicate (60 - (zX p).1.length) (0:Int)=q at hpad ⊢;rw [q5] at hpad ⊢;have hr:=sO (f:=zr p (vX p.kind) (wh p).1) ok.src.1 ok.dst.1 q4 q hpad
  have hin:(wh p).1.length+q.length<=65535:=by
   rw [hlen] at hpad;change 14+4 * p.tags.length+(wh p).1.length+q.length<=65535 at hpad;omega
  unfold gQ;rw [hr,if_neg (by simp)]
  obtain hk | hk | hk:p.kind=1\/p.kind=2\/p.kind=3:=by omega
  ·have hl0:p.l4=0:=by rw [h6]; unfold zN; rw [if_pos (.inl hk)]
   have hi:wh p=vF p.arp:=by unfold wh; rw [if_pos hk]
   rw [hi] at q3 hin;have ha:=iU ok.smac.1 ok.tmac.1 ok.sip ok.tip q3 q hin
   show (if vX p.kind=2054 then _ else _)=_;rw [if_pos (by rw [hk]; rfl),hi];change (if (zy ((vF p.arp).1++q)).2≠0 then (Pkt.z,(zy ((vF p.arp).1++q)).2) else jW { bare _ 1 with arp:=(zy ((vF p.arp).1++q)).1 })=_;rw [ha,if_neg (by simp)]
   have e:({ bare { zr p (vX p.kind) (vF p.arp).1 with data:=(vF p.arp).1++q } 1 with arp:=(p.arp,(0:Int)).1 }:Pkt)=p:=by
    have:=z2 (by omega); have:=z3 (by omega); have:=z4 (by omega); have:=z5 (by omega); have:=z6 (by omega)
    clear q1 q2 q3 q4 q5 h1 h2 h3 h4 h5 h6 h7 z1 z2 z3 z4 z5 z6 ok hlen hck hpad hr hin hi ha h hm
    obtain ⟨a1,a2,a3,k,a5,i4,i6,l,m,u,t⟩:=p;dsimp only at *
    subst_vars
    rfl
   exact (congrArg jW e).trans (mA q2)
  ·have hko:=cm (by omega) q3;rw [if_pos hk] at hko;have hi:=hko.2.2.2;have e4:(qD p (qK p).1).ip4={ p.ip4 with data:=(qK p).1 }:=by unfold qD; rw [if_pos hk]
   rw [hi] at q3 hin;rw [e4] at q3 hin hi;have ha:=ai (h:={ p.ip4 with data:=(qK p).1 }) ok.s4 ok.d4 ok.o4 q3 q hin
   show (if vX p.kind=2054 then _ else if vX p.kind=2048 then _ else _)=_;rw [if_neg (by rw [hk]; decide),if_pos (by rw [hk]; rfl),hi];change (if (qO ((jq { p.ip4 with data:=(qK p).1 }).1++q)).2≠0 then (Pkt.z,(qO ((jq { p.ip4 with data:=(qK p).1 }).1++q)).2) else jW { bare _ 2 with ip4:=(qO ((jq { p.ip4 with data:=(qK p).1 }).1++q)).1 })=_;rw [ha,if_neg (by simp)];refine Eq.trans (congrArg jW ?_) (cK ok hm (by omega));have:=z1 (by omega); have:=z3 (by omega);unfold qD;rw [if_pos hk];generalize (qK p).1=ab;generalize jq { p.ip4 with data:=ab }=iv
   clear q1 q2 q3 q4 q5 h1 h2 h3 h4 h5 h6 h7 z1 z2 z3 z4 z5 z6 ok hlen hck hpad hr hin hi ha h hm hko e4
   obtain ⟨a1,a2,a3,k,a5,i4,i6,l,m,u,t⟩:=p;dsimp only at *
   subst_vars
   rfl
  ·have hko:=cm (by omega) q3;rw [if_neg (by omega)] at hko;have hi:=hko.2.2.2;have e4:(qD p (qK p).1).ip6={ p.ip6 with data:=(qK p).1 }:=by unfold qD; rw [if_neg (by omega)]
   rw [hi] at q3 hin;rw [e4] at q3 hin hi;have ha:=oj (h:={ p.ip6 with data:=(qK p).1 }) ok.s6 ok.d6 q3 q hin
   show (if vX p.kind=2054 then _ else if vX p.kind=2048 then _ else if vX p.kind=34525 then _ else _)=_;rw [if_neg (by rw [hk]; decide),if_neg (by rw [hk]; decide),if_pos (by rw [hk]; rfl),hi];change (if (zv ((zL { p.ip6 with data:=(qK p).1 }).1++q)).2≠0 then (Pkt.z,(zv ((zL { p.ip6 with data:=(qK p).1 }).1++q)).2) else jW { bare _ 3 with ip6:=(zv ((zL { p.ip6 with data:=(qK p).1 }).1++q)).1 })=_;rw [ha,if_neg (by simp)];refine Eq.trans (congrArg jW ?_) (cK ok hm (by omega));have:=z1 (by omega); have:=z2 (by omega);unfold qD;rw [if_neg (by omega)];generalize (qK p).1=ab;generalize zL { p.ip6 with data:=ab }=iv
   clear q1 q2 q3 q4 q5 h1 h2 h3 h4 h5 h6 h7 z1 z2 z3 z4 z5 z6 ok hlen hck hpad hr hin hi ha h hm hko e4
   obtain ⟨a1,a2,a3,k,a5,i4,i6,l,m,u,t⟩:=p;dsimp only at *
   subst_vars
   rfl
 ·rw [if_pos (by simpa using hm)] at h;exact absurd h hm
theorem Kf (src dst:Ip) (m:Icmp):(ki src dst m).length=8+m.data.length:=by rw [xN]; simp; omega
theorem Kr {a:Arp} (hs:a.smac.length=6) (ht:a.tmac.length=6) (h1:a.sip.Ok) (h2:a.tip.Ok) (c:(vF a).2=0):(vF a).1.length=28:=by
 unfold vF at c ⊢
 split at c
 ·rename_i hx; exact absurd c hx
 ·rename_i hx;rw [if_neg hx]
  split at c
  ·cases c
  ·rename_i hy;rw [if_neg hy];have:=h1.1; have:=h2.1;simp only [List.length_append,hs,ht,List.length_take,wP,kj,List.length_cons,List.length_nil];omega
end Go.Proofs.YtlmnjnhmhacgkaaGreatDoor.Am
end
