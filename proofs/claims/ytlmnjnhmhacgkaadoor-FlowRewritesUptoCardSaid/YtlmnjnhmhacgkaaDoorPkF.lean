/-
  The packet's layers, plainly: what is written, and what is read back.
-/
import Derived.Test.YtlmnjnhmhacgkaaDoorPkE
import Derived.KernelRfl
section
set_option linter.unusedVariables false
set_option linter.unusedSimpArgs false
set_option maxRecDepth 100000
namespace Go.Proofs.YtlmnjnhmhacgkaaDoor.Am
open Go Go.Am Go.Proofs
def upper (v proto:Int):Int:=
 if proto=6 then 3 else if proto=17 then 2 else if (v=4∧proto=1)∨(v=6∧proto=58) then 1 else 0
theorem a94 (n:Nat) (v proto:Int):A94 n [.int .i64 v,.int .i64 proto]=some [.int .i64 (upper v proto)]:=by
 show run94 n v proto=_
 rw [eq94]
 unfold upper
 by_cases h6:proto=6
 ·simp [ZY,h6]
 by_cases h17:proto=17
 ·simp [ZY,h17]
 by_cases hv:v=4
 ·by_cases h1:proto=1 <;> simp [ZY,h6,h17,hv,h1]
 ·by_cases hv6:v=6
  ·by_cases h1:proto=58 <;> simp [ZY,h6,h17,hv,hv6,h1]
  ·simp [ZY,h6,h17,hv,hv6]
def layer (p:Pkt):Int:=if p.kind=1∨(endsOf p).piece=true then 0 else upper (endsOf p).v (endsOf p).proto
theorem a57 (n:Nat) (p:Pkt):A57 n [p.av]=some [.int .i64 (layer p)]:=by
 show run57 A55 A94 n p.av=_
 rw [eq57]
 unfold layer
 by_cases h1:p.kind=1
 ·simp [ZY,a55,h1]
 ·cases hp:(endsOf p).piece <;> simp [ZY,a55,a94,h1,hp]
def dataOf (p:Pkt):List Int:=if p.kind=2 then p.ip4.data else p.ip6.data
theorem a56 (n:Nat) (p:Pkt):A56 n [p.av]=some [.fs .u8 (dataOf p)]:=by
 show run56 n p.av=_
 rw [eq56]
 unfold dataOf
 by_cases h:p.kind=2 <;> simp [ZY,h]
def with_ (p:Pkt) (b:List Int):Pkt:=if p.kind=2 then { p with ip4:={ p.ip4 with data:=b } } else { p with ip6:={ p.ip6 with data:=b } }
theorem a54 (n:Nat) (p:Pkt) (b:List Int):A54 n [p.av,.fs .u8 b]=some [(with_ p b).av]:=by
 show run54 n p.av b=_
 rw [eq54]
 unfold with_
 by_cases h:p.kind=2 <;> simp [ZY,h]
def typeOf (k:Int):Int:=if k=1 then 2054 else if k=2 then 2048 else 34525
theorem a66 (n:Nat) (k:Int):A66 n [.int .i64 k]=some [.int .i64 (typeOf k)]:=by
 show run66 n k=_
 rw [eq66]
 unfold typeOf
 by_cases h:k=1
 ·simp [ZY,h]
 ·by_cases h2:k=2 <;> simp [ZY,h,h2]
theorem a158 (n:Nat) (b:Bool):A158 n [.bool b]=some [.int .i64 (if b then 1 else 0)]:=by
 show run158 n b=_
 rw [eq158]
 cases b <;> rfl
theorem a96 (n:Nat):A96 n []=some [.fs .i64 [8,8,16,32]]:=eq96 n
theorem a137 (n:Nat) (ps:List (List Int)) (hps:∀ p∈ps,Bytes p∧p.length<2 ^ 44) (hl:ps.length<2 ^ 44) (hn:2 ^ 63<n) (hb:Bytes ps.flatten):A137 n [.fv (.fs .u8) (fsL ps)]=some [.int .i64 (65535 - sum16 ps.flatten)]:=by
 show run137 A127 n (fsL ps)=_
 rw [eq137,a127 n ps hps hl hn]
 have h:=fd_r (addS_r hb true).1
 simp only [ZZ]
 rw [W_id (by unfold sum16; omega) (by unfold sum16; omega)]
def a4 (a:List Int):List Int:=[getI a 0,getI a 1,getI a 2,getI a 3,0,0,0,0,0,0,0,0,0,0,0,0]
def version (ip:Ip):Int:=if ip.v=6 then 6 else if ip.v≠4 then 0 else if ip.a=a4 ip.a then 4 else 0
theorem keq_arr (a b:List Int):keq (.arr .u8 16 a) (.arr .u8 16 b)=decide (a=b):=by
 show (IntKind.u8 == IntKind.u8 && (Nat.beq 16 16 && a == b))=_
 rw [show (IntKind.u8 == IntKind.u8)=true from rfl,show Nat.beq 16 16=true from rfl,Bool.true_and,Bool.true_and]
 rw [Bool.eq_iff_iff]; simp
theorem a184 (n:Nat) (ip:Ip):A184 n [ip.av]=some [.int .i64 (version ip)]:=by
 show run184 n ip.av=_
 rw [eq184]
 unfold version
 by_cases h6:ip.v=6
 ·simp [ZY,h6]
 by_cases h4:ip.v=4
 ·by_cases ha:ip.a=a4 ip.a
  ·have:keq (.arr .u8 16 ip.a) (.arr .u8 16 (a4 ip.a))=true:=by rw [keq_arr]; simpa using ha
   simp only [a4] at this
   simp only [ZY,h6,h4,this]
   simp [←ha]
  ·have:keq (.arr .u8 16 ip.a) (.arr .u8 16 (a4 ip.a))=false:=by rw [keq_arr]; simpa using ha
   simp only [a4] at this
   simp only [ZY,h6,h4,this]
   simp [ha]
 ·simp [ZY,h6,h4]
def pseudoB (src dst:Ip) (proto k:Int):List Int:=
 if version src=4 then src.a.take 4++dst.a.take 4++[0,proto % 256,k / 256 % 256,k % 256]
 else src.a.take 16++dst.a.take 16++[0,0,k / 256 % 256,k % 256,0,0,0,proto % 256]
def pseudo (src dst:Ip) (proto k:Int):List Int × Int:=
 if version src=0∨version dst≠version src then ([],20)
 else if proto<0∨proto > 255∨k<0∨k > 65535 then ([],1)
 else (pseudoB src dst proto k,0)
theorem hi8 {x:Int}:Int.fdiv x (Int.ofNat (2 ^ (Min.min (Int.toNat 8) (IntKind.bits .i64))))=x / 256:=by
 have:Int.ofNat (2 ^ (Min.min (Int.toNat 8) (IntKind.bits .i64)))=256:=by decide
 rw [this,Int.fdiv_eq_ediv_of_nonneg _ (by decide)]
theorem ble_of {a b:Nat} (h:a≤b):Nat.ble a b=true:=by rw [Nat.ble_eq]; exact h
theorem a139 (n:Nat) (src dst:Ip) (proto k:Int):A139 n [src.av,dst.av,.int .i64 proto,.int .i64 k]=some [.fs .u8 (pseudo src dst proto k).1,.int .i64 (pseudo src dst proto k).2]:=by
 show run139 A184 n src.av dst.av proto k=_
 rw [eq139]
 unfold pseudo
 have l4:∀ l:List Int,(l.take 4).length≤4:=fun l=>by rw [List.length_take]; omega
 have l16:∀ l:List Int,(l.take 16).length≤16:=fun l=>by rw [List.length_take]; omega
 by_cases h0:version src=0
 ·simp [ZY,a184,h0]
 by_cases h1:version dst=version src
 ·by_cases h2:proto<0∨proto > 255∨k<0∨k > 65535
  ·rw [if_neg (by simp [h0,h1]),if_pos h2]
   by_cases q1:proto<0
   ·simp [ZY,a184,h0,h1,q1]
   by_cases q2:proto > 255
   ·simp [ZY,a184,h0,h1,q1,q2]
   by_cases q3:k<0
   ·simp [ZY,a184,h0,h1,q1,q2,q3]
   ·have q4:k > 65535:=by omega
    simp [ZY,a184,h0,h1,q1,q2,q3,q4]
  ·rw [if_neg (by simp [h0,h1]),if_neg h2]
   have q1:¬ proto<0:=by omega
   have q2:¬ proto > 255:=by omega
   have q3:¬ k<0:=by omega
   have q4:¬ k > 65535:=by omega
   have s4:=l4 src.a; have d4:=l4 dst.a; have s16:=l16 src.a; have d16:=l16 dst.a
   unfold pseudoB
   by_cases hv:version src=4
   ·simp only [ZY,a184,h0,h1,q1,q2,q3,q4,hv,List.drop_zero,hi8,W8,List.length_append]
    simp
    omega
   ·simp only [ZY,a184,h0,h1,q1,q2,q3,q4,hv,List.drop_zero,hi8,W8,List.length_append]
    simp [hv,h0]
    omega
 ·simp [ZY,a184,h0,h1]
def Ip.Ok (ip:Ip):Prop:=ip.a.length=16∧Bytes ip.a
theorem bytes_cons {x:Int} {l:List Int} (h1:0≤x) (h2:x≤255) (h:Bytes l):Bytes (x::l):=fun y hy=>by
 cases hy with
 | head=>exact ⟨h1,h2⟩
 | tail _ hy=>exact h y hy
theorem bytes_nil:Bytes []:=fun y hy=>by cases hy
theorem pseudoB_ok {src dst:Ip} (hs:src.Ok) (hd:dst.Ok) (proto k:Int):Bytes (pseudoB src dst proto k)∧(pseudoB src dst proto k).length≤40:=by
 unfold pseudoB
 split
 ·refine ⟨((hs.2.take 4).app (hd.2.take 4)).app ?_,?_⟩
  ·exact bytes_cons (by omega) (by omega) (bytes_cons (by omega) (by omega) (bytes_cons (by omega) (by omega) (bytes_cons (by omega) (by omega) bytes_nil)))
  ·simp only [List.length_append,List.length_take,List.length_cons,List.length_nil]; omega
 ·refine ⟨((hs.2.take 16).app (hd.2.take 16)).app ?_,?_⟩
  ·exact bytes_cons (by omega) (by omega) (bytes_cons (by omega) (by omega) (bytes_cons (by omega) (by omega) (bytes_cons (by omega) (by omega) (bytes_cons (by omega) (by omega) (bytes_cons (by omega) (by omega) (bytes_cons (by omega) (by omega) (bytes_cons (by omega) (by omega) bytes_nil)))))))
  ·simp only [List.length_append,List.length_take,List.length_cons,List.length_nil]; omega
theorem a97 (n:Nat) (src dst:Ip):A97 n [src.av,dst.av]=some [.int .i64 (pseudo src dst 0 0).2]:=by
 show run97 A139 n src.av dst.av=_
 rw [eq97]
 simp only [ZZ,a139]
def good (src dst:Ip) (proto:Int) (b:List Int):Bool:=(pseudo src dst proto b.length).2 == 0 && sum16 ((pseudo src dst proto b.length).1++b) == 65535
def icmpCheck (m:Icmp):Int:=
 if m.v≠4∧m.v≠6 then 1
 else if m.type<0∨m.type > 255∨m.code<0∨m.code > 255∨m.rest<0∨m.rest > 4294967295 then 82
 else if 8+m.data.length > 65515 then 2 else 0
theorem a135 (n:Nat) (m:Icmp) (hl:m.data.length<2 ^ 60):A135 n [m.av]=some [.int .i64 (icmpCheck m)]:=by
 show run135 n m.av=_
 rw [eq135]
 unfold icmpCheck
 have hw:IntKind.wrap .i64 (8+Int.ofNat m.data.length)=8+(m.data.length:Int):=wrap_id (by simp; omega) (by simp; omega)
 have hw2:IntKind.wrap .i64 (8+(m.data.length:Int))=8+(m.data.length:Int):=wrap_id (by omega) (by omega)
 by_cases hv:m.v≠4∧m.v≠6
 ·simp [ZY,hv]
 ·have hv' : m.v=4∨m.v=6:=by omega
  by_cases h1:m.type<0
  ·rcases hv' with h | h <;> simp [ZY,h,h1]
  by_cases h2:m.type > 255
  ·rcases hv' with h | h <;> simp [ZY,h,h1,h2]
  by_cases h3:m.code<0
  ·rcases hv' with h | h <;> simp [ZY,h,h1,h2,h3]
  by_cases h4:m.code > 255
  ·rcases hv' with h | h <;> simp [ZY,h,h1,h2,h3,h4]
  by_cases h5:m.rest<0
  ·rcases hv' with h | h <;> simp [ZY,h,h1,h2,h3,h4,h5]
  by_cases h6:m.rest > 4294967295
  ·rcases hv' with h | h <;> simp [ZY,h,h1,h2,h3,h4,h5,h6]
  by_cases h7:8+m.data.length > 65515
  ·have h7' : (8:Int)+(m.data.length:Int) > 65515:=by omega
   rcases hv' with h | h <;> simp [ZY,h,h1,h2,h3,h4,h5,h6,h7,hw,hw2] <;> omega
  ·rcases hv' with h | h <;> simp [ZY,h,h1,h2,h3,h4,h5,h6,h7,hw,hw2] <;> omega
def pseudoI (v:Int) (src dst:Ip) (k:Int):List Int × Int:=
 if v=4 then ([],0) else if src.v≠6∨dst.v≠6 then ([],20) else pseudo src dst 58 k
theorem a95 (n:Nat) (v:Int) (src dst:Ip) (k:Int):A95 n [.int .i64 v,src.av,dst.av,.int .i64 k]=some [.fs .u8 (pseudoI v src dst k).1,.int .i64 (pseudoI v src dst k).2]:=by
 show run95 A139 n v src.av dst.av k=_
 rw [eq95]
 unfold pseudoI
 by_cases h4:v=4
 ·simp [ZY,h4]
 by_cases h6:src.v=6
 ·by_cases h6' : dst.v=6
  ·simp [ZY,h4,h6,h6',a139]
  ·simp [ZY,h4,h6,h6']
 ·simp [ZY,h4,h6]
theorem pseudoI_ok {src dst:Ip} (hs:src.Ok) (hd:dst.Ok) (v k:Int):Bytes (pseudoI v src dst k).1∧(pseudoI v src dst k).1.length≤40:=by
 unfold pseudoI
 split
 ·exact ⟨bytes_nil,by simp⟩
 ·split
  ·exact ⟨bytes_nil,by simp⟩
  ·unfold pseudo
   split
   ·exact ⟨bytes_nil,by simp⟩
   ·split
    ·exact ⟨bytes_nil,by simp⟩
    ·exact pseudoB_ok hs hd 58 k
def icmpHead (m:Icmp):List Int:=mkB 8 (allB [(8,m.type),(8,m.code),(16,0),(32,m.rest)])
def icmpSum (src dst:Ip) (m:Icmp):Int:=65535 - sum16 ((pseudoI m.v src dst (8+m.data.length)).1++(icmpHead m++m.data))
def icmpB (src dst:Ip) (m:Icmp):List Int:=(((icmpHead m).set 2 (icmpSum src dst m / 256 % 256)).set 3 (icmpSum src dst m % 256))++m.data
def icmpPut (src dst:Ip) (m:Icmp):List Int × Int:=
 if icmpCheck m≠0 then ([],icmpCheck m)
 else if (pseudoI m.v src dst (8+m.data.length)).2≠0 then ([],(pseudoI m.v src dst (8+m.data.length)).2)
 else (icmpB src dst m,0)
theorem icmpCheck_ok {m:Icmp} (h:icmpCheck m=0):(m.v=4∨m.v=6)∧0≤m.type∧m.type≤255∧0≤m.code∧m.code≤255∧0≤m.rest∧m.rest≤4294967295∧m.data.length≤65507:=by
 unfold icmpCheck at h
 split at h
 ·cases h
 ·split at h
  ·cases h
  ·split at h
   ·cases h
   ·omega
theorem hi8n {x:Int}:Int.fdiv x ((2 ^ (Min.min (Int.toNat 8) (IntKind.bits .i64)):Nat):Int)=x / 256:=hi8
theorem w123i (n:Nat):A123 (n+8) [.fs .i64 (wI [8,8,16,32])]=some [.int .i64 ((8:Nat):Int),.int .i64 0]:=by kernel_rfl
theorem icmpHead_ok (m:Icmp):Bytes (icmpHead m)∧(icmpHead m).length=8:=⟨mkB_bytes (allB_01 _) 8,mkB_len 8 _⟩
theorem a136i (n:Nat) (hn:2 ^ 63<n) (m:Icmp) (h:icmpCheck m=0):A136 n [.fs .i64 [8,8,16,32],.fs .i64 [m.type,m.code,0,m.rest]]=some [.fs .u8 (icmpHead m),.int .i64 0]:=by
 obtain ⟨_,h1,h2,h3,h4,h5,h6,_⟩:=icmpCheck_ok h
 obtain ⟨k,rfl⟩ : ∃ k,n=k+8:=⟨n - 8,by omega⟩
 refine a136 (k+8) [(8,m.type),(8,m.code),(16,0),(32,m.rest)] (fun p hp=>?_) 8 rfl (by decide) (by omega) (by show 4<k+8; omega) (by show 4≤64; omega) (w123i k)
 simp only [List.mem_cons,List.mem_nil_iff,or_false] at hp
 rcases hp with rfl | rfl | rfl | rfl <;> simp <;> omega
theorem set_bytes {l:List Int} (h:Bytes l) (i:Nat) {x:Int} (h1:0≤x) (h2:x≤255):Bytes (l.set i x):=fun y hy=>by
 rcases List.mem_or_eq_of_mem_set hy with h' | rfl
 ·exact h y h'
 ·exact ⟨h1,h2⟩
theorem a91 (n:Nat) (hn:2 ^ 63<n) (src dst:Ip) (hs:src.Ok) (hd:dst.Ok) (m:Icmp) (hb:Bytes m.data) (hl:m.data.length<2 ^ 44):A91 n [src.av,dst.av,m.av]=some [.fs .u8 (icmpPut src dst m).1,.int .i64 (icmpPut src dst m).2]:=by
 show run91 A95 A96 A135 A136 A137 n src.av dst.av m.av=_
 rw [eq91]
 unfold icmpPut
 have hw:IntKind.wrap .i64 (8+(m.data.length:Int))=8+(m.data.length:Int):=wrap_id (by omega) (by omega)
 by_cases hc:icmpCheck m=0
 ·rw [if_neg (by simpa using hc)]
  have h136:=a136i n hn m hc
  by_cases hp:(pseudoI m.v src dst (8+m.data.length)).2=0
  ·rw [if_neg (by simpa using hp)]
   have hpo:=pseudoI_ok hs hd m.v (8+m.data.length)
   have hho:=icmpHead_ok m
   have hbig:=(icmpCheck_ok hc).2.2.2.2.2.2.2
   have hB:Bytes [(pseudoI m.v src dst (8+m.data.length)).1,icmpHead m,m.data].flatten:=by
    simp only [List.flatten_cons,List.flatten_nil,List.append_nil]
    exact hpo.1.app (hho.1.app hb)
   have h137:=a137 n [(pseudoI m.v src dst (8+m.data.length)).1,icmpHead m,m.data] (fun p hp'=>by
    simp only [List.mem_cons,List.mem_nil_iff,or_false] at hp'
    rcases hp' with rfl | rfl | rfl
    ·exact ⟨hpo.1,by omega⟩
    ·exact ⟨hho.1,by omega⟩
    ·exact ⟨hb,hl⟩) (by simp) hn hB
   rw [show fsL [(pseudoI m.v src dst (8+m.data.length)).1,icmpHead m,m.data]=[.fs .u8 (pseudoI m.v src dst (8+m.data.length)).1,.fs .u8 (icmpHead m),.fs .u8 m.data] from rfl] at h137
   simp only [List.flatten_cons,List.flatten_nil,List.append_nil] at h137
   simp only [ZZ,a135 n m (by omega),hc,Int.ofNat_eq_natCast,hw,a95,hp,a96,h136,h137,show ((0:Int) != 0)=false from rfl]
   have hlen:((icmpHead m).set 2 (IntKind.wrap .u8 (Int.fdiv (65535 - sum16 ((pseudoI m.v src dst (8+m.data.length)).1++(icmpHead m++m.data))) (Int.ofNat (2 ^ (Min.min (Int.toNat 8) (IntKind.bits .i64))))))).length=8:=by rw [List.length_set]; exact hho.2
   rw [hho.2,show inR 2 8=true from rfl]
   simp only [ZZ,List.length_set,hho.2,show inR 3 8=true from rfl]
   rw [brO_t (ble_of (by omega)),hi8n,W8,W8]
   rfl
  ·rw [if_pos (by simpa using hp)]
   simp only [ZZ,a135 n m (by omega),hc,Int.ofNat_eq_natCast,hw,a95,show ((0:Int) != 0)=false from rfl]
   rw [brO_t (by simpa using hp)]
 ·rw [if_pos (by simpa using hc)]
  simp only [ZZ,a135 n m (by omega)]
  rw [brO_t (by simpa using hc)]
def icmpBits (m:Icmp):List Int:=allB [(8,m.type),(8,m.code),(16,0),(32,m.rest)]
theorem icmpHead_eq (m:Icmp):icmpHead m=[byteOf (icmpBits m) 0,byteOf (icmpBits m) 1,0,0,byteOf (icmpBits m) 4,byteOf (icmpBits m) 5,byteOf (icmpBits m) 6,byteOf (icmpBits m) 7]:=by
 have h2:byteOf (icmpBits m) 2=0:=by rfl
 have h3:byteOf (icmpBits m) 3=0:=by rfl
 show [byteOf (icmpBits m) 0,byteOf (icmpBits m) 1,byteOf (icmpBits m) 2,byteOf (icmpBits m) 3,byteOf (icmpBits m) 4,byteOf (icmpBits m) 5,byteOf (icmpBits m) 6,byteOf (icmpBits m) 7]=_
 rw [h2,h3]
theorem icmpB_eq (src dst:Ip) (m:Icmp):icmpB src dst m=byteOf (icmpBits m) 0::byteOf (icmpBits m) 1::icmpSum src dst m / 256 % 256::icmpSum src dst m % 256::byteOf (icmpBits m) 4::byteOf (icmpBits m) 5::byteOf (icmpBits m) 6::byteOf (icmpBits m) 7::m.data:=by
 unfold icmpB
 rw [icmpHead_eq]
 rfl
theorem a183 (n:Nat) (x h:Int):A183 n [.int .i64 x,.int .i64 h]=some [.bool (decide (x<0∨x > h))]:=by
 show run183 n x h=_
 rw [eq183]
 by_cases h0:x<0
 ·simp [ZY,h0]
 ·by_cases h1:x > h <;> simp [ZY,h0,h1]
def udpCheck (v:Int) (u:Udp):Int:=
 if v≠4∧v≠6 then 20
 else if (u.sport<0∨u.sport > 65535)∨(u.dport<0∨u.dport > 65535)∨(u.nosum=true∧v=6) then 98
 else if u.data.length > 65527 then 2 else 0
theorem a138 (n:Nat) (v:Int) (u:Udp):A138 n [.int .i64 v,u.av]=some [.int .i64 (udpCheck v u)]:=by
 show run138 A183 n v u.av=_
 rw [eq138]
 unfold udpCheck
 by_cases hv:v≠4∧v≠6
 ·simp [ZY,hv]
 rw [if_neg hv]
 have hv' : v=4∨v=6:=by omega
 by_cases h1:u.sport<0∨u.sport > 65535
 ·rcases hv' with h | h <;> subst h <;> simp [ZY,a183,h1]
 by_cases h2:u.dport<0∨u.dport > 65535
 ·rcases hv' with h | h <;> subst h <;> simp [ZY,a183,h1,h2]
 by_cases h3:u.data.length > 65527
 ·have h3' : (u.data.length:Int) > 65527:=by omega
  rcases hv' with h | h <;> subst h <;> cases hn:u.nosum <;> simp [ZY,a183,h1,h2,h3,h3',hn]
 ·have h3' : ¬ (u.data.length:Int) > 65527:=by omega
  rcases hv' with h | h <;> subst h <;> cases hn:u.nosum <;> simp [ZY,a183,h1,h2,h3,h3',hn]
theorem udpCheck_ok {v:Int} {u:Udp} (h:udpCheck v u=0):(v=4∨v=6)∧0≤u.sport∧u.sport≤65535∧0≤u.dport∧u.dport≤65535∧¬ (u.nosum=true∧v=6)∧u.data.length≤65527:=by
 unfold udpCheck at h
 split at h
 ·cases h
 ·split at h
  ·cases h
  ·split at h
   ·cases h
   ·rename_i h1 h2 h3
    refine ⟨by omega,by omega,by omega,by omega,by omega,fun hx=>h2 (.inr (.inr hx)),by omega⟩
def udpHead (u:Udp):List Int:=mkB 8 (allB [(16,u.sport),(16,u.dport),(16,8+(u.data.length:Int)),(16,0)])
def udpC (src dst:Ip) (u:Udp):Int:=
 if 65535 - sum16 ((pseudo src dst 17 (8+u.data.length)).1++(udpHead u++u.data))=0 then 65535 else 65535 - sum16 ((pseudo src dst 17 (8+u.data.length)).1++(udpHead u++u.data))
def udpB (src dst:Ip) (u:Udp):List Int:=
 if u.nosum=true then udpHead u++u.data else ((udpHead u++u.data).set 6 (udpC src dst u / 256 % 256)).set 7 (udpC src dst u % 256)
def udpPut (src dst:Ip) (u:Udp):List Int × Int:=
 if (pseudo src dst 0 0).2≠0 then ([],(pseudo src dst 0 0).2)
 else if udpCheck src.v u≠0 then ([],udpCheck src.v u)
 else (udpB src dst u,0)
theorem udpHead_ok (u:Udp):Bytes (udpHead u)∧(udpHead u).length=8:=⟨mkB_bytes (allB_01 _) 8,mkB_len 8 _⟩
theorem w123u (n:Nat):A123 (n+8) [.fs .i64 (wI [16,16,16,16])]=some [.int .i64 ((8:Nat):Int),.int .i64 0]:=by kernel_rfl
theorem a136u (n:Nat) (hn:2 ^ 63<n) (v:Int) (u:Udp) (h:udpCheck v u=0):A136 n [.fs .i64 [16,16,16,16],.fs .i64 [u.sport,u.dport,8+(u.data.length:Int),0]]=some [.fs .u8 (udpHead u),.int .i64 0]:=by
 obtain ⟨_,h1,h2,h3,h4,_,h6⟩:=udpCheck_ok h
 obtain ⟨k,rfl⟩ : ∃ k,n=k+8:=⟨n - 8,by omega⟩
 refine a136 (k+8) [(16,u.sport),(16,u.dport),(16,8+(u.data.length:Int)),(16,0)] (fun p hp=>?_) 8 rfl (by decide) (by omega) (by show 4<k+8; omega) (by show 4≤64; omega) (w123u k)
 simp only [List.mem_cons,List.mem_nil_iff,or_false] at hp
 rcases hp with rfl | rfl | rfl | rfl <;> simp <;> omega
theorem pseudo_ok {src dst:Ip} (hs:src.Ok) (hd:dst.Ok) (p k:Int):Bytes (pseudo src dst p k).1∧(pseudo src dst p k).1.length≤40:=by
 unfold pseudo
 split
 ·exact ⟨bytes_nil,by simp⟩
 ·split
  ·exact ⟨bytes_nil,by simp⟩
  ·exact pseudoB_ok hs hd p k
theorem a92 (n:Nat) (hn:2 ^ 63<n) (src dst:Ip) (hs:src.Ok) (hd:dst.Ok) (u:Udp) (hb:Bytes u.data) (hl:u.data.length<2 ^ 44):A92 n [src.av,dst.av,u.av]=some [.fs .u8 (udpPut src dst u).1,.int .i64 (udpPut src dst u).2]:=by
 show run92 A97 A136 A137 A138 A139 n src.av dst.av u.av=_
 rw [eq92]
 unfold udpPut
 have hw:IntKind.wrap .i64 (8+(u.data.length:Int))=8+(u.data.length:Int):=wrap_id (by omega) (by omega)
 by_cases hp:(pseudo src dst 0 0).2=0
 ·rw [if_neg (by simpa using hp)]
  by_cases hc:udpCheck src.v u=0
  ·rw [if_neg (by simpa using hc)]
   have h136:=a136u n hn src.v u hc
   have hho:=udpHead_ok u
   have hbig:=(udpCheck_ok hc).2.2.2.2.2.2
   have hpo:=pseudo_ok hs hd 17 (8+u.data.length)
   have hlen:(udpHead u++u.data).length=8+u.data.length:=by rw [List.length_append,hho.2]
   have hlen' : (((udpHead u++u.data).length:Nat):Int)=8+(u.data.length:Int):=by omega
   have hB:Bytes [(pseudo src dst 17 (8+u.data.length)).1,udpHead u++u.data].flatten:=by
    simp only [List.flatten_cons,List.flatten_nil,List.append_nil]
    exact hpo.1.app (hho.1.app hb)
   have h137:=a137 n [(pseudo src dst 17 (8+u.data.length)).1,udpHead u++u.data] (fun p hp'=>by
    simp only [List.mem_cons,List.mem_nil_iff,or_false] at hp'
    rcases hp' with rfl | rfl
    ·exact ⟨hpo.1,by omega⟩
    ·exact ⟨hho.1.app hb,by omega⟩) (by simp) hn hB
   rw [show fsL [(pseudo src dst 17 (8+u.data.length)).1,udpHead u++u.data]=[.fs .u8 (pseudo src dst 17 (8+u.data.length)).1,.fs .u8 (udpHead u++u.data)] from rfl] at h137
   simp only [List.flatten_cons,List.flatten_nil,List.append_nil] at h137
   simp only [ZZ,a97,hp,show ((0:Int) == 0)=true from rfl,show ((0:Int) != 0)=false from rfl,a138,hc,Int.ofNat_eq_natCast,hw,h136]
   rw [brO_t (ble_of (by rw [hho.2]; omega))]
   unfold udpB
   cases hns:u.nosum with
   | true=>simp only [ZZ,if_true]
   | false=>
    simp only [ZZ,hlen',a139,h137]
    unfold udpC
    by_cases h0:65535 - sum16 ((pseudo src dst 17 (8+u.data.length)).1++(udpHead u++u.data))=0
    ·simp only [h0,ZZ,show ((0:Int) == 0)=true from rfl]
     rw [show inR 6 (udpHead u++u.data).length=true from inR_nat (i:=6) (by omega)]
     simp only [ZZ,List.length_set]
     rw [show inR 7 (udpHead u++u.data).length=true from inR_nat (i:=7) (by omega)]
     simp only [ZZ,hi8n,W8,if_true]
     rfl
    ·rw [brO_f (by simpa using h0)]
     simp only [ZZ]
     rw [show inR 6 (udpHead u++u.data).length=true from inR_nat (i:=6) (by omega)]
     simp only [ZZ,List.length_set]
     rw [show inR 7 (udpHead u++u.data).length=true from inR_nat (i:=7) (by omega)]
     simp only [ZZ,hi8n,W8,if_neg h0]
     rfl
  ·rw [if_pos (by simpa using hc)]
   simp only [ZZ,a97,hp,show ((0:Int) == 0)=true from rfl,a138]
   rw [brO_t (by simpa using hc)]
 ·rw [if_pos (by simpa using hp)]
  simp only [ZZ,a97]
  rw [brO_f (by simpa using hp)]
  simp only [ZZ]
  rw [brO_t (by simpa using hp)]
def udpBits (u:Udp):List Int:=allB [(16,u.sport),(16,u.dport),(16,8+(u.data.length:Int)),(16,0)]
theorem udpHead_eq (u:Udp):udpHead u=[byteOf (udpBits u) 0,byteOf (udpBits u) 1,byteOf (udpBits u) 2,byteOf (udpBits u) 3,byteOf (udpBits u) 4,byteOf (udpBits u) 5,0,0]:=by
 have h2:byteOf (udpBits u) 6=0:=by rfl
 have h3:byteOf (udpBits u) 7=0:=by rfl
 show [byteOf (udpBits u) 0,byteOf (udpBits u) 1,byteOf (udpBits u) 2,byteOf (udpBits u) 3,byteOf (udpBits u) 4,byteOf (udpBits u) 5,byteOf (udpBits u) 6,byteOf (udpBits u) 7]=_
 rw [h2,h3]
def udpW (u:Udp) (x y:Int):List Int:=byteOf (udpBits u) 0::byteOf (udpBits u) 1::byteOf (udpBits u) 2::byteOf (udpBits u) 3::byteOf (udpBits u) 4::byteOf (udpBits u) 5::x::y::u.data
theorem udpB_eq (src dst:Ip) (u:Udp):udpB src dst u=if u.nosum=true then udpW u 0 0 else udpW u (udpC src dst u / 256 % 256) (udpC src dst u % 256):=by
 unfold udpB
 rw [udpHead_eq]
 rfl
theorem pseudo_fit {src dst:Ip} (h:(pseudo src dst 0 0).2=0) {p k:Int} (hp:0≤p) (hp2:p≤255) (hk:0≤k) (hk2:k≤65535):(pseudo src dst p k).2=0:=by
 unfold pseudo at h ⊢
 split at h
 ·cases h
 ·rename_i hv
  rw [if_neg hv,if_neg (by omega)]
theorem udpW_len (u:Udp) (x y:Int):(udpW u x y).length=8+u.data.length:=by simp [udpW]; omega
theorem udpW_ok (u:Udp) (hb:Bytes u.data) {x y:Int} (hx:0≤x∧x≤255) (hy:0≤y∧y≤255):Bytes (udpW u x y):=by
 have h:=fun i=>byteOf_r (allB_01 [(16,u.sport),(16,u.dport),(16,8+(u.data.length:Int)),(16,0)]) i
 unfold udpW
 exact bytes_cons (h 0).1 (h 0).2 (bytes_cons (h 1).1 (h 1).2 (bytes_cons (h 2).1 (h 2).2 (bytes_cons (h 3).1 (h 3).2 (bytes_cons (h 4).1 (h 4).2 (bytes_cons (h 5).1 (h 5).2 (bytes_cons hx.1 hx.2 (bytes_cons hy.1 hy.2 hb)))))))
def OptOk (R:Int→Int→Bool) (o:Opt):Prop:=2≤o.kind∧o.kind≤255∧(o.data.length:Int)≤38∧R o.kind (2+o.data.length)=true
instance (R:Int→Int→Bool) (o:Opt):Decidable (OptOk R o):=by unfold OptOk; infer_instance
def optB (o:Opt):List Int:=o.kind::(2+(o.data.length:Int))::o.data
def flatO (l:List Opt):List Int:=l.flatMap optB
def puts (R:Int→Int→Bool):List Opt→List Int→Option (List Int)
 | [],b=>some b
 | o::l,b=>if OptOk R o∧b.length+(optB o).length≤40 then puts R l (b++optB o) else none
def pad4 (b:List Int):List Int:=b++List.replicate ((4 - b.length % 4) % 4) 0
theorem optB_len (o:Opt):(optB o).length=2+o.data.length:=by simp [optB]; omega
theorem puts_ok {R:Int→Int→Bool}:∀ {l:List Opt} {b c:List Int},puts R l b=some c→c=b++flatO l∧(∀ o∈l,OptOk R o)∧(b.length≤40→c.length≤40)
 | [],b,c,h=>by
  injection h with h; subst h
  exact ⟨by simp [flatO],fun o h=>(List.not_mem_nil h).elim,id⟩
 | o::l,b,c,h=>by
  rw [puts] at h
  by_cases hc:OptOk R o∧b.length+(optB o).length≤40
  ·rw [if_pos hc] at h
   obtain ⟨h1,h2,h3⟩:=puts_ok h
   refine ⟨by rw [h1]; simp [flatO],fun x hx=>?_,fun hb=>h3 (by rw [List.length_append]; omega)⟩
   rcases List.mem_cons.1 hx with rfl | hx
   ·exact hc.1
   ·exact h2 x hx
  ·rw [if_neg hc] at h; cases h
theorem pad4_len (b:List Int):(pad4 b).length % 4=0:=by unfold pad4; rw [List.length_append,List.length_replicate]; omega
theorem pad4_len2 (b:List Int):(pad4 b).length=(b.length+3) / 4 * 4:=by unfold pad4; rw [List.length_append,List.length_replicate]; omega
theorem bytes_pad4 {b:List Int} (h:Bytes b):Bytes (pad4 b):=by
 refine h.app (fun x hx=>?_)
 rw [List.eq_of_mem_replicate hx]; decide
theorem bytes_flatO {R:Int→Int→Bool} {l:List Opt} (h:∀ o∈l,OptOk R o) (hb:∀ o∈l,Bytes o.data):Bytes (flatO l):=by
 intro x hx
 unfold flatO at hx
 obtain ⟨o,ho,hx⟩:=List.mem_flatMap.1 hx
 have h1:=h o ho
 unfold OptOk at h1
 exact bytes_cons (by omega) (by omega) (bytes_cons (by omega) (by omega) (hb o ho)) x hx
theorem set_split:∀ {l:List Int} {i:Nat} {x y:Int},i+1<l.length→(l.set i x).set (i+1) y=l.take i++x::y::l.drop (i+2)
 | [],_,_,_,h=>by simp at h
 | [a],i,_,_,h=>by simp at h
 | a::b::l,0,x,y,h=>rfl
 | a::b::l,i+1,x,y,h=>by
  have:=set_split (l:=b::l) (i:=i) (x:=x) (y:=y) (by simpa using h)
  rw [List.set_cons_succ,List.set_cons_succ,this,List.take_succ_cons,List.cons_append]
  rfl
theorem self_split:∀ {l:List Int} {i:Nat},i+1<l.length→l=l.take i++getI l i::getI l (i+1)::l.drop (i+2)
 | [],_,h=>by simp at h
 | [a],i,h=>by simp at h
 | a::b::l,0,h=>rfl
 | a::b::l,i+1,h=>by
  have:=self_split (l:=b::l) (i:=i) (by simpa using h)
  rw [List.take_succ_cons,List.cons_append]
  show _=a::((b::l).take i++getI (b::l) i::getI (b::l) (i+1)::(b::l).drop (i+2))
  rw [←this]
theorem bytes_set2 {l:List Int} (h:Bytes l) (i:Nat) (c:Int):Bytes ((l.set i (c / 256 % 256)).set (i+1) (c % 256)):=
 set_bytes (set_bytes h _ (by omega) (by omega)) _ (by omega) (by omega)
def tright (k n:Int):Bool:=
 if k ≥ 9 then true else if k=2 then n == 4 else if k=3 then n == 3 else if k=4 then n == 2 else if k=5 then n == 10 || n == 18 || n == 26 || n == 34 else if k=8 then n == 10 else true
def tcpOpts (l:List Opt):List Int × Int:=match puts tright l [] with
 | none=>([],97)
 | some b=>(pad4 b,0)
def tcpOut (t:Tcp):Prop:=t.sport<0∨t.sport > 65535∨t.dport<0∨t.dport > 65535∨t.win<0∨t.win > 65535∨t.urg<0∨t.urg > 65535∨t.seq<0∨t.seq > 4294967295∨t.ack<0∨t.ack > 4294967295∨t.flags<0∨t.flags > 255
instance (t:Tcp):Decidable (tcpOut t):=by unfold tcpOut; infer_instance
def tcpCheck (t:Tcp):Int:=
 if tcpOut t then 98 else if (tcpOpts t.opts).2≠0 then (tcpOpts t.opts).2
 else if 20+(tcpOpts t.opts).1.length+t.data.length > 65535 then 2 else 0
def tcpPs (t:Tcp) (k:Nat):List (Nat × Int):=[(16,t.sport),(16,t.dport),(32,t.seq),(32,t.ack),(4,(20+(k:Int)) / 4),(4,0),(8,t.flags),(16,t.win),(16,0),(16,t.urg)]
def tcpRaw (t:Tcp):List Int:=mkB 20 (allB (tcpPs t (tcpOpts t.opts).1.length))++(tcpOpts t.opts).1++t.data
def tcpC (src dst:Ip) (t:Tcp):Int:=65535 - sum16 ((pseudo src dst 6 (tcpRaw t).length).1++tcpRaw t)
def tcpB (src dst:Ip) (t:Tcp):List Int:=((tcpRaw t).set 16 (tcpC src dst t / 256 % 256)).set 17 (tcpC src dst t % 256)
def tcpPut (src dst:Ip) (t:Tcp):List Int × Int:=
 if (pseudo src dst 0 0).2≠0 then ([],(pseudo src dst 0 0).2)
 else if tcpCheck t≠0 then ([],tcpCheck t)
 else (tcpB src dst t,0)
theorem tcpOpts_ok {l:List Opt} (h:(tcpOpts l).2=0):∃ b,puts tright l []=some b∧(tcpOpts l).1=pad4 b∧(pad4 b).length≤40∧(pad4 b).length % 4=0:=by
 unfold tcpOpts at h ⊢
 cases hp:puts tright l [] with
 | none=>rw [hp] at h; cases h
 | some b=>
  have:=(puts_ok hp).2.2 (by simp)
  have h2:=pad4_len2 b
  exact ⟨b,rfl,rfl,by omega,pad4_len b⟩
theorem tcpOpts_le (l:List Opt):(tcpOpts l).1.length≤40:=by
 by_cases h:(tcpOpts l).2=0
 ·obtain ⟨b,h1,h2,h3,h4⟩:=tcpOpts_ok h
  rw [h2]; exact h3
 ·unfold tcpOpts at h ⊢
  cases hp:puts tright l [] with
  | none=>simp
  | some b=>rw [hp] at h; exact absurd rfl h
theorem tcpOpts_bytes {l:List Opt} (hb:∀ o∈l,Bytes o.data):Bytes (tcpOpts l).1:=by
 unfold tcpOpts
 cases hp:puts tright l [] with
 | none=>exact bytes_nil
 | some b=>
  obtain ⟨h1,h2,h3⟩:=puts_ok hp
  rw [List.nil_append] at h1
  subst h1
  exact bytes_pad4 (bytes_flatO h2 hb)
theorem tcpCheck_ok {t:Tcp} (h:tcpCheck t=0):¬ tcpOut t∧(tcpOpts t.opts).2=0∧20+(tcpOpts t.opts).1.length+t.data.length≤65535:=by
 unfold tcpCheck at h
 split at h
 ·cases h
 ·split at h
  ·rename_i h1 h2; exact absurd h h2
  ·split at h
   ·cases h
   ·rename_i h1 h2 h3
    exact ⟨h1,by simpa using h2,by omega⟩
theorem tcpPs_ok {t:Tcp} (h:¬ tcpOut t) {k:Nat} (hk:k≤40):∀ p∈tcpPs t k,1≤p.1∧p.1≤32∧0≤p.2∧p.2<2 ^ p.1:=by
 unfold tcpOut at h
 intro p hp
 unfold tcpPs at hp
 simp only [List.mem_cons,List.mem_nil_iff,or_false] at hp
 rcases hp with rfl | rfl | rfl | rfl | rfl | rfl | rfl | rfl | rfl | rfl <;> simp <;> omega
theorem tcpRaw_ok {t:Tcp} (hb:Bytes t.data) (ho:∀ o∈t.opts,Bytes o.data):Bytes (tcpRaw t):=
 ((mkB_bytes (allB_01 _) 20).app (tcpOpts_bytes ho)).app hb
theorem tcpRaw_len (t:Tcp):(tcpRaw t).length=20+(tcpOpts t.opts).1.length+t.data.length:=by
 unfold tcpRaw
 rw [List.length_append,List.length_append,mkB_len]
theorem tcpB_len (src dst:Ip) (t:Tcp):(tcpB src dst t).length=20+(tcpOpts t.opts).1.length+t.data.length:=by
 unfold tcpB
 rw [List.length_set,List.length_set,tcpRaw_len]
def any2 (k n:Int):Bool:=true
def ip4Opts (l:List Opt):List Int × Int:=match puts any2 l [] with
 | none=>([],65)
 | some b=>(pad4 b,0)
def four (ip:Ip):Prop:=ip.v=4∧ip.a=a4 ip.a
instance (ip:Ip):Decidable (four ip):=by unfold four; infer_instance
def frag4 (mf:Bool) (off n:Int):Int:=if (mf=true∧(n=0∨n % 8≠0))∨off+n > 65515 then 66 else 0
def ip4Out (h:Ip4):Prop:=h.tos<0∨h.tos > 255∨h.id<0∨h.id > 65535∨h.off<0∨h.off > 65528∨h.off % 8≠0∨h.ttl<0∨h.ttl > 255∨h.proto<0∨h.proto > 255∨¬ four h.src∨¬ four h.dst
instance (h:Ip4):Decidable (ip4Out h):=by unfold ip4Out; infer_instance
def ip4Check (h:Ip4):Int:=
 if ip4Out h then 68 else if (ip4Opts h.opts).2≠0 then (ip4Opts h.opts).2
 else if 20+(ip4Opts h.opts).1.length+h.data.length > 65535 then 63 else frag4 h.mf h.off h.data.length
def b2i (b:Bool):Int:=if b=true then 1 else 0
def ip4Ps (h:Ip4) (k:Nat):List (Nat × Int):=[(4,4),(4,(20+(k:Int)) / 4),(8,h.tos),(16,20+(k:Int)+(h.data.length:Int)),(16,h.id),(1,0),(1,b2i h.df),(1,b2i h.mf),(13,h.off / 8),(8,h.ttl),(8,h.proto),(16,0)]
def ip4Raw (h:Ip4):List Int:=mkB 12 (allB (ip4Ps h (ip4Opts h.opts).1.length))++h.src.a.take 4++h.dst.a.take 4++(ip4Opts h.opts).1
def ip4C (h:Ip4):Int:=65535 - sum16 (ip4Raw h)
def ip4W (h:Ip4):List Int:=((ip4Raw h).set 10 (ip4C h / 256 % 256)).set 11 (ip4C h % 256)
def ip4B (h:Ip4):List Int:=ip4W h++h.data
def ip4Put (h:Ip4):List Int × Int:=if ip4Check h≠0 then ([],ip4Check h) else (ip4B h,0)
theorem ip4Opts_ok {l:List Opt} (h:(ip4Opts l).2=0):∃ b,puts any2 l []=some b∧(ip4Opts l).1=pad4 b∧(pad4 b).length≤40∧(pad4 b).length % 4=0:=by
 unfold ip4Opts at h ⊢
 cases hp:puts any2 l [] with
 | none=>rw [hp] at h; cases h
 | some b=>
  have:=(puts_ok hp).2.2 (by simp)
  have h2:=pad4_len2 b
  exact ⟨b,rfl,rfl,by omega,pad4_len b⟩
theorem ip4Opts_le (l:List Opt):(ip4Opts l).1.length≤40:=by
 by_cases h:(ip4Opts l).2=0
 ·obtain ⟨b,h1,h2,h3,h4⟩:=ip4Opts_ok h
  rw [h2]; exact h3
 ·unfold ip4Opts at h ⊢
  cases hp:puts any2 l [] with
  | none=>simp
  | some b=>rw [hp] at h; exact absurd rfl h
theorem ip4Opts_bytes {l:List Opt} (hb:∀ o∈l,Bytes o.data):Bytes (ip4Opts l).1:=by
 unfold ip4Opts
 cases hp:puts any2 l [] with
 | none=>exact bytes_nil
 | some b=>
  obtain ⟨h1,h2,h3⟩:=puts_ok hp
  rw [List.nil_append] at h1
  subst h1
  exact bytes_pad4 (bytes_flatO h2 hb)
theorem ip4Check_ok {h:Ip4} (c:ip4Check h=0):¬ ip4Out h∧(ip4Opts h.opts).2=0∧20+(ip4Opts h.opts).1.length+h.data.length≤65535∧frag4 h.mf h.off h.data.length=0:=by
 unfold ip4Check at c
 split at c
 ·cases c
 ·split at c
  ·rename_i h1 h2; exact absurd c h2
  ·split at c
   ·cases c
   ·rename_i h1 h2 h3
    exact ⟨h1,by simpa using h2,by omega,c⟩
theorem b2i_r (b:Bool):0≤b2i b∧b2i b<2:=by unfold b2i; split <;> decide
theorem ip4Ps_ok {h:Ip4} (c:¬ ip4Out h) {k:Nat} (hk:k≤40) (hl:20+k+h.data.length≤65535):∀ p∈ip4Ps h k,1≤p.1∧p.1≤32∧0≤p.2∧p.2<2 ^ p.1:=by
 unfold ip4Out at c
 have h1:=b2i_r h.df
 have h2:=b2i_r h.mf
 intro p hp
 unfold ip4Ps at hp
 simp only [List.mem_cons,List.mem_nil_iff,or_false] at hp
 rcases hp with rfl | rfl | rfl | rfl | rfl | rfl | rfl | rfl | rfl | rfl | rfl | rfl <;> simp <;> omega
theorem ip4Raw_ok {h:Ip4} (hs:h.src.Ok) (hd:h.dst.Ok) (ho:∀ o∈h.opts,Bytes o.data):Bytes (ip4Raw h):=
 (((mkB_bytes (allB_01 _) 12).app (hs.2.take 4)).app (hd.2.take 4)).app (ip4Opts_bytes ho)
theorem ip4Raw_len {h:Ip4} (hs:h.src.Ok) (hd:h.dst.Ok):(ip4Raw h).length=20+(ip4Opts h.opts).1.length:=by
 unfold ip4Raw
 have:=hs.1; have:=hd.1
 simp only [List.length_append,mkB_len,List.length_take]
 omega
theorem ip4W_len {h:Ip4} (hs:h.src.Ok) (hd:h.dst.Ok):(ip4W h).length=20+(ip4Opts h.opts).1.length:=by
 unfold ip4W
 rw [List.length_set,List.length_set,ip4Raw_len hs hd]
theorem a4_ext {l m:List Int} (h:∀ i,i<4→getI l i=getI m i):a4 l=a4 m:=by
 unfold a4
 rw [h 0 (by decide),h 1 (by decide),h 2 (by decide),h 3 (by decide)]
def isTag (n:Int):Prop:=n=33024∨n=34984
instance (n:Int):Decidable (isTag n):=by unfold isTag; infer_instance
def group (m:List Int):Prop:=getI m 0 % 2=1
instance (m:List Int):Decidable (group m):=by unfold group; infer_instance
def tagsOk:List Tag→Prop
 | []=>True
 | [t]=>isTag t.tpid
 | [t,u]=>isTag t.tpid∧u.tpid=33024
 | _=>False
instance (l:List Tag):Decidable (tagsOk l):=by
 match l with
 | []=>exact isTrue trivial
 | [t]=>exact (inferInstance:Decidable (isTag t.tpid))
 | [t,u]=>exact (inferInstance:Decidable (isTag t.tpid∧u.tpid=33024))
 | _::_::_::_=>exact isFalse id
def tagOk (t:Tag):Prop:=0≤t.pcp∧t.pcp≤7∧0≤t.vid∧t.vid≤4094
instance (t:Tag):Decidable (tagOk t):=by unfold tagOk; infer_instance
def typeOk (n:Int):Prop:=1536≤n∧n≤65535∧¬ isTag n
instance (n:Int):Decidable (typeOk n):=by unfold typeOk; infer_instance
def linkCheck (f:Frm):Int:=
 if group f.src then 54 else if ¬ tagsOk f.tags then 51 else if ¬ (∀ t∈f.tags,tagOk t) then 52 else if ¬ typeOk f.type then 53
 else if 14+4 * f.tags.length+f.data.length > 65535 then 2 else 0
def word (n:Int):List Int:=[n / 256 % 256,n % 256]
def tagW (t:Tag):Int:=t.pcp * 8192+(if t.dei=true then 4096 else 0)+t.vid
def tagB (t:Tag):List Int:=word t.tpid++word (tagW t)
def linkB (f:Frm):List Int:=f.dst++f.src++f.tags.flatMap tagB++word f.type++f.data
def linkPut (f:Frm):List Int × Int:=if linkCheck f≠0 then ([],linkCheck f) else (linkB f,0)
def two (b:List Int) (i:Nat):Int:=getI b i * 256+getI b (i+1)
theorem linkCheck_ok {f:Frm} (h:linkCheck f=0):¬ group f.src∧tagsOk f.tags∧(∀ t∈f.tags,tagOk t)∧typeOk f.type∧14+4 * f.tags.length+f.data.length≤65535:=by
 unfold linkCheck at h
 split at h
 ·cases h
 ·split at h
  ·cases h
  ·split at h
   ·cases h
   ·split at h
    ·cases h
    ·split at h
     ·cases h
     ·rename_i h1 h2 h3 h4 h5
      exact ⟨h1,Decidable.not_not.1 h2,Decidable.not_not.1 h3,Decidable.not_not.1 h4,by omega⟩
def arpForm:List Int:=[0,1,8,0,6,4]
def zeroMac:List Int:=[0,0,0,0,0,0]
def arpCheck (op:Int) (m:List Int):Int:=if op≠1∧op≠2 then 57 else if group m∨m=zeroMac then 58 else 0
def arpPut (a:Arp):List Int × Int:=
 if arpCheck a.op a.smac≠0 then ([],arpCheck a.op a.smac) else if ¬ four a.sip∨¬ four a.tip then ([],20)
 else (arpForm++word a.op++a.smac++a.sip.a.take 4++a.tmac++a.tip.a.take 4,0)
def sort6 (k:Int):Int:=if k=0 then 1 else if k=43 then 2 else if k=44 then 3 else if k=60 then 1 else 0
def padK:Nat→Nat→List Int
 | 0,_=>[]
 | _+1,0=>[]
 | _+1,1=>[0]
 | f+1,n+2=>(1::((Nat.min (n+2) 257 - 2:Nat):Int)::List.replicate (Nat.min (n+2) 257 - 2) 0)++padK f (n+2 - Nat.min (n+2) 257)
def padN (n:Nat):List Int:=padK n n
theorem padK_fuel:∀ (f g n:Nat),n≤f→n≤g→padK f n=padK g n
 | 0,0,n,_,_=>rfl
 | 0,g+1,n,h,_=>by obtain rfl:n=0:=by omega
                   rfl
 | f+1,0,n,_,h=>by obtain rfl:n=0:=by omega
                   rfl
 | f+1,g+1,0,_,_=>rfl
 | f+1,g+1,1,_,_=>rfl
 | f+1,g+1,n+2,h,h2=>by
  have hm:2≤Nat.min (n+2) 257:=by show 2≤min (n+2) 257; omega
  rw [padK,padK,padK_fuel f g (n+2 - Nat.min (n+2) 257) (by omega) (by omega)]
theorem padN_step {n:Nat} (h:1<n):padN n=(1::((Nat.min n 257 - 2:Nat):Int)::List.replicate (Nat.min n 257 - 2) 0)++padN (n - Nat.min n 257):=by
 obtain ⟨k,rfl⟩ : ∃ k,n=k+2:=⟨n - 2,by omega⟩
 have hm:2≤Nat.min (k+2) 257:=by show 2≤min (k+2) 257; omega
 unfold padN
 rw [padK,padK_fuel (k+1) (k+2 - Nat.min (k+2) 257) _ (by omega) (Nat.le_refl _)]
theorem padN_len:∀ (n:Nat),(padN n).length=n:=by
 intro n
 induction n using Nat.strongRecOn with
 | ind n ih=>
  by_cases h:1<n
  ·have hm:2≤Nat.min n 257∧Nat.min n 257≤n:=by show 2≤min n 257∧min n 257≤n; omega
   rw [padN_step h,List.length_append,ih _ (by omega),List.length_cons,List.length_cons,List.length_replicate]
   omega
  ·match n,h with
   | 0,_=>rfl
   | 1,_=>rfl
   | n+2,h=>omega
theorem padN_bytes:∀ (n:Nat),Bytes (padN n):=by
 intro n
 induction n using Nat.strongRecOn with
 | ind n ih=>
  by_cases h:1<n
  ·have hm:2≤Nat.min n 257∧Nat.min n 257≤257:=by show 2≤min n 257∧min n 257≤257; omega
   rw [padN_step h]
   refine Bytes.app ?_ (ih _ (by omega))
   refine bytes_cons (by decide) (by decide) (bytes_cons (by omega) (by omega) (fun x hx=>?_))
   rw [List.eq_of_mem_replicate hx]; decide
  ·match n,h with
   | 0,_=>exact bytes_nil
   | 1,_=>exact bytes_cons (by decide) (by decide) bytes_nil
   | n+2,h=>omega
def optB6 (o:Opt):List Int:=o.kind::(o.data.length:Int)::o.data
def bad6 (o:Opt):Prop:=o.kind<0∨o.kind > 255∨o.kind=1∨(o.kind≠0∧o.data.length > 255)
instance (o:Opt):Decidable (bad6 o):=by unfold bad6; infer_instance
def badP (prev:Bool) (o:Opt):Prop:=o.data=[]∨prev=true∨(∃ c∈o.data,c≠0)∨o.data.length > 2046
instance (prev:Bool) (o:Opt):Decidable (badP prev o):=by unfold badP; infer_instance
def put6:Bool→List Opt→List Int→Option (List Int)
 | _,[],b=>if b.length % 8=6∧b.length≤2046 then some b else none
 | prev,o::l,b=>if bad6 o then none else if o.kind≠0 then put6 false l (b++optB6 o)
   else if badP prev o then none else put6 true l (b++padN o.data.length)
def body6 (x:Ext):List Int × Int:=
 if x.kind<0∨x.kind > 255∨(sort6 x.kind≠1∧sort6 x.kind≠2) then ([],72)
 else if sort6 x.kind=1 then (if x.data≠[] then ([],72) else match put6 false x.opts [] with
  | none=>([],75)
  | some b=>(b,0))
 else if x.opts≠[]∨x.data.length % 8≠6∨x.data.length > 2046 then ([],72) else (x.data,0)
def then6 (next:Int):List Ext→Int
 | []=>next
 | y::_=>y.kind
def heads6 (next:Int):Bool→List Ext→List Int→List Int × Int
 | _,[],out=>(out,0)
 | fst,x::l,out=>if x.kind=0∧fst=false then ([],73) else if (body6 x).2≠0 then ([],(body6 x).2)
   else heads6 next false l (out++(then6 next l % 256::((body6 x).1.length:Int) / 8 % 256::(body6 x).1))
def fits6 (f:Frag) (n:Int):Bool:=!decide ((f.more=true∧(n=0∨n % 8≠0))∨(f.off > 0∧n=0)) && decide (f.off+n≤65535)
def sized6 (h:Ip6):Int:=if h.src.v≠6∨h.dst.v≠6∨h.cls<0∨h.cls > 255∨h.flow<0∨h.flow ≥ 1048576∨h.hop<0∨h.hop > 255∨h.next<0∨h.next > 255 then 78 else 0
def fragged6 (h:Ip6):Int:=
 if h.frag.has=false then (if h.frag≠Frag.z then 76 else if sort6 h.next≠0 then 72 else 0)
 else if h.frag.id<0∨h.frag.id ≥ 4294967296∨h.frag.off<0∨h.frag.off % 8≠0∨h.frag.off > 65528∨fits6 h.frag h.data.length=false then 76 else 0
def next6 (h:Ip6):Int:=if h.frag.has=true then 44 else h.next
def first6 (h:Ip6):Int:=then6 (next6 h) h.exts
def fragPs (h:Ip6):List (Nat × Int):=[(8,h.next),(8,0),(13,h.frag.off / 8),(2,0),(1,b2i h.frag.more),(32,h.frag.id)]
def fragB (h:Ip6):List Int:=if h.frag.has=true then mkB 8 (allB (fragPs h)) else []
def exts6 (h:Ip6):List Int × Int:=if h.exts.length > 8 then ([],74) else heads6 (next6 h) true h.exts []
def ip6Ps (h:Ip6):List (Nat × Int):=[(4,6),(8,h.cls),(20,h.flow),(16,(((exts6 h).1++fragB h).length:Int)+(h.data.length:Int)),(8,first6 h),(8,h.hop)]
def ip6B (h:Ip6):List Int:=mkB 8 (allB (ip6Ps h))++(h.src.a++(h.dst.a++(((exts6 h).1++fragB h)++h.data)))
def made6 (h:Ip6):List Int × Int:=
 if sized6 h≠0 then ([],sized6 h) else if (exts6 h).2≠0 then ([],(exts6 h).2) else if fragged6 h≠0 then ([],fragged6 h)
 else if 40+((exts6 h).1++fragB h).length+h.data.length > 65535 then ([],2) else (ip6B h,0)
def alone (p:Pkt):Pkt:=⟨p.dst,p.src,p.tags,p.kind,if p.kind=1 then p.arp else Arp.z,if p.kind=2 then p.ip4 else Ip4.z,if p.kind=3 then p.ip6 else Ip6.z,p.l4,
 if p.l4=1 then p.icmp else Icmp.z,if p.l4=2 then p.udp else Udp.z,if p.l4=3 then p.tcp else Tcp.z⟩
def mixed (p:Pkt):Prop:=(p.kind<1∨p.kind > 3∨p.l4<0∨p.l4 > 3)∨p≠alone p∨p.l4≠layer p∨(p.l4≠0∧(dataOf p≠[]∨(p.l4=1∧p.icmp.v≠(endsOf p).v)))
instance (p:Pkt):Decidable (mixed p):=by unfold mixed; infer_instance
def above (p:Pkt):List Int × Int:=
 if p.l4=1 then icmpPut (endsOf p).src (endsOf p).dst p.icmp
 else if p.l4=2 then udpPut (endsOf p).src (endsOf p).dst p.udp
 else if p.l4=3 then tcpPut (endsOf p).src (endsOf p).dst p.tcp
 else (dataOf p,0)
def checkAbove (p:Pkt):Int:=
 if p.l4=1 then icmpCheck p.icmp else if p.l4=2 then udpCheck (endsOf p).v p.udp else if p.l4=3 then tcpCheck p.tcp else 0
def checkIP (p:Pkt):Int:=if p.kind=2 then ip4Check p.ip4 else (made6 p.ip6).2
def inner (p:Pkt):List Int × Int:=
 if p.kind=1 then arpPut p.arp else if checkIP p≠0 then ([],checkIP p) else if checkAbove p≠0 then ([],checkAbove p)
 else if (above p).2≠0 then ([],(above p).2)
 else if p.kind=2 then ip4Put (with_ p (above p).1).ip4 else made6 (with_ p (above p).1).ip6
def frameOf (p:Pkt) (ty:Int) (b:List Int):Frm:=⟨p.dst,p.src,p.tags,ty,b⟩
def pmade (p:Pkt):List Int × Int:=
 if linkCheck (frameOf p 2048 [])≠0 then ([],linkCheck (frameOf p 2048 [])) else if mixed p then ([],101)
 else if (inner p).2≠0 then ([],(inner p).2) else linkPut (frameOf p (typeOf p.kind) (inner p).1)
theorem pmade_ok {p:Pkt} (h:(pmade p).2=0):linkCheck (frameOf p 2048 [])=0∧¬ mixed p∧(inner p).2=0∧linkCheck (frameOf p (typeOf p.kind) (inner p).1)=0∧(pmade p).1=linkB (frameOf p (typeOf p.kind) (inner p).1):=by
 unfold pmade at h ⊢
 split at h
 ·rename_i h1; exact absurd h h1
 ·rename_i h1
  rw [if_neg h1]
  split at h
  ·cases h
  ·rename_i h2
   rw [if_neg h2]
   split at h
   ·rename_i h3; exact absurd h h3
   ·rename_i h3
    rw [if_neg h3]
    unfold linkPut at h ⊢
    split at h
    ·rename_i h4; exact absurd h h4
    ·rename_i h4
     rw [if_neg h4]
     exact ⟨Decidable.not_not.1 h1,h2,Decidable.not_not.1 h3,Decidable.not_not.1 h4,rfl⟩
theorem mixed_ok {p:Pkt} (h:¬ mixed p):1≤p.kind∧p.kind≤3∧0≤p.l4∧p.l4≤3∧p=alone p∧p.l4=layer p∧(p.l4≠0→dataOf p=[]∧(p.l4=1→p.icmp.v=(endsOf p).v)):=by
 unfold mixed at h
 refine ⟨by omega,by omega,by omega,by omega,Decidable.byContradiction fun hx=>h (.inr (.inl hx)),Decidable.byContradiction fun hx=>h (.inr (.inr (.inl hx))),fun h0=>⟨Decidable.byContradiction fun hx=>h (.inr (.inr (.inr ⟨h0,.inl hx⟩))),fun h1=>Decidable.byContradiction fun hx=>h (.inr (.inr (.inr ⟨h0,.inr ⟨h1,hx⟩⟩)))⟩⟩
theorem inner_ok {p:Pkt} (hk:p.kind≠1) (h:(inner p).2=0):checkIP p=0∧checkAbove p=0∧(above p).2=0∧inner p=(if p.kind=2 then ip4Put (with_ p (above p).1).ip4 else made6 (with_ p (above p).1).ip6):=by
 unfold inner at h ⊢
 rw [if_neg hk] at h ⊢
 split at h
 ·rename_i h1; exact absurd h h1
 ·rename_i h1
  rw [if_neg h1]
  split at h
  ·rename_i h2; exact absurd h h2
  ·rename_i h2
   rw [if_neg h2]
   split at h
   ·rename_i h3; exact absurd h h3
   ·rename_i h3
    rw [if_neg h3]
    exact ⟨Decidable.not_not.1 h1,Decidable.not_not.1 h2,Decidable.not_not.1 h3,rfl⟩
structure Pkt.Ok (p:Pkt):Prop where
 s4:p.ip4.src.Ok
 d4:p.ip4.dst.Ok
 s6:p.ip6.src.Ok
 d6:p.ip6.dst.Ok
 dst:p.dst.length=6∧Bytes p.dst
 src:p.src.length=6∧Bytes p.src
 smac:p.arp.smac.length=6∧Bytes p.arp.smac
 tmac:p.arp.tmac.length=6∧Bytes p.arp.tmac
 sip:p.arp.sip.Ok
 tip:p.arp.tip.Ok
 o4:∀ o∈p.ip4.opts,Bytes o.data
 b4:Bytes p.ip4.data
 x6:∀ x∈p.ip6.exts,Bytes x.data∧∀ o∈x.opts,Bytes o.data
 b6:Bytes p.ip6.data
 bi:Bytes p.icmp.data
 bu:Bytes p.udp.data
 ot:∀ o∈p.tcp.opts,Bytes o.data
 bt:Bytes p.tcp.data
theorem ends_ok {p:Pkt} (h:p.Ok):(endsOf p).src.Ok∧(endsOf p).dst.Ok:=by
 unfold endsOf
 split
 ·exact ⟨h.s4,h.d4⟩
 ·exact ⟨h.s6,h.d6⟩
theorem kind_with (p:Pkt) (b:List Int):(with_ p b).kind=p.kind:=by unfold with_; split <;> rfl
def flush (run:Nat) (l:List Opt):List Opt:=if run=0 then l else ⟨0,List.replicate run 0⟩::l
def gets6:Nat→Nat→List Int→Option (List Opt)
 | _,run,[]=>some (flush run [])
 | 0,_,_::_=>none
 | f+1,run,[k]=>if k=0 then gets6 f (run+1) [] else none
 | f+1,run,k::n::r'=>if k=0 then gets6 f (run+1) (n::r') else if n > r'.length then none else if k=1 then gets6 f (run+2+n.toNat) (r'.drop n.toNat)
   else (gets6 f 0 (r'.drop n.toNat)).map (fun l=>flush run (⟨k,r'.take n.toNat⟩::l))
theorem gets6_fuel:∀ (f g run:Nat) (b:List Int),b.length≤f→b.length≤g→gets6 f run b=gets6 g run b
 | f,g,run,[],_,_=>by cases f <;> cases g <;> rfl
 | 0,g,run,k::r,h,_=>by simp at h
 | f+1,0,run,k::r,_,h=>by simp at h
 | f+1,g+1,run,[k],h,h2=>by
  show (if k=0 then gets6 f (run+1) [] else none)=if k=0 then gets6 g (run+1) [] else none
  rw [gets6_fuel f g _ [] (by simp) (by simp)]
 | f+1,g+1,run,k::n::r',h,h2=>by
  rw [List.length_cons,List.length_cons] at h h2
  rw [gets6,gets6,gets6_fuel f g _ (n::r') (by rw [List.length_cons]; omega) (by rw [List.length_cons]; omega),gets6_fuel f g _ (r'.drop n.toNat) (by rw [List.length_drop]; omega) (by rw [List.length_drop]; omega),gets6_fuel f g 0 (r'.drop n.toNat) (by rw [List.length_drop]; omega) (by rw [List.length_drop]; omega)]
def opts6 (run:Nat) (b:List Int):Option (List Opt):=gets6 b.length run b
theorem opts6_zero (run:Nat) (r:List Int):opts6 run (0::r)=opts6 (run+1) r:=by
 unfold opts6
 match r with
 | []=>rfl
 | n::r'=>rw [List.length_cons,gets6,if_pos rfl]
theorem opts6_cons {run:Nat} {k n:Int} {r:List Int} (hk:k≠0):opts6 run (k::n::r)=if n > r.length then none else if k=1 then opts6 (run+2+n.toNat) (r.drop n.toNat) else (opts6 0 (r.drop n.toNat)).map (fun l=>flush run (⟨k,r.take n.toNat⟩::l)):=by
 unfold opts6
 rw [List.length_cons,gets6,if_neg hk,gets6_fuel (n::r).length _ _ (r.drop n.toNat) (by rw [List.length_drop,List.length_cons]; omega) (Nat.le_refl _),gets6_fuel (n::r).length _ 0 (r.drop n.toNat) (by rw [List.length_drop,List.length_cons]; omega) (Nat.le_refl _)]
theorem opts6_pad:∀ (n run:Nat) (r:List Int),opts6 run (padN n++r)=opts6 (run+n) r:=by
 intro n
 induction n using Nat.strongRecOn with
 | ind n ih=>
  intro run r
  by_cases h:1<n
  ·have hm:2≤Nat.min n 257∧Nat.min n 257≤n:=by show 2≤min n 257∧min n 257≤n; omega
   rw [padN_step h]
   generalize Nat.min n 257=m at hm ⊢
   show opts6 run (1::((m - 2:Nat):Int)::(List.replicate (m - 2) 0++padN (n - m)++r))=_
   rw [opts6_cons (by decide),if_neg (by simp only [List.length_append,List.length_replicate]; omega),if_pos rfl,Int.toNat_natCast,List.append_assoc,List.drop_left' (by rw [List.length_replicate]),ih (n - m) (by omega)]
   rw [show run+2+(m - 2)+(n - m)=run+n by omega]
  ·match n,h with
   | 0,_=>rfl
   | 1,_=>exact opts6_zero run r
   | n+2,h=>omega
theorem opts6_put:∀ (l:List Opt) (prev:Bool) (run:Nat) (b c:List Int),(prev=false→run=0)→put6 prev l b=some c→∃ t,c=b++t∧opts6 run t=some (flush run l)
 | [],prev,run,b,c,hr,h=>by
  rw [put6] at h
  split at h
  ·injection h with h; exact ⟨[],by rw [List.append_nil,h],rfl⟩
  ·cases h
 | o::l,prev,run,b,c,hr,h=>by
  rw [put6] at h
  split at h
  ·cases h
  ·rename_i h1
   unfold bad6 at h1
   split at h
   ·rename_i h2
    obtain ⟨t,h3,h4⟩:=opts6_put l false 0 _ c (fun _=>rfl) h
    refine ⟨optB6 o++t,by rw [h3,List.append_assoc],?_⟩
    show opts6 run (o.kind::(o.data.length:Int)::(o.data++t))=_
    rw [opts6_cons h2,if_neg (by rw [List.length_append]; omega),if_neg (by omega),Int.toNat_natCast,List.drop_left,List.take_left,h4]
    rfl
   ·rename_i h2
    split at h
    ·cases h
    ·rename_i h5
     unfold badP at h5
     have hp:prev=false:=by cases prev with
      | false=>rfl
      | true=>exact absurd (.inr (.inl rfl)) h5
     have hz:o.data=List.replicate o.data.length 0:=List.eq_replicate_iff.2 ⟨rfl,fun x hx=>Decidable.byContradiction fun hne=>h5 (.inr (.inr (.inl ⟨x,hx,hne⟩)))⟩
     have hne:o.data.length≠0:=fun h0=>h5 (.inl (List.length_eq_zero_iff.1 h0))
     obtain ⟨t,h3,h4⟩:=opts6_put l true o.data.length _ c (fun hx=>by cases hx) h
     refine ⟨padN o.data.length++t,by rw [h3,List.append_assoc],?_⟩
     rw [opts6_pad,hr hp,Nat.zero_add,h4]
     unfold flush
     rw [if_neg hne,if_pos rfl,←hz]
     have:o.kind=0:=Decidable.not_not.1 h2
     rw [←this]
theorem put6_len:∀ (l:List Opt) (prev:Bool) (b c:List Int),put6 prev l b=some c→c.length % 8=6∧c.length≤2046
 | [],prev,b,c,h=>by
  rw [put6] at h
  split at h
  ·rename_i h1; injection h with h; rw [←h]; exact h1
  ·cases h
 | o::l,prev,b,c,h=>by
  rw [put6] at h
  split at h
  ·cases h
  ·split at h
   ·exact put6_len l _ _ c h
   ·split at h
    ·cases h
    ·exact put6_len l _ _ c h
theorem put6_bytes:∀ (l:List Opt) (prev:Bool) (b c:List Int),Bytes b→(∀ o∈l,Bytes o.data)→put6 prev l b=some c→Bytes c
 | [],prev,b,c,hb,ho,h=>by
  rw [put6] at h
  split at h
  ·injection h with h; rw [←h]; exact hb
  ·cases h
 | o::l,prev,b,c,hb,ho,h=>by
  rw [put6] at h
  split at h
  ·cases h
  ·rename_i h1
   unfold bad6 at h1
   split at h
   ·exact put6_bytes l _ _ c (hb.app (bytes_cons (by omega) (by omega) (bytes_cons (by omega) (by omega) (ho o (List.mem_cons_self ..))))) (fun x hx=>ho x (List.mem_cons_of_mem _ hx)) h
   ·split at h
    ·cases h
    ·exact put6_bytes l _ _ c (hb.app (padN_bytes _)) (fun x hx=>ho x (List.mem_cons_of_mem _ hx)) h
theorem body6_ok {x:Ext} (h:(body6 x).2=0):0≤x.kind∧x.kind≤255∧(body6 x).1.length % 8=6∧(body6 x).1.length≤2046∧
  ((sort6 x.kind=1∧x.data=[]∧opts6 0 (body6 x).1=some x.opts)∨(sort6 x.kind=2∧x.opts=[]∧(body6 x).1=x.data)):=by
 unfold body6 at h ⊢
 split at h
 ·cases h
 ·rename_i h1
  rw [if_neg h1]
  split at h
  ·rename_i h2
   rw [if_pos h2]
   split at h
   ·cases h
   ·rename_i h3
    rw [if_neg h3]
    cases hp:put6 false x.opts [] with
    | none=>rw [hp] at h; cases h
    | some b=>
     have hl:=put6_len _ _ _ _ hp
     obtain ⟨t,g1,g2⟩:=opts6_put _ _ 0 _ _ (fun _=>rfl) hp
     rw [List.nil_append] at g1
     subst g1
     exact ⟨by omega,by omega,hl.1,hl.2,.inl ⟨h2,Decidable.not_not.1 h3,g2⟩⟩
  ·rename_i h2
   rw [if_neg h2]
   split at h
   ·cases h
   ·rename_i h3
    rw [if_neg h3]
    exact ⟨by omega,by omega,by show x.data.length % 8=6; omega,by show x.data.length≤2046; omega,.inr ⟨by omega,Decidable.byContradiction fun hx=>h3 (.inl hx),rfl⟩⟩
theorem body6_bytes {x:Ext} (hb:Bytes x.data) (ho:∀ o∈x.opts,Bytes o.data):Bytes (body6 x).1:=by
 unfold body6
 split
 ·exact bytes_nil
 ·split
  ·split
   ·exact bytes_nil
   ·cases hp:put6 false x.opts [] with
    | none=>exact bytes_nil
    | some b=>exact put6_bytes _ _ _ _ bytes_nil ho hp
  ·split
   ·exact bytes_nil
   ·exact hb
theorem made6_ok {h:Ip6} (c:(made6 h).2=0):sized6 h=0∧(exts6 h).2=0∧fragged6 h=0∧40+((exts6 h).1++fragB h).length+h.data.length≤65535∧(made6 h).1=ip6B h:=by
 unfold made6 at c ⊢
 split at c
 ·rename_i h1; exact absurd c h1
 ·rename_i h1
  rw [if_neg h1]
  split at c
  ·rename_i h2; exact absurd c h2
  ·rename_i h2
   rw [if_neg h2]
   split at c
   ·rename_i h3; exact absurd c h3
   ·rename_i h3
    rw [if_neg h3]
    split at c
    ·cases c
    ·rename_i h4
     rw [if_neg h4]
     exact ⟨Decidable.not_not.1 h1,Decidable.not_not.1 h2,Decidable.not_not.1 h3,by omega,rfl⟩
theorem sized6_ok {h:Ip6} (c:sized6 h=0):h.src.v=6∧h.dst.v=6∧0≤h.cls∧h.cls≤255∧0≤h.flow∧h.flow<1048576∧0≤h.hop∧h.hop≤255∧0≤h.next∧h.next≤255:=by
 unfold sized6 at c
 split at c
 ·cases c
 ·rename_i h1
  refine ⟨by omega,by omega,by omega,by omega,by omega,by omega,by omega,by omega,by omega,by omega⟩
theorem first6_r {h:Ip6} (c:sized6 h=0) (c1:(exts6 h).2=0):0≤first6 h∧first6 h≤255:=by
 have hz:=sized6_ok c
 unfold first6
 unfold exts6 at c1
 split at c1
 ·cases c1
 ·match hx:h.exts with
  | []=>
   show 0≤next6 h∧next6 h≤255
   unfold next6; split <;> omega
  | x::l=>
   rw [hx,heads6] at c1
   split at c1
   ·cases c1
   ·split at c1
    ·rename_i h2; exact absurd c1 h2
    ·rename_i h2
     have:=body6_ok (Decidable.not_not.1 h2)
     exact ⟨this.1,this.2.1⟩
end Go.Proofs.YtlmnjnhmhacgkaaDoor.Am
end
