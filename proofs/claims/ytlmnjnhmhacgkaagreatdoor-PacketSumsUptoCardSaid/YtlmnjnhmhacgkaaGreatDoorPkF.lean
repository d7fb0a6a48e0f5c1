/-
  The packet's layers, plainly: what is written, and what is read back.
-/
import Derived.Test.YtlmnjnhmhacgkaaGreatDoorPkE
import Derived.KernelRfl
section
set_option linter.unusedVariables false
set_option linter.unusedSimpArgs false
set_option maxRecDepth 100000
namespace Go.Proofs.YtlmnjnhmhacgkaaGreatDoor.Am
open Go Go.Am Go.Proofs
def upper (v proto:Int):Int:=
 if proto=6 then 3 else if proto=17 then 2 else if (v=4∧proto=1)∨(v=6∧proto=58) then 1 else 0
theorem a94 (n:Nat) (v proto:Int):A94 n [.int .i64 v,.int .i64 proto]=some [.int .i64 (upper v proto)]:=by
 show run94 n v proto=_
 rw [eq94]
 unfold upper
 by_cases h6:proto=6
 ·simp [ZY,h6]
 by_cases h17:proto=17
 ·simp [ZY,h17]
 by_cases hv:v=4
 ·by_cases h1:proto=1 <;> simp [ZY,h6,h17,hv,h1]
 ·by_cases hv6:v=6
  ·by_cases h1:proto=58 <;> simp [ZY,h6,h17,hv,hv6,h1]
  ·simp [ZY,h6,h17,hv,hv6]
def layer (p:Pkt):Int:=if p.kind=1∨(endsOf p).piece=true then 0 else upper (endsOf p).v (endsOf p).proto
theorem a57 (n:Nat) (p:Pkt):A57 n [p.av]=some [.int .i64 (layer p)]:=by
 show run57 A55 A94 n p.av=_
 rw [eq57]
 unfold layer
 by_cases h1:p.kind=1
 ·simp [ZY,a55,h1]
 ·cases hp:(endsOf p).piece <;> simp [ZY,a55,a94,h1,hp]
def dataOf (p:Pkt):List Int:=if p.kind=2 then p.ip4.data else p.ip6.data
theorem a56 (n:Nat) (p:Pkt):A56 n [p.av]=some [.fs .u8 (dataOf p)]:=by
 show run56 n p.av=_
 rw [eq56]
 unfold dataOf
 by_cases h:p.kind=2 <;> simp [ZY,h]
def with_ (p:Pkt) (b:List Int):Pkt:=if p.kind=2 then { p with ip4:={ p.ip4 with data:=b } } else { p with ip6:={ p.ip6 with data:=b } }
theorem a54 (n:Nat) (p:Pkt) (b:List Int):A54 n [p.av,.fs .u8 b]=some [(with_ p b).av]:=by
 show run54 n p.av b=_
 rw [eq54]
 unfold with_
 by_cases h:p.kind=2 <;> simp [ZY,h]
def typeOf (k:Int):Int:=if k=1 then 2054 else if k=2 then 2048 else 34525
theorem a66 (n:Nat) (k:Int):A66 n [.int .i64 k]=some [.int .i64 (typeOf k)]:=by
 show run66 n k=_
 rw [eq66]
 unfold typeOf
 by_cases h:k=1
 ·simp [ZY,h]
 ·by_cases h2:k=2 <;> simp [ZY,h,h2]
theorem a158 (n:Nat) (b:Bool):A158 n [.bool b]=some [.int .i64 (if b then 1 else 0)]:=by
 show run158 n b=_
 rw [eq158]
 cases b <;> rfl
theorem a96 (n:Nat):A96 n []=some [.fs .i64 [8,8,16,32]]:=eq96 n
theorem a137 (n:Nat) (ps:List (List Int)) (hps:∀ p∈ps,Bytes p∧p.length<2 ^ 44) (hl:ps.length<2 ^ 44) (hn:2 ^ 63<n) (hb:Bytes ps.flatten):A137 n [.fv (.fs .u8) (fsL ps)]=some [.int .i64 (65535 - sum16 ps.flatten)]:=by
 show run137 A127 n (fsL ps)=_
 rw [eq137,a127 n ps hps hl hn]
 have h:=fd_r (addS_r hb true).1
 simp only [ZZ]
 rw [W_id (by unfold sum16; omega) (by unfold sum16; omega)]
theorem a84 (n:Nat) (ps:List (List Int)) (hps:∀ p∈ps,Bytes p∧p.length<2 ^ 44) (hl:ps.length<2 ^ 44) (hn:2 ^ 63<n):A84 n [.fv (.fs .u8) (fsL ps)]=some [.bool (sum16 ps.flatten == 65535)]:=by
 show run84 A127 n (fsL ps)=_
 rw [eq84,a127 n ps hps hl hn]
 simp only [ZZ]
def a4 (a:List Int):List Int:=[getI a 0,getI a 1,getI a 2,getI a 3,0,0,0,0,0,0,0,0,0,0,0,0]
def version (ip:Ip):Int:=if ip.v=6 then 6 else if ip.v≠4 then 0 else if ip.a=a4 ip.a then 4 else 0
theorem keq_arr (a b:List Int):keq (.arr .u8 16 a) (.arr .u8 16 b)=decide (a=b):=by
 show (IntKind.u8 == IntKind.u8 && (Nat.beq 16 16 && a == b))=_
 rw [show (IntKind.u8 == IntKind.u8)=true from rfl,show Nat.beq 16 16=true from rfl,Bool.true_and,Bool.true_and]
 rw [Bool.eq_iff_iff]; simp
theorem a184 (n:Nat) (ip:Ip):A184 n [ip.av]=some [.int .i64 (version ip)]:=by
 show run184 n ip.av=_
 rw [eq184]
 unfold version
 by_cases h6:ip.v=6
 ·simp [ZY,h6]
 by_cases h4:ip.v=4
 ·by_cases ha:ip.a=a4 ip.a
  ·have:keq (.arr .u8 16 ip.a) (.arr .u8 16 (a4 ip.a))=true:=by rw [keq_arr]; simpa using ha
   simp only [a4] at this
   simp only [ZY,h6,h4,this]
   simp [←ha]
  ·have:keq (.arr .u8 16 ip.a) (.arr .u8 16 (a4 ip.a))=false:=by rw [keq_arr]; simpa using ha
   simp only [a4] at this
   simp only [ZY,h6,h4,this]
   simp [ha]
 ·simp [ZY,h6,h4]
def pseudoB (src dst:Ip) (proto k:Int):List Int:=
 if version src=4 then src.a.take 4++dst.a.take 4++[0,proto % 256,k / 256 % 256,k % 256]
 else src.a.take 16++dst.a.take 16++[0,0,k / 256 % 256,k % 256,0,0,0,proto % 256]
def pseudo (src dst:Ip) (proto k:Int):List Int × Int:=
 if version src=0∨version dst≠version src then ([],20)
 else if proto<0∨proto > 255∨k<0∨k > 65535 then ([],1)
 else (pseudoB src dst proto k,0)
theorem hi8 {x:Int}:Int.fdiv x (Int.ofNat (2 ^ (Min.min (Int.toNat 8) (IntKind.bits .i64))))=x / 256:=by
 have:Int.ofNat (2 ^ (Min.min (Int.toNat 8) (IntKind.bits .i64)))=256:=by decide
 rw [this,Int.fdiv_eq_ediv_of_nonneg _ (by decide)]
theorem ble_of {a b:Nat} (h:a≤b):Nat.ble a b=true:=by rw [Nat.ble_eq]; exact h
theorem a139 (n:Nat) (src dst:Ip) (proto k:Int):A139 n [src.av,dst.av,.int .i64 proto,.int .i64 k]=some [.fs .u8 (pseudo src dst proto k).1,.int .i64 (pseudo src dst proto k).2]:=by
 show run139 A184 n src.av dst.av proto k=_
 rw [eq139]
 unfold pseudo
 have l4:∀ l:List Int,(l.take 4).length≤4:=fun l=>by rw [List.length_take]; omega
 have l16:∀ l:List Int,(l.take 16).length≤16:=fun l=>by rw [List.length_take]; omega
 by_cases h0:version src=0
 ·simp [ZY,a184,h0]
 by_cases h1:version dst=version src
 ·by_cases h2:proto<0∨proto > 255∨k<0∨k > 65535
  ·rw [if_neg (by simp [h0,h1]),if_pos h2]
   by_cases q1:proto<0
   ·simp [ZY,a184,h0,h1,q1]
   by_cases q2:proto > 255
   ·simp [ZY,a184,h0,h1,q1,q2]
   by_cases q3:k<0
   ·simp [ZY,a184,h0,h1,q1,q2,q3]
   ·have q4:k > 65535:=by omega
    simp [ZY,a184,h0,h1,q1,q2,q3,q4]
  ·rw [if_neg (by simp [h0,h1]),if_neg h2]
   have q1:¬ proto<0:=by omega
   have q2:¬ proto > 255:=by omega
   have q3:¬ k<0:=by omega
   have q4:¬ k > 65535:=by omega
   have s4:=l4 src.a; have d4:=l4 dst.a; have s16:=l16 src.a; have d16:=l16 dst.a
   unfold pseudoB
   by_cases hv:version src=4
   ·simp only [ZY,a184,h0,h1,q1,q2,q3,q4,hv,List.drop_zero,hi8,W8,List.length_append]
    simp
    omega
   ·simp only [ZY,a184,h0,h1,q1,q2,q3,q4,hv,List.drop_zero,hi8,W8,List.length_append]
    simp [hv,h0]
    omega
 ·simp [ZY,a184,h0,h1]
def Ip.Ok (ip:Ip):Prop:=ip.a.length=16∧Bytes ip.a
theorem bytes_cons {x:Int} {l:List Int} (h1:0≤x) (h2:x≤255) (h:Bytes l):Bytes (x::l):=fun y hy=>by
 cases hy with
 | head=>exact ⟨h1,h2⟩
 | tail _ hy=>exact h y hy
theorem bytes_nil:Bytes []:=fun y hy=>by cases hy
theorem pseudoB_ok {src dst:Ip} (hs:src.Ok) (hd:dst.Ok) (proto k:Int):Bytes (pseudoB src dst proto k)∧(pseudoB src dst proto k).length≤40:=by
 unfold pseudoB
 split
 ·refine ⟨((hs.2.take 4).app (hd.2.take 4)).app ?_,?_⟩
  ·exact bytes_cons (by omega) (by omega) (bytes_cons (by omega) (by omega) (bytes_cons (by omega) (by omega) (bytes_cons (by omega) (by omega) bytes_nil)))
  ·simp only [List.length_append,List.length_take,List.length_cons,List.length_nil]; omega
 ·refine ⟨((hs.2.take 16).app (hd.2.take 16)).app ?_,?_⟩
  ·exact bytes_cons (by omega) (by omega) (bytes_cons (by omega) (by omega) (bytes_cons (by omega) (by omega) (bytes_cons (by omega) (by omega) (bytes_cons (by omega) (by omega) (bytes_cons (by omega) (by omega) (bytes_cons (by omega) (by omega) (bytes_cons (by omega) (by omega) bytes_nil)))))))
  ·simp only [List.length_append,List.length_take,List.length_cons,List.length_nil]; omega
theorem a97 (n:Nat) (src dst:Ip):A97 n [src.av,dst.av]=some [.int .i64 (pseudo src dst 0 0).2]:=by
 show run97 A139 n src.av dst.av=_
 rw [eq97]
 simp only [ZZ,a139]
def good (src dst:Ip) (proto:Int) (b:List Int):Bool:=(pseudo src dst proto b.length).2 == 0 && sum16 ((pseudo src dst proto b.length).1++b) == 65535
theorem a98 (n:Nat) (src dst:Ip) (hs:src.Ok) (hd:dst.Ok) (proto:Int) (b:List Int) (hb:Bytes b) (hl:b.length<2 ^ 44) (hn:2 ^ 63<n):A98 n [src.av,dst.av,.int .i64 proto,.fs .u8 b]=some [.bool (good src dst proto b)]:=by
 show run98 A84 A139 n src.av dst.av proto b=_
 rw [eq98]
 have h139:=a139 n src dst proto (b.length:Nat)
 simp only [ZZ,Int.ofNat_eq_natCast,h139]
 unfold good
 have hp:Bytes (pseudo src dst proto b.length).1∧(pseudo src dst proto b.length).1.length<2 ^ 44:=by
  unfold pseudo
  have:=pseudoB_ok hs hd proto b.length
  split
  ·exact ⟨bytes_nil,by simp⟩
  ·split
   ·exact ⟨bytes_nil,by simp⟩
   ·exact ⟨this.1,by show (pseudoB src dst proto b.length).length<_; omega⟩
 have h84:=a84 n [(pseudo src dst proto b.length).1,b] (fun p hp'=>by
  simp only [List.mem_cons,List.mem_nil_iff,or_false] at hp'
  rcases hp' with rfl | rfl
  ·exact hp
  ·exact ⟨hb,hl⟩) (by simp) hn
 rw [show fsL [(pseudo src dst proto b.length).1,b]=[.fs .u8 (pseudo src dst proto b.length).1,.fs .u8 b] from rfl] at h84
 simp only [h84,ZZ,List.flatten_cons,List.flatten_nil,List.append_nil]
 cases hq:((pseudo src dst proto b.length).2 == 0) <;> rfl
def icmpCheck (m:Icmp):Int:=
 if m.v≠4∧m.v≠6 then 1
 else if m.type<0∨m.type > 255∨m.code<0∨m.code > 255∨m.rest<0∨m.rest > 4294967295 then 82
 else if 8+m.data.length > 65515 then 2 else 0
theorem a135 (n:Nat) (m:Icmp) (hl:m.data.length<2 ^ 60):A135 n [m.av]=some [.int .i64 (icmpCheck m)]:=by
 show run135 n m.av=_
 rw [eq135]
 unfold icmpCheck
 have hw:IntKind.wrap .i64 (8+Int.ofNat m.data.length)=8+(m.data.length:Int):=wrap_id (by simp; omega) (by simp; omega)
 have hw2:IntKind.wrap .i64 (8+(m.data.length:Int))=8+(m.data.length:Int):=wrap_id (by omega) (by omega)
 by_cases hv:m.v≠4∧m.v≠6
 ·simp [ZY,hv]
 ·have hv' : m.v=4∨m.v=6:=by omega
  by_cases h1:m.type<0
  ·rcases hv' with h | h <;> simp [ZY,h,h1]
  by_cases h2:m.type > 255
  ·rcases hv' with h | h <;> simp [ZY,h,h1,h2]
  by_cases h3:m.code<0
  ·rcases hv' with h | h <;> simp [ZY,h,h1,h2,h3]
  by_cases h4:m.code > 255
  ·rcases hv' with h | h <;> simp [ZY,h,h1,h2,h3,h4]
  by_cases h5:m.rest<0
  ·rcases hv' with h | h <;> simp [ZY,h,h1,h2,h3,h4,h5]
  by_cases h6:m.rest > 4294967295
  ·rcases hv' with h | h <;> simp [ZY,h,h1,h2,h3,h4,h5,h6]
  by_cases h7:8+m.data.length > 65515
  ·have h7' : (8:Int)+(m.data.length:Int) > 65515:=by omega
   rcases hv' with h | h <;> simp [ZY,h,h1,h2,h3,h4,h5,h6,h7,hw,hw2] <;> omega
  ·rcases hv' with h | h <;> simp [ZY,h,h1,h2,h3,h4,h5,h6,h7,hw,hw2] <;> omega
def pseudoI (v:Int) (src dst:Ip) (k:Int):List Int × Int:=
 if v=4 then ([],0) else if src.v≠6∨dst.v≠6 then ([],20) else pseudo src dst 58 k
theorem a95 (n:Nat) (v:Int) (src dst:Ip) (k:Int):A95 n [.int .i64 v,src.av,dst.av,.int .i64 k]=some [.fs .u8 (pseudoI v src dst k).1,.int .i64 (pseudoI v src dst k).2]:=by
 show run95 A139 n v src.av dst.av k=_
 rw [eq95]
 unfold pseudoI
 by_cases h4:v=4
 ·simp [ZY,h4]
 by_cases h6:src.v=6
 ·by_cases h6' : dst.v=6
  ·simp [ZY,h4,h6,h6',a139]
  ·simp [ZY,h4,h6,h6']
 ·simp [ZY,h4,h6]
theorem pseudoI_ok {src dst:Ip} (hs:src.Ok) (hd:dst.Ok) (v k:Int):Bytes (pseudoI v src dst k).1∧(pseudoI v src dst k).1.length≤40:=by
 unfold pseudoI
 split
 ·exact ⟨bytes_nil,by simp⟩
 ·split
  ·exact ⟨bytes_nil,by simp⟩
  ·unfold pseudo
   split
   ·exact ⟨bytes_nil,by simp⟩
   ·split
    ·exact ⟨bytes_nil,by simp⟩
    ·exact pseudoB_ok hs hd 58 k
def icmpHead (m:Icmp):List Int:=mkB 8 (allB [(8,m.type),(8,m.code),(16,0),(32,m.rest)])
def icmpSum (src dst:Ip) (m:Icmp):Int:=65535 - sum16 ((pseudoI m.v src dst (8+m.data.length)).1++(icmpHead m++m.data))
def icmpB (src dst:Ip) (m:Icmp):List Int:=(((icmpHead m).set 2 (icmpSum src dst m / 256 % 256)).set 3 (icmpSum src dst m % 256))++m.data
def icmpPut (src dst:Ip) (m:Icmp):List Int × Int:=
 if icmpCheck m≠0 then ([],icmpCheck m)
 else if (pseudoI m.v src dst (8+m.data.length)).2≠0 then ([],(pseudoI m.v src dst (8+m.data.length)).2)
 else (icmpB src dst m,0)
theorem icmpCheck_ok {m:Icmp} (h:icmpCheck m=0):(m.v=4∨m.v=6)∧0≤m.type∧m.type≤255∧0≤m.code∧m.code≤255∧0≤m.rest∧m.rest≤4294967295∧m.data.length≤65507:=by
 unfold icmpCheck at h
 split at h
 ·cases h
 ·split at h
  ·cases h
  ·split at h
   ·cases h
   ·omega
theorem hi8n {x:Int}:Int.fdiv x ((2 ^ (Min.min (Int.toNat 8) (IntKind.bits .i64)):Nat):Int)=x / 256:=hi8
theorem w123i (n:Nat):A123 (n+8) [.fs .i64 (wI [8,8,16,32])]=some [.int .i64 ((8:Nat):Int),.int .i64 0]:=by kernel_rfl
theorem icmpHead_ok (m:Icmp):Bytes (icmpHead m)∧(icmpHead m).length=8:=⟨mkB_bytes (allB_01 _) 8,mkB_len 8 _⟩
theorem a136i (n:Nat) (hn:2 ^ 63<n) (m:Icmp) (h:icmpCheck m=0):A136 n [.fs .i64 [8,8,16,32],.fs .i64 [m.type,m.code,0,m.rest]]=some [.fs .u8 (icmpHead m),.int .i64 0]:=by
 obtain ⟨_,h1,h2,h3,h4,h5,h6,_⟩:=icmpCheck_ok h
 obtain ⟨k,rfl⟩ : ∃ k,n=k+8:=⟨n - 8,by omega⟩
 refine a136 (k+8) [(8,m.type),(8,m.code),(16,0),(32,m.rest)] (fun p hp=>?_) 8 rfl (by decide) (by omega) (by show 4<k+8; omega) (by show 4≤64; omega) (w123i k)
 simp only [List.mem_cons,List.mem_nil_iff,or_false] at hp
 rcases hp with rfl | rfl | rfl | rfl <;> simp <;> omega
theorem set_bytes {l:List Int} (h:Bytes l) (i:Nat) {x:Int} (h1:0≤x) (h2:x≤255):Bytes (l.set i x):=fun y hy=>by
 rcases List.mem_or_eq_of_mem_set hy with h' | rfl
 ·exact h y h'
 ·exact ⟨h1,h2⟩
theorem a91 (n:Nat) (hn:2 ^ 63<n) (src dst:Ip) (hs:src.Ok) (hd:dst.Ok) (m:Icmp) (hb:Bytes m.data) (hl:m.data.length<2 ^ 44):A91 n [src.av,dst.av,m.av]=some [.fs .u8 (icmpPut src dst m).1,.int .i64 (icmpPut src dst m).2]:=by
 show run91 A95 A96 A135 A136 A137 n src.av dst.av m.av=_
 rw [eq91]
 unfold icmpPut
 have hw:IntKind.wrap .i64 (8+(m.data.length:Int))=8+(m.data.length:Int):=wrap_id (by omega) (by omega)
 by_cases hc:icmpCheck m=0
 ·rw [if_neg (by simpa using hc)]
  have h136:=a136i n hn m hc
  by_cases hp:(pseudoI m.v src dst (8+m.data.length)).2=0
  ·rw [if_neg (by simpa using hp)]
   have hpo:=pseudoI_ok hs hd m.v (8+m.data.length)
   have hho:=icmpHead_ok m
   have hbig:=(icmpCheck_ok hc).2.2.2.2.2.2.2
   have hB:Bytes [(pseudoI m.v src dst (8+m.data.length)).1,icmpHead m,m.data].flatten:=by
    simp only [List.flatten_cons,List.flatten_nil,List.append_nil]
    exact hpo.1.app (hho.1.app hb)
   have h137:=a137 n [(pseudoI m.v src dst (8+m.data.length)).1,icmpHead m,m.data] (fun p hp'=>by
    simp only [List.mem_cons,List.mem_nil_iff,or_false] at hp'
    rcases hp' with rfl | rfl | rfl
    ·exact ⟨hpo.1,by omega⟩
    ·exact ⟨hho.1,by omega⟩
    ·exact ⟨hb,hl⟩) (by simp) hn hB
   rw [show fsL [(pseudoI m.v src dst (8+m.data.length)).1,icmpHead m,m.data]=[.fs .u8 (pseudoI m.v src dst (8+m.data.length)).1,.fs .u8 (icmpHead m),.fs .u8 m.data] from rfl] at h137
   simp only [List.flatten_cons,List.flatten_nil,List.append_nil] at h137
   simp only [ZZ,a135 n m (by omega),hc,Int.ofNat_eq_natCast,hw,a95,hp,a96,h136,h137,show ((0:Int) != 0)=false from rfl]
   have hlen:((icmpHead m).set 2 (IntKind.wrap .u8 (Int.fdiv (65535 - sum16 ((pseudoI m.v src dst (8+m.data.length)).1++(icmpHead m++m.data))) (Int.ofNat (2 ^ (Min.min (Int.toNat 8) (IntKind.bits .i64))))))).length=8:=by rw [List.length_set]; exact hho.2
   rw [hho.2,show inR 2 8=true from rfl]
   simp only [ZZ,List.length_set,hho.2,show inR 3 8=true from rfl]
   rw [brO_t (ble_of (by omega)),hi8n,W8,W8]
   rfl
  ·rw [if_pos (by simpa using hp)]
   simp only [ZZ,a135 n m (by omega),hc,Int.ofNat_eq_natCast,hw,a95,show ((0:Int) != 0)=false from rfl]
   rw [brO_t (by simpa using hp)]
 ·rw [if_pos (by simpa using hc)]
  simp only [ZZ,a135 n m (by omega)]
  rw [brO_t (by simpa using hc)]
def icmpOf (v:Int) (b:List Int):Icmp:=⟨v,fld b 0 8,fld b 8 8,fld b 32 32,b.drop 8⟩
def icmpParse (v:Int) (src dst:Ip) (b:List Int):Icmp × Int:=
 if b.length > 65515 then (Icmp.z,2)
 else if v≠4∧v≠6 then (Icmp.z,1)
 else if (pseudoI v src dst b.length).2≠0 then (Icmp.z,(pseudoI v src dst b.length).2)
 else if b.length<8 then (Icmp.z,80)
 else if sum16 ((pseudoI v src dst b.length).1++b)≠65535 then (Icmp.z,81)
 else (icmpOf v b,0)
theorem a83i (n:Nat) (hn:2 ^ 63<n) (b:List Int) (hb:Bytes b) (hl:8≤b.length) (hl2:b.length<2 ^ 60):A83 n [.fs .u8 b,.int .i64 0,.fs .i64 [8,8,16,32]]=some [.fs .i64 [fld b 0 8,fld b 8 8,fld b 16 16,fld b 32 32],.int .i64 8,.int .i64 0]:=by
 obtain ⟨k,rfl⟩ : ∃ k,n=k+8:=⟨n - 8,by omega⟩
 exact a83 (k+8) b 0 [8,8,16,32] (by unfold WOk; decide) 8 rfl (by decide) (by omega) (by show 4<k+8; omega) (by decide) (by omega) hl2 hb (w123i k)
theorem a58 (n:Nat) (hn:2 ^ 63<n) (v:Int) (src dst:Ip) (hs:src.Ok) (hd:dst.Ok) (b:List Int) (hb:Bytes b) (hl:b.length<2 ^ 44):A58 n [.int .i64 v,src.av,dst.av,.fs .u8 b]=some [(icmpParse v src dst b).1.av,.int .i64 (icmpParse v src dst b).2]:=by
 show run58 A83 A84 A95 A96 n v src.av dst.av b=_
 rw [eq58]
 unfold icmpParse
 by_cases h1:b.length > 65515
 ·have h1' : (b.length:Int) > 65515:=by omega
  simp [ZY,h1,h1',Icmp.z]
 have h1' : ¬ (b.length:Int) > 65515:=by omega
 by_cases h2:v≠4∧v≠6
 ·simp [ZY,h1,h1',h2,Icmp.z]
 have hv:v=4∨v=6:=by omega
 rw [if_neg h1,if_neg h2]
 have h95:=a95 n v src dst b.length
 by_cases hp:(pseudoI v src dst b.length).2=0
 ·rw [if_neg (by simpa using hp)]
  by_cases h8:b.length<8
  ·have h8' : (b.length:Int)<8:=by omega
   rw [if_pos h8]
   rcases hv with h | h <;> subst h <;> simp [ZY,h1',h95,hp,h8',Icmp.z]
  ·have h8' : ¬ (b.length:Int)<8:=by omega
   rw [if_neg h8]
   have hpo:=pseudoI_ok hs hd v b.length
   have h84:=a84 n [(pseudoI v src dst b.length).1,b] (fun p hp'=>by
    simp only [List.mem_cons,List.mem_nil_iff,or_false] at hp'
    rcases hp' with rfl | rfl
    ·exact ⟨hpo.1,by omega⟩
    ·exact ⟨hb,hl⟩) (by simp) hn
   rw [show fsL [(pseudoI v src dst b.length).1,b]=[.fs .u8 (pseudoI v src dst b.length).1,.fs .u8 b] from rfl] at h84
   simp only [List.flatten_cons,List.flatten_nil,List.append_nil] at h84
   have h83:=a83i n hn b hb (by omega) (by omega)
   by_cases hs16:sum16 ((pseudoI v src dst b.length).1++b)=65535
   ·rw [if_neg (by simpa using hs16)]
    have c8:(8:Int)≤(b.length:Int):=by omega
    have ht:List.take (b.length - 8) (List.drop 8 b)=List.drop 8 b:=List.take_of_length_le (by simp)
    rcases hv with h | h <;> subst h <;> simp [ZY,h1',h95,hp,h8',h84,hs16,a96,h83,inR,getI,icmpOf,c8,ht]
   ·rw [if_pos (by simpa using hs16)]
    rcases hv with h | h <;> subst h <;> simp [ZY,h1',h95,hp,h8',h84,hs16,Icmp.z]
 ·rw [if_pos (by simpa using hp)]
  rcases hv with h | h <;> subst h <;> simp [ZY,h1',h95,hp,Icmp.z]
theorem fd_compl {S:Int} (h:0≤S):fd (S+(65535 - fd S))=65535:=by
 unfold fd
 by_cases h0:S=0
 ·rw [if_pos h0,h0]; decide
 ·rw [if_neg h0,if_neg (by omega)]; omega
theorem hi_even {l:List Int}:∀ b,hi b l=if l.length % 2=0 then b else !b:=by
 induction l with
 | nil=>intro b; rfl
 | cons x l ih=>
  intro b
  rw [hi,ih,List.length_cons]
  by_cases h:l.length % 2=0
  ·rw [if_pos h,if_neg (by omega)]
  ·rw [if_neg h,if_pos (by omega),Bool.not_not]
theorem addS_even (l m:List Int) (h:l.length % 2=0):addS true (l++m)=addS true l+addS true m:=by
 rw [addS_app,hi_even,if_pos h]
theorem addS_fill (l m:List Int) (c:Int) (h:l.length % 2=0) (hc:0≤c) (hc2:c≤65535):addS true (l++(c / 256 % 256::c % 256::m))=addS true (l++(0::0::m))+c:=by
 rw [addS_even l _ h,addS_even l _ h]
 simp only [addS]
 omega
theorem sum_fill (l m:List Int) (h:l.length % 2=0) (hB:Bytes (l++(0::0::m))):sum16 (l++((65535 - sum16 (l++(0::0::m))) / 256 % 256::(65535 - sum16 (l++(0::0::m))) % 256::m))=65535:=by
 have h0:=(addS_r hB true).1
 have hr:=fd_r h0
 have h1:0≤65535 - sum16 (l++(0::0::m)):=by unfold sum16; omega
 have h2:65535 - sum16 (l++(0::0::m))≤65535:=by unfold sum16; omega
 generalize hc:65535 - sum16 (l++(0::0::m))=c at h1 h2 ⊢
 unfold sum16
 rw [addS_fill l m c h h1 h2,←hc]
 exact fd_compl h0
def icmpBits (m:Icmp):List Int:=allB [(8,m.type),(8,m.code),(16,0),(32,m.rest)]
theorem icmpHead_eq (m:Icmp):icmpHead m=[byteOf (icmpBits m) 0,byteOf (icmpBits m) 1,0,0,byteOf (icmpBits m) 4,byteOf (icmpBits m) 5,byteOf (icmpBits m) 6,byteOf (icmpBits m) 7]:=by
 have h2:byteOf (icmpBits m) 2=0:=by rfl
 have h3:byteOf (icmpBits m) 3=0:=by rfl
 show [byteOf (icmpBits m) 0,byteOf (icmpBits m) 1,byteOf (icmpBits m) 2,byteOf (icmpBits m) 3,byteOf (icmpBits m) 4,byteOf (icmpBits m) 5,byteOf (icmpBits m) 6,byteOf (icmpBits m) 7]=_
 rw [h2,h3]
theorem icmpB_eq (src dst:Ip) (m:Icmp):icmpB src dst m=byteOf (icmpBits m) 0::byteOf (icmpBits m) 1::icmpSum src dst m / 256 % 256::icmpSum src dst m % 256::byteOf (icmpBits m) 4::byteOf (icmpBits m) 5::byteOf (icmpBits m) 6::byteOf (icmpBits m) 7::m.data:=by
 unfold icmpB
 rw [icmpHead_eq]
 rfl
theorem pseudoI_even {src dst:Ip} (hs:src.Ok) (hd:dst.Ok) (v k:Int):(pseudoI v src dst k).1.length % 2=0:=by
 unfold pseudoI
 split
 ·rfl
 ·split
  ·rfl
  ·unfold pseudo
   split
   ·rfl
   ·split
    ·rfl
    ·show (pseudoB src dst 58 k).length % 2=0
     unfold pseudoB
     have h1:=hs.1; have h2:=hd.1
     split <;> simp [h1,h2]
theorem icmp_sum {src dst:Ip} (hs:src.Ok) (hd:dst.Ok) (m:Icmp) (hb:Bytes m.data):sum16 ((pseudoI m.v src dst (8+m.data.length)).1++icmpB src dst m)=65535:=by
 have he:=pseudoI_even hs hd m.v (8+m.data.length)
 have hp:=pseudoI_ok hs hd m.v (8+m.data.length)
 have hh:=(icmpHead_ok m).1
 rw [icmpHead_eq] at hh
 have:=sum_fill ((pseudoI m.v src dst (8+m.data.length)).1++[byteOf (icmpBits m) 0,byteOf (icmpBits m) 1]) (byteOf (icmpBits m) 4::byteOf (icmpBits m) 5::byteOf (icmpBits m) 6::byteOf (icmpBits m) 7::m.data) (by simp; omega)
  (by
   rw [List.append_assoc]
   exact hp.1.app (hh.app hb))
 rw [icmpB_eq]
 unfold icmpSum
 rw [icmpHead_eq]
 simp only [List.append_assoc,List.cons_append,List.nil_append] at this ⊢
 exact this
theorem getI_bitsOf {w t:Nat} (v:Int) (h:t<w):getI (bitsOf w v) t=v / 2 ^ (w - 1 - t) % 2:=by
 unfold getI bitsOf
 simp [List.getD_eq_getElem?_getD,h]
theorem icmpB_byte (src dst:Ip) (m:Icmp) {i:Nat} (h:i<8) (h2:i≠2) (h3:i≠3):getI (icmpB src dst m) i=byteOf (icmpBits m) i:=by
 rw [icmpB_eq]
 match i,h with
 | 0,_=>rfl
 | 1,_=>rfl
 | 2,_=>exact absurd rfl h2
 | 3,_=>exact absurd rfl h3
 | 4,_=>rfl
 | 5,_=>rfl
 | 6,_=>rfl
 | 7,_=>rfl
theorem icmpB_bit (src dst:Ip) (m:Icmp) {j:Nat} (h:j<16∨(32≤j∧j<64)):bitAt (icmpB src dst m) j=getI (icmpBits m) j:=by
 refine Eq.trans ?_ (bitAt_mkB (bs:=icmpBits m) (k:=8) (allB_01 _) (show j<8 * 8 by omega))
 unfold bitAt
 rw [icmpB_byte src dst m (by omega) (by omega) (by omega),getI_mkB _ (by omega)]
theorem icmp_back {m:Icmp} (src dst:Ip) (h:icmpCheck m=0):icmpOf m.v (icmpB src dst m)=m:=by
 obtain ⟨_,h1,h2,h3,h4,h5,h6,_⟩:=icmpCheck_ok h
 have e0:fld (icmpB src dst m) 0 8=m.type:=fld_of h1 (by omega) (fun t ht=>by
  rw [icmpB_bit src dst m (by omega),icmpBits,allB,getI_app,if_pos (by rw [bits_len]; omega),Nat.zero_add,getI_bitsOf _ ht])
 have e1:fld (icmpB src dst m) 8 8=m.code:=fld_of h3 (by omega) (fun t ht=>by
  rw [icmpB_bit src dst m (by omega),icmpBits,allB,getI_app,if_neg (by rw [bits_len]; omega),allB,getI_app,if_pos (by rw [bits_len,bits_len]; omega),bits_len,Nat.add_sub_cancel_left,getI_bitsOf _ ht])
 have e3:fld (icmpB src dst m) 32 32=m.rest:=fld_of h5 (by omega) (fun t ht=>by
  rw [icmpB_bit src dst m (by omega),icmpBits,allB,getI_app,if_neg (by rw [bits_len]; omega),allB,getI_app,if_neg (by rw [bits_len,bits_len]; omega),allB,getI_app,if_neg (by rw [bits_len,bits_len,bits_len]; omega),allB,getI_app,if_pos (by rw [bits_len,bits_len,bits_len,bits_len]; omega),bits_len,bits_len,bits_len,
   show 32+t - 8 - 8 - 16=t by omega,getI_bitsOf _ ht])
 unfold icmpOf
 rw [e0,e1,e3,icmpB_eq]
 rfl
theorem icmp_round {m:Icmp} {src dst:Ip} (hs:src.Ok) (hd:dst.Ok) (hb:Bytes m.data) (h:(icmpPut src dst m).2=0):icmpParse m.v src dst (icmpPut src dst m).1=(m,0):=by
 unfold icmpPut at h ⊢
 by_cases hc:icmpCheck m=0
 ·rw [if_neg (by simpa using hc)] at h ⊢
  by_cases hp:(pseudoI m.v src dst (8+m.data.length)).2=0
  ·rw [if_neg (by simpa using hp)]
   have hck:=icmpCheck_ok hc
   have hl:(icmpB src dst m).length=8+m.data.length:=by rw [icmpB_eq]; simp; omega
   have hl' : ((icmpB src dst m).length:Int)=8+(m.data.length:Int):=by omega
   have hsum:=icmp_sum hs hd m hb
   show icmpParse m.v src dst (icmpB src dst m)=_
   unfold icmpParse
   rw [if_neg (by omega),if_neg (by omega),hl',if_neg (by simpa using hp),if_neg (by omega),if_neg (by simpa using hsum),icmp_back src dst hc]
  ·rw [if_pos (by simpa using hp)] at h
   exact absurd h hp
 ·rw [if_pos (by simpa using hc)] at h
  exact absurd h hc
theorem a183 (n:Nat) (x h:Int):A183 n [.int .i64 x,.int .i64 h]=some [.bool (decide (x<0∨x > h))]:=by
 show run183 n x h=_
 rw [eq183]
 by_cases h0:x<0
 ·simp [ZY,h0]
 ·by_cases h1:x > h <;> simp [ZY,h0,h1]
def udpCheck (v:Int) (u:Udp):Int:=
 if v≠4∧v≠6 then 20
 else if (u.sport<0∨u.sport > 65535)∨(u.dport<0∨u.dport > 65535)∨(u.nosum=true∧v=6) then 98
 else if u.data.length > 65527 then 2 else 0
theorem a138 (n:Nat) (v:Int) (u:Udp):A138 n [.int .i64 v,u.av]=some [.int .i64 (udpCheck v u)]:=by
 show run138 A183 n v u.av=_
 rw [eq138]
 unfold udpCheck
 by_cases hv:v≠4∧v≠6
 ·simp [ZY,hv]
 rw [if_neg hv]
 have hv' : v=4∨v=6:=by omega
 by_cases h1:u.sport<0∨u.sport > 65535
 ·rcases hv' with h | h <;> subst h <;> simp [ZY,a183,h1]
 by_cases h2:u.dport<0∨u.dport > 65535
 ·rcases hv' with h | h <;> subst h <;> simp [ZY,a183,h1,h2]
 by_cases h3:u.data.length > 65527
 ·have h3' : (u.data.length:Int) > 65527:=by omega
  rcases hv' with h | h <;> subst h <;> cases hn:u.nosum <;> simp [ZY,a183,h1,h2,h3,h3',hn]
 ·have h3' : ¬ (u.data.length:Int) > 65527:=by omega
  rcases hv' with h | h <;> subst h <;> cases hn:u.nosum <;> simp [ZY,a183,h1,h2,h3,h3',hn]
theorem udpCheck_ok {v:Int} {u:Udp} (h:udpCheck v u=0):(v=4∨v=6)∧0≤u.sport∧u.sport≤65535∧0≤u.dport∧u.dport≤65535∧¬ (u.nosum=true∧v=6)∧u.data.length≤65527:=by
 unfold udpCheck at h
 split at h
 ·cases h
 ·split at h
  ·cases h
  ·split at h
   ·cases h
   ·rename_i h1 h2 h3
    refine ⟨by omega,by omega,by omega,by omega,by omega,fun hx=>h2 (.inr (.inr hx)),by omega⟩
def udpHead (u:Udp):List Int:=mkB 8 (allB [(16,u.sport),(16,u.dport),(16,8+(u.data.length:Int)),(16,0)])
def udpC (src dst:Ip) (u:Udp):Int:=
 if 65535 - sum16 ((pseudo src dst 17 (8+u.data.length)).1++(udpHead u++u.data))=0 then 65535 else 65535 - sum16 ((pseudo src dst 17 (8+u.data.length)).1++(udpHead u++u.data))
def udpB (src dst:Ip) (u:Udp):List Int:=
 if u.nosum=true then udpHead u++u.data else ((udpHead u++u.data).set 6 (udpC src dst u / 256 % 256)).set 7 (udpC src dst u % 256)
def udpPut (src dst:Ip) (u:Udp):List Int × Int:=
 if (pseudo src dst 0 0).2≠0 then ([],(pseudo src dst 0 0).2)
 else if udpCheck src.v u≠0 then ([],udpCheck src.v u)
 else (udpB src dst u,0)
theorem udpHead_ok (u:Udp):Bytes (udpHead u)∧(udpHead u).length=8:=⟨mkB_bytes (allB_01 _) 8,mkB_len 8 _⟩
theorem w123u (n:Nat):A123 (n+8) [.fs .i64 (wI [16,16,16,16])]=some [.int .i64 ((8:Nat):Int),.int .i64 0]:=by kernel_rfl
theorem a136u (n:Nat) (hn:2 ^ 63<n) (v:Int) (u:Udp) (h:udpCheck v u=0):A136 n [.fs .i64 [16,16,16,16],.fs .i64 [u.sport,u.dport,8+(u.data.length:Int),0]]=some [.fs .u8 (udpHead u),.int .i64 0]:=by
 obtain ⟨_,h1,h2,h3,h4,_,h6⟩:=udpCheck_ok h
 obtain ⟨k,rfl⟩ : ∃ k,n=k+8:=⟨n - 8,by omega⟩
 refine a136 (k+8) [(16,u.sport),(16,u.dport),(16,8+(u.data.length:Int)),(16,0)] (fun p hp=>?_) 8 rfl (by decide) (by omega) (by show 4<k+8; omega) (by show 4≤64; omega) (w123u k)
 simp only [List.mem_cons,List.mem_nil_iff,or_false] at hp
 rcases hp with rfl | rfl | rfl | rfl <;> simp <;> omega
theorem pseudo_ok {src dst:Ip} (hs:src.Ok) (hd:dst.Ok) (p k:Int):Bytes (pseudo src dst p k).1∧(pseudo src dst p k).1.length≤40:=by
 unfold pseudo
 split
 ·exact ⟨bytes_nil,by simp⟩
 ·split
  ·exact ⟨bytes_nil,by simp⟩
  ·exact pseudoB_ok hs hd p k
theorem a92 (n:Nat) (hn:2 ^ 63<n) (src dst:Ip) (hs:src.Ok) (hd:dst.Ok) (u:Udp) (hb:Bytes u.data) (hl:u.data.length<2 ^ 44):A92 n [src.av,dst.av,u.av]=some [.fs .u8 (udpPut src dst u).1,.int .i64 (udpPut src dst u).2]:=by
 show run92 A97 A136 A137 A138 A139 n src.av dst.av u.av=_
 rw [eq92]
 unfold udpPut
 have hw:IntKind.wrap .i64 (8+(u.data.length:Int))=8+(u.data.length:Int):=wrap_id (by omega) (by omega)
 by_cases hp:(pseudo src dst 0 0).2=0
 ·rw [if_neg (by simpa using hp)]
  by_cases hc:udpCheck src.v u=0
  ·rw [if_neg (by simpa using hc)]
   have h136:=a136u n hn src.v u hc
   have hho:=udpHead_ok u
   have hbig:=(udpCheck_ok hc).2.2.2.2.2.2
   have hpo:=pseudo_ok hs hd 17 (8+u.data.length)
   have hlen:(udpHead u++u.data).length=8+u.data.length:=by rw [List.length_append,hho.2]
   have hlen' : (((udpHead u++u.data).length:Nat):Int)=8+(u.data.length:Int):=by omega
   have hB:Bytes [(pseudo src dst 17 (8+u.data.length)).1,udpHead u++u.data].flatten:=by
    simp only [List.flatten_cons,List.flatten_nil,List.append_nil]
    exact hpo.1.app (hho.1.app hb)
   have h137:=a137 n [(pseudo src dst 17 (8+u.data.length)).1,udpHead u++u.data] (fun p hp'=>by
    simp only [List.mem_cons,List.mem_nil_iff,or_false] at hp'
    rcases hp' with rfl | rfl
    ·exact ⟨hpo.1,by omega⟩
    ·exact ⟨hho.1.app hb,by omega⟩) (by simp) hn hB
   rw [show fsL [(pseudo src dst 17 (8+u.data.length)).1,udpHead u++u.data]=[.fs .u8 (pseudo src dst 17 (8+u.data.length)).1,.fs .u8 (udpHead u++u.data)] from rfl] at h137
   simp only [List.flatten_cons,List.flatten_nil,List.append_nil] at h137
   simp only [ZZ,a97,hp,show ((0:Int) == 0)=true from rfl,show ((0:Int) != 0)=false from rfl,a138,hc,Int.ofNat_eq_natCast,hw,h136]
   rw [brO_t (ble_of (by rw [hho.2]; omega))]
   unfold udpB
   cases hns:u.nosum with
   | true=>simp only [ZZ,if_true]
   | false=>
    simp only [ZZ,hlen',a139,h137]
    unfold udpC
    by_cases h0:65535 - sum16 ((pseudo src dst 17 (8+u.data.length)).1++(udpHead u++u.data))=0
    ·simp only [h0,ZZ,show ((0:Int) == 0)=true from rfl]
     rw [show inR 6 (udpHead u++u.data).length=true from inR_nat (i:=6) (by omega)]
     simp only [ZZ,List.length_set]
     rw [show inR 7 (udpHead u++u.data).length=true from inR_nat (i:=7) (by omega)]
     simp only [ZZ,hi8n,W8,if_true]
     rfl
    ·rw [brO_f (by simpa using h0)]
     simp only [ZZ]
     rw [show inR 6 (udpHead u++u.data).length=true from inR_nat (i:=6) (by omega)]
     simp only [ZZ,List.length_set]
     rw [show inR 7 (udpHead u++u.data).length=true from inR_nat (i:=7) (by omega)]
     simp only [ZZ,hi8n,W8,if_neg h0]
     rfl
  ·rw [if_pos (by simpa using hc)]
   simp only [ZZ,a97,hp,show ((0:Int) == 0)=true from rfl,a138]
   rw [brO_t (by simpa using hc)]
 ·rw [if_pos (by simpa using hp)]
  simp only [ZZ,a97]
  rw [brO_f (by simpa using hp)]
  simp only [ZZ]
  rw [brO_t (by simpa using hp)]
def udpParse (src dst:Ip) (b:List Int):Udp × Int:=
 if b.length > 65535 then (Udp.z,2)
 else if (pseudo src dst 0 0).2≠0 then (Udp.z,(pseudo src dst 0 0).2)
 else if b.length<8 then (Udp.z,91)
 else if fld b 32 16<8∨fld b 32 16 > b.length then (Udp.z,92)
 else if (fld b 48 16=0∧src.v=6)∨(fld b 48 16≠0∧good src dst 17 (b.take (fld b 32 16).toNat)=false) then (Udp.z,93)
 else (⟨fld b 0 16,fld b 16 16,fld b 48 16 == 0,(b.take (fld b 32 16).toNat).drop 8⟩,0)
theorem a83u (n:Nat) (hn:2 ^ 63<n) (b:List Int) (hb:Bytes b) (hl:8≤b.length) (hl2:b.length<2 ^ 60):A83 n [.fs .u8 b,.int .i64 0,.fs .i64 [16,16,16,16]]=some [.fs .i64 [fld b 0 16,fld b 16 16,fld b 32 16,fld b 48 16],.int .i64 8,.int .i64 0]:=by
 obtain ⟨k,rfl⟩ : ∃ k,n=k+8:=⟨n - 8,by omega⟩
 exact a83 (k+8) b 0 [16,16,16,16] (by unfold WOk; decide) 8 rfl (by decide) (by omega) (by show 4<k+8; omega) (by decide) (by omega) hl2 hb (w123u k)
theorem a59 (n:Nat) (hn:2 ^ 63<n) (src dst:Ip) (hs:src.Ok) (hd:dst.Ok) (b:List Int) (hb:Bytes b) (hl:b.length<2 ^ 44):A59 n [src.av,dst.av,.fs .u8 b]=some [(udpParse src dst b).1.av,.int .i64 (udpParse src dst b).2]:=by
 show run59 A83 A97 A98 n src.av dst.av b=_
 rw [eq59]
 unfold udpParse
 by_cases h1:b.length > 65535
 ·have h1' : (b.length:Int) > 65535:=by omega
  simp [ZY,h1,h1',Udp.z]
 have h1' : ¬ (b.length:Int) > 65535:=by omega
 rw [if_neg h1]
 by_cases hp:(pseudo src dst 0 0).2=0
 ·rw [if_neg (by simpa using hp)]
  by_cases h8:b.length<8
  ·have h8' : (b.length:Int)<8:=by omega
   simp [ZY,h1',a97,hp,h8,h8',Udp.z]
  have h8' : ¬ (b.length:Int)<8:=by omega
  rw [if_neg h8]
  have h83:=a83u n hn b hb (by omega) (by omega)
  by_cases h9:fld b 32 16<8∨fld b 32 16 > b.length
  ·rw [if_pos h9]
   by_cases h10:fld b 32 16<8
   ·simp [ZY,h1',a97,hp,h8',h83,inR,getI,h10,Udp.z]
   ·have h11:fld b 32 16 > b.length:=by omega
    simp [ZY,h1',a97,hp,h8',h83,inR,getI,h10,h11,Udp.z]
  ·rw [if_neg h9]
   have h10:¬ fld b 32 16<8:=by omega
   have h11:¬ fld b 32 16 > b.length:=by omega
   have c0:(0:Int)≤fld b 32 16:=by omega
   have c1:fld b 32 16≤b.length:=by omega
   have c8:(8:Int)≤fld b 32 16:=by omega
   have h98:=a98 n src dst hs hd 17 (b.take (fld b 32 16).toNat) (hb.take _) (by rw [List.length_take]; omega) hn
   by_cases hz:fld b 48 16=0
   ·by_cases h6:src.v=6
    ·simp [ZY,h1',a97,hp,h8',h83,inR,getI,h10,h11,hz,h6,c0,c1,Udp.z]
    ·simp [ZY,h1',a97,hp,h8',h83,inR,getI,h10,h11,hz,h6,c0,c1,c8,Udp.z,List.drop_take]
   ·cases hg:good src dst 17 (b.take (fld b 32 16).toNat) with
    | true=>simp [ZY,h1',a97,hp,h8',h83,inR,getI,h10,h11,hz,c0,c1,c8,h98,hg,Udp.z,List.drop_take]
    | false=>simp [ZY,h1',a97,hp,h8',h83,inR,getI,h10,h11,hz,c0,c1,h98,hg,Udp.z]
 ·rw [if_pos (by simpa using hp)]
  simp [ZY,h1',a97,hp,Udp.z]
def udpBits (u:Udp):List Int:=allB [(16,u.sport),(16,u.dport),(16,8+(u.data.length:Int)),(16,0)]
theorem udpHead_eq (u:Udp):udpHead u=[byteOf (udpBits u) 0,byteOf (udpBits u) 1,byteOf (udpBits u) 2,byteOf (udpBits u) 3,byteOf (udpBits u) 4,byteOf (udpBits u) 5,0,0]:=by
 have h2:byteOf (udpBits u) 6=0:=by rfl
 have h3:byteOf (udpBits u) 7=0:=by rfl
 show [byteOf (udpBits u) 0,byteOf (udpBits u) 1,byteOf (udpBits u) 2,byteOf (udpBits u) 3,byteOf (udpBits u) 4,byteOf (udpBits u) 5,byteOf (udpBits u) 6,byteOf (udpBits u) 7]=_
 rw [h2,h3]
def udpW (u:Udp) (x y:Int):List Int:=byteOf (udpBits u) 0::byteOf (udpBits u) 1::byteOf (udpBits u) 2::byteOf (udpBits u) 3::byteOf (udpBits u) 4::byteOf (udpBits u) 5::x::y::u.data
theorem udpB_eq (src dst:Ip) (u:Udp):udpB src dst u=if u.nosum=true then udpW u 0 0 else udpW u (udpC src dst u / 256 % 256) (udpC src dst u % 256):=by
 unfold udpB
 rw [udpHead_eq]
 rfl
theorem udpW_byte (u:Udp) (x y:Int) {i:Nat} (h:i<6):getI (udpW u x y) i=byteOf (udpBits u) i:=by
 match i,h with
 | 0,_=>rfl
 | 1,_=>rfl
 | 2,_=>rfl
 | 3,_=>rfl
 | 4,_=>rfl
 | 5,_=>rfl
theorem udpW_bit (u:Udp) (x y:Int) {j:Nat} (h:j<48):bitAt (udpW u x y) j=getI (udpBits u) j:=by
 refine Eq.trans ?_ (bitAt_mkB (bs:=udpBits u) (k:=8) (allB_01 _) (show j<8 * 8 by omega))
 unfold bitAt
 rw [udpW_byte u x y (by omega),getI_mkB _ (by omega)]
theorem udpW_fld (u:Udp) (x y:Int) (h1:0≤u.sport) (h2:u.sport≤65535) (h3:0≤u.dport) (h4:u.dport≤65535) (h5:u.data.length≤65527) :
  fld (udpW u x y) 0 16=u.sport∧fld (udpW u x y) 16 16=u.dport∧fld (udpW u x y) 32 16=8+(u.data.length:Int):=by
 refine ⟨fld_of h1 (by omega) (fun t ht=>?_),fld_of h3 (by omega) (fun t ht=>?_),fld_of (by omega) (by omega) (fun t ht=>?_)⟩
 ·rw [udpW_bit u x y (by omega),udpBits,allB,getI_app,if_pos (by rw [bits_len]; omega),Nat.zero_add,getI_bitsOf _ ht]
 ·rw [udpW_bit u x y (by omega),udpBits,allB,getI_app,if_neg (by rw [bits_len]; omega),allB,getI_app,if_pos (by rw [bits_len,bits_len]; omega),bits_len,Nat.add_sub_cancel_left,getI_bitsOf _ ht]
 ·rw [udpW_bit u x y (by omega),udpBits,allB,getI_app,if_neg (by rw [bits_len]; omega),allB,getI_app,if_neg (by rw [bits_len,bits_len]; omega),allB,getI_app,if_pos (by rw [bits_len,bits_len,bits_len]; omega),bits_len,bits_len,
   show 32+t - 16 - 16=t by omega,getI_bitsOf _ ht]
theorem pseudo_even {src dst:Ip} (hs:src.Ok) (hd:dst.Ok) (p k:Int):(pseudo src dst p k).1.length % 2=0:=by
 unfold pseudo
 split
 ·rfl
 ·split
  ·rfl
  ·show (pseudoB src dst p k).length % 2=0
   unfold pseudoB
   have h1:=hs.1; have h2:=hd.1
   split <;> simp [h1,h2]
theorem sum_fill' (l m:List Int) (h:l.length % 2=0) (hB:Bytes (l++(0::0::m))) (c:Int) (hc:c=if 65535 - sum16 (l++(0::0::m))=0 then 65535 else 65535 - sum16 (l++(0::0::m))):sum16 (l++(c / 256 % 256::c % 256::m))=65535:=by
 have h0:=(addS_r hB true).1
 have hr:=fd_r h0
 by_cases hz:65535 - sum16 (l++(0::0::m))=0
 ·rw [if_pos hz] at hc
  subst hc
  unfold sum16 at hz ⊢
  rw [addS_fill l m 65535 h (by decide) (by decide)]
  unfold fd at hz ⊢
  split at hz
  ·omega
  ·rw [if_neg (by omega)]; omega
 ·rw [if_neg hz] at hc
  rw [hc]
  exact sum_fill l m h hB
theorem udp_sum {src dst:Ip} (hs:src.Ok) (hd:dst.Ok) (u:Udp) (hb:Bytes u.data):sum16 ((pseudo src dst 17 (8+u.data.length)).1++udpW u (udpC src dst u / 256 % 256) (udpC src dst u % 256))=65535:=by
 have he:=pseudo_even hs hd 17 (8+u.data.length)
 have hp:=pseudo_ok hs hd 17 (8+u.data.length)
 have hh:=(udpHead_ok u).1
 rw [udpHead_eq] at hh
 have hc:udpC src dst u=_:=rfl
 unfold udpC at hc
 rw [udpHead_eq] at hc
 have:=sum_fill' ((pseudo src dst 17 (8+u.data.length)).1++[byteOf (udpBits u) 0,byteOf (udpBits u) 1,byteOf (udpBits u) 2,byteOf (udpBits u) 3,byteOf (udpBits u) 4,byteOf (udpBits u) 5]) u.data (by simp; omega)
  (by
   rw [List.append_assoc]
   exact hp.1.app (hh.app hb)) (udpC src dst u) (by
   simp only [List.append_assoc,List.cons_append,List.nil_append] at hc ⊢
   unfold udpC
   rw [udpHead_eq]
   rfl)
 simp only [List.append_assoc,List.cons_append,List.nil_append] at this
 exact this
theorem pseudo_fit {src dst:Ip} (h:(pseudo src dst 0 0).2=0) {p k:Int} (hp:0≤p) (hp2:p≤255) (hk:0≤k) (hk2:k≤65535):(pseudo src dst p k).2=0:=by
 unfold pseudo at h ⊢
 split at h
 ·cases h
 ·rename_i hv
  rw [if_neg hv,if_neg (by omega)]
theorem fld_add (l:List Int) (j a b:Nat):fld l j (a+b)=fld l j a * 2 ^ b+fld l (j+a) b:=by
 induction b with
 | zero=>simp [fld]
 | succ b ih=>
  rw [←Nat.add_assoc,fld,ih,fld,Int.pow_succ,←Nat.add_assoc j a b]
  generalize fld l (j+a) b=y
  generalize bitAt l (j+a+b)=z
  generalize fld l j a=x
  rw [Int.mul_add,Int.add_assoc,Int.mul_comm 2,Int.mul_assoc]
theorem fld8 {l:List Int} (hB:Bytes l) (i:Nat):fld l (8 * i) 8=getI l i:=by
 have h:=hB.get i
 refine fld_of h.1 (by omega) (fun t ht=>?_)
 unfold bitAt
 rw [show (8 * i+t) / 8=i by omega,show (8 * i+t) % 8=t by omega]
theorem fld16 {l:List Int} (hB:Bytes l) (i:Nat):fld l (8 * i) 16=getI l i * 256+getI l (i+1):=by
 rw [show (16:Nat)=8+8 from rfl,fld_add,fld8 hB,show 8 * i+8=8 * (i+1) by omega,fld8 hB]
 rfl
theorem udpW_len (u:Udp) (x y:Int):(udpW u x y).length=8+u.data.length:=by simp [udpW]; omega
theorem udpW_ok (u:Udp) (hb:Bytes u.data) {x y:Int} (hx:0≤x∧x≤255) (hy:0≤y∧y≤255):Bytes (udpW u x y):=by
 have h:=fun i=>byteOf_r (allB_01 [(16,u.sport),(16,u.dport),(16,8+(u.data.length:Int)),(16,0)]) i
 unfold udpW
 exact bytes_cons (h 0).1 (h 0).2 (bytes_cons (h 1).1 (h 1).2 (bytes_cons (h 2).1 (h 2).2 (bytes_cons (h 3).1 (h 3).2 (bytes_cons (h 4).1 (h 4).2 (bytes_cons (h 5).1 (h 5).2 (bytes_cons hx.1 hx.2 (bytes_cons hy.1 hy.2 hb)))))))
theorem udpW_word (u:Udp) (hb:Bytes u.data) {x y:Int} (hx:0≤x∧x≤255) (hy:0≤y∧y≤255):fld (udpW u x y) 48 16=x * 256+y:=by
 rw [show (48:Nat)=8 * 6 from rfl,fld16 (udpW_ok u hb hx hy)]
 rfl
theorem udpC_r {src dst:Ip} (hs:src.Ok) (hd:dst.Ok) (u:Udp) (hb:Bytes u.data):0<udpC src dst u∧udpC src dst u≤65535:=by
 have hp:=pseudo_ok hs hd 17 (8+u.data.length)
 have hr:=fd_r (addS_r (hp.1.app ((udpHead_ok u).1.app hb)) true).1
 unfold udpC
 unfold sum16
 split <;> omega
theorem udp_round {u:Udp} {src dst:Ip} (hs:src.Ok) (hd:dst.Ok) (hb:Bytes u.data) (h:(udpPut src dst u).2=0):udpParse src dst (udpPut src dst u).1=(u,0):=by
 unfold udpPut at h ⊢
 by_cases hp:(pseudo src dst 0 0).2=0
 ·rw [if_neg (by simpa using hp)] at h ⊢
  by_cases hc:udpCheck src.v u=0
  ·rw [if_neg (by simpa using hc)]
   obtain ⟨hv,h1,h2,h3,h4,hn,h5⟩:=udpCheck_ok hc
   show udpParse src dst (udpB src dst u)=_
   rw [udpB_eq]
   have hf:=fun x y=>udpW_fld u x y h1 h2 h3 h4 h5
   have hl:=fun x y=>udpW_len u x y
   have ht:∀ x y,(udpW u x y).take (8+(u.data.length:Int)).toNat=udpW u x y:=fun x y=>List.take_of_length_le (by rw [hl]; omega)
   cases hns:u.nosum with
   | true=>
    rw [if_pos rfl]
    have hw:=udpW_word u hb (x:=0) (y:=0) (by decide) (by decide)
    have hl0:=hl 0 0
    unfold udpParse
    rw [if_neg (by omega),if_neg (by simpa using hp),if_neg (by omega),(hf 0 0).2.2,if_neg (by omega),hw,if_neg (by
     intro hx
     rcases hx with hx | hx
     ·exact hn ⟨hns,hx.2⟩
     ·exact hx.1 (by decide)),(hf 0 0).1,(hf 0 0).2.1,ht]
    show ((⟨u.sport,u.dport,true,u.data⟩ : Udp),(0:Int))=_
    rw [←hns]
   | false=>
    rw [if_neg (by decide)]
    have hcr:=udpC_r hs hd u hb
    have hsum:=udp_sum hs hd u hb
    have hx:0≤udpC src dst u / 256 % 256∧udpC src dst u / 256 % 256≤255:=by omega
    have hy:0≤udpC src dst u % 256∧udpC src dst u % 256≤255:=by omega
    have hw:=udpW_word u hb hx hy
    have hl0:=hl (udpC src dst u / 256 % 256) (udpC src dst u % 256)
    have hg:good src dst 17 (udpW u (udpC src dst u / 256 % 256) (udpC src dst u % 256))=true:=by
     unfold good
     rw [hl0,show ((8+u.data.length:Nat):Int)=8+(u.data.length:Int) by omega,pseudo_fit hp (by omega) (by omega) (by omega) (by omega),hsum]
     rfl
    have hne:¬ (udpC src dst u / 256 % 256 * 256+udpC src dst u % 256=0):=by omega
    unfold udpParse
    rw [if_neg (by omega),if_neg (by simpa using hp),if_neg (by omega),(hf _ _).2.2,if_neg (by omega),hw,ht,hg,if_neg (by
     intro hx
     rcases hx with hx | hx
     ·exact hne hx.1
     ·exact absurd hx.2 (by decide)),(hf _ _).1,(hf _ _).2.1]
    show ((⟨u.sport,u.dport,(udpC src dst u / 256 % 256 * 256+udpC src dst u % 256 == 0),u.data⟩ : Udp),(0:Int))=_
    rw [show (udpC src dst u / 256 % 256 * 256+udpC src dst u % 256 == 0)=false from by simpa using hne,←hns]
  ·rw [if_pos (by simpa using hc)] at h
   exact absurd h hc
 ·rw [if_pos (by simpa using hp)] at h
  exact absurd h hp
def OptOk (R:Int→Int→Bool) (o:Opt):Prop:=2≤o.kind∧o.kind≤255∧(o.data.length:Int)≤38∧R o.kind (2+o.data.length)=true
instance (R:Int→Int→Bool) (o:Opt):Decidable (OptOk R o):=by unfold OptOk; infer_instance
def optB (o:Opt):List Int:=o.kind::(2+(o.data.length:Int))::o.data
def flatO (l:List Opt):List Int:=l.flatMap optB
def puts (R:Int→Int→Bool):List Opt→List Int→Option (List Int)
 | [],b=>some b
 | o::l,b=>if OptOk R o∧b.length+(optB o).length≤40 then puts R l (b++optB o) else none
def pad4 (b:List Int):List Int:=b++List.replicate ((4 - b.length % 4) % 4) 0
def gets (R:Int→Int→Bool):Nat→List Int→Option (List Opt)
 | 0,_=>some []
 | _+1,[]=>some []
 | f+1,[k]=>if k=0 then some [] else if k=1 then gets R f [] else none
 | f+1,k::n::r'=>if k=0 then some [] else if k=1 then gets R f (n::r') else
   if n<2∨n - 2 > r'.length∨R k n=false then none else (gets R f (r'.drop (n - 2).toNat)).map (fun l=>⟨k,r'.take (n - 2).toNat⟩::l)
theorem optB_len (o:Opt):(optB o).length=2+o.data.length:=by simp [optB]; omega
theorem puts_ok {R:Int→Int→Bool}:∀ {l:List Opt} {b c:List Int},puts R l b=some c→c=b++flatO l∧(∀ o∈l,OptOk R o)∧(b.length≤40→c.length≤40)
 | [],b,c,h=>by
  injection h with h; subst h
  exact ⟨by simp [flatO],fun o h=>(List.not_mem_nil h).elim,id⟩
 | o::l,b,c,h=>by
  rw [puts] at h
  by_cases hc:OptOk R o∧b.length+(optB o).length≤40
  ·rw [if_pos hc] at h
   obtain ⟨h1,h2,h3⟩:=puts_ok h
   refine ⟨by rw [h1]; simp [flatO],fun x hx=>?_,fun hb=>h3 (by rw [List.length_append]; omega)⟩
   rcases List.mem_cons.1 hx with rfl | hx
   ·exact hc.1
   ·exact h2 x hx
  ·rw [if_neg hc] at h; cases h
theorem gets_zero (R:Int→Int→Bool) (f k:Nat):gets R f (List.replicate k 0)=some []:=by
 cases f with
 | zero=>rfl
 | succ f=>match k with
  | 0=>rfl
  | 1=>rfl
  | k+2=>rw [List.replicate_succ,List.replicate_succ,gets,if_pos rfl]
theorem gets_flat {R:Int→Int→Bool} (k:Nat):∀ (l:List Opt) (f:Nat),(∀ o∈l,OptOk R o)→(flatO l).length≤f→gets R f (flatO l++List.replicate k 0)=some l
 | [],f,_,_=>gets_zero R f k
 | o::l,f,h,hf=>by
  have e:flatO (o::l)=optB o++flatO l:=by simp [flatO]
  have ho:=h o (List.mem_cons_self ..)
  rw [e,List.length_append,optB_len] at hf
  obtain ⟨f,rfl⟩ : ∃ g,f=g+1:=⟨f - 1,by omega⟩
  rw [e]
  show gets R (f+1) (o.kind::(2+(o.data.length:Int))::(o.data++flatO l++List.replicate k 0))=_
  obtain ⟨h1,h2,h3,h4⟩:=ho
  have e2:(2+(o.data.length:Int) - 2).toNat=o.data.length:=by omega
  rw [gets,if_neg (by omega),if_neg (by omega),if_neg (by rw [h4]; simp; omega),e2,List.append_assoc,List.drop_left,List.take_left,gets_flat k l f (fun x hx=>h x (List.mem_cons_of_mem _ hx)) (by omega)]
  rfl
theorem pad4_len (b:List Int):(pad4 b).length % 4=0:=by unfold pad4; rw [List.length_append,List.length_replicate]; omega
theorem pad4_len2 (b:List Int):(pad4 b).length=(b.length+3) / 4 * 4:=by unfold pad4; rw [List.length_append,List.length_replicate]; omega
theorem gets_puts {R:Int→Int→Bool} {l:List Opt} {b:List Int} (h:puts R l []=some b) {f:Nat} (hf:(pad4 b).length≤f):gets R f (pad4 b)=some l:=by
 obtain ⟨h1,h2,h3⟩:=puts_ok h
 rw [List.nil_append] at h1
 subst h1
 have:=pad4_len2 (flatO l)
 exact gets_flat _ l f h2 (by omega)
theorem bytes_pad4 {b:List Int} (h:Bytes b):Bytes (pad4 b):=by
 refine h.app (fun x hx=>?_)
 rw [List.eq_of_mem_replicate hx]; decide
theorem bytes_flatO {R:Int→Int→Bool} {l:List Opt} (h:∀ o∈l,OptOk R o) (hb:∀ o∈l,Bytes o.data):Bytes (flatO l):=by
 intro x hx
 unfold flatO at hx
 obtain ⟨o,ho,hx⟩:=List.mem_flatMap.1 hx
 have h1:=h o ho
 unfold OptOk at h1
 exact bytes_cons (by omega) (by omega) (bytes_cons (by omega) (by omega) (hb o ho)) x hx
theorem set_split:∀ {l:List Int} {i:Nat} {x y:Int},i+1<l.length→(l.set i x).set (i+1) y=l.take i++x::y::l.drop (i+2)
 | [],_,_,_,h=>by simp at h
 | [a],i,_,_,h=>by simp at h
 | a::b::l,0,x,y,h=>rfl
 | a::b::l,i+1,x,y,h=>by
  have:=set_split (l:=b::l) (i:=i) (x:=x) (y:=y) (by simpa using h)
  rw [List.set_cons_succ,List.set_cons_succ,this,List.take_succ_cons,List.cons_append]
  rfl
theorem self_split:∀ {l:List Int} {i:Nat},i+1<l.length→l=l.take i++getI l i::getI l (i+1)::l.drop (i+2)
 | [],_,h=>by simp at h
 | [a],i,h=>by simp at h
 | a::b::l,0,h=>rfl
 | a::b::l,i+1,h=>by
  have:=self_split (l:=b::l) (i:=i) (by simpa using h)
  rw [List.take_succ_cons,List.cons_append]
  show _=a::((b::l).take i++getI (b::l) i::getI (b::l) (i+1)::(b::l).drop (i+2))
  rw [←this]
theorem sum_set {p l:List Int} {i:Nat} (hp:p.length % 2=0) (hi:i % 2=0) (hl:i+1<l.length) (h0:getI l i=0) (h1:getI l (i+1)=0) (hB:Bytes (p++l)) {c:Int} (hc:c=65535 - sum16 (p++l)) :
  sum16 (p++((l.set i (c / 256 % 256)).set (i+1) (c % 256)))=65535:=by
 have e:=self_split hl
 rw [h0,h1] at e
 rw [set_split hl,←List.append_assoc]
 have e2:p++l=(p++l.take i)++(0::0::l.drop (i+2)):=by rw [List.append_assoc,←e]
 rw [e2] at hB hc
 rw [hc]
 exact sum_fill _ _ (by rw [List.length_append,List.length_take]; omega) hB
theorem getI_set {l:List Int} {i j:Nat} {x:Int} (h:j≠i):getI (l.set i x) j=getI l j:=by
 unfold getI
 simp only [List.getD_eq_getElem?_getD]
 rw [List.getElem?_set_ne (Ne.symm h)]
theorem fld_ext {l m:List Int} {j:Nat}:∀ {w:Nat},(∀ t,t<w→getI l ((j+t) / 8)=getI m ((j+t) / 8))→fld l j w=fld m j w
 | 0,_=>rfl
 | w+1,h=>by
  rw [fld,fld,fld_ext (fun t ht=>h t (by omega))]
  unfold bitAt
  rw [h w (by omega)]
theorem fld_set {l:List Int} {i j w:Nat} {x:Int} (h:j+w≤8 * i∨8 * i+8≤j):fld (l.set i x) j w=fld l j w:=
 fld_ext (fun t ht=>getI_set (by omega))
theorem fld_app {l m:List Int} {j w:Nat} (h:j+w≤8 * l.length):fld (l++m) j w=fld l j w:=
 fld_ext (fun t ht=>by rw [getI_app,if_pos (by omega)])
theorem fld_zero {l:List Int} (hB:Bytes l) {i:Nat} (h:fld l (8 * i) 16=0):getI l i=0∧getI l (i+1)=0:=by
 rw [fld16 hB] at h
 have h1:=hB.get i
 have h2:=hB.get (i+1)
 omega
theorem bytes_set2 {l:List Int} (h:Bytes l) (i:Nat) (c:Int):Bytes ((l.set i (c / 256 % 256)).set (i+1) (c % 256)):=
 set_bytes (set_bytes h _ (by omega) (by omega)) _ (by omega) (by omega)
def tright (k n:Int):Bool:=
 if k ≥ 9 then true else if k=2 then n == 4 else if k=3 then n == 3 else if k=4 then n == 2 else if k=5 then n == 10 || n == 18 || n == 26 || n == 34 else if k=8 then n == 10 else true
def tcpOpts (l:List Opt):List Int × Int:=match puts tright l [] with
 | none=>([],97)
 | some b=>(pad4 b,0)
def tcpOut (t:Tcp):Prop:=t.sport<0∨t.sport > 65535∨t.dport<0∨t.dport > 65535∨t.win<0∨t.win > 65535∨t.urg<0∨t.urg > 65535∨t.seq<0∨t.seq > 4294967295∨t.ack<0∨t.ack > 4294967295∨t.flags<0∨t.flags > 255
instance (t:Tcp):Decidable (tcpOut t):=by unfold tcpOut; infer_instance
def tcpCheck (t:Tcp):Int:=
 if tcpOut t then 98 else if (tcpOpts t.opts).2≠0 then (tcpOpts t.opts).2
 else if 20+(tcpOpts t.opts).1.length+t.data.length > 65535 then 2 else 0
def tcpPs (t:Tcp) (k:Nat):List (Nat × Int):=[(16,t.sport),(16,t.dport),(32,t.seq),(32,t.ack),(4,(20+(k:Int)) / 4),(4,0),(8,t.flags),(16,t.win),(16,0),(16,t.urg)]
def tcpRaw (t:Tcp):List Int:=mkB 20 (allB (tcpPs t (tcpOpts t.opts).1.length))++(tcpOpts t.opts).1++t.data
def tcpC (src dst:Ip) (t:Tcp):Int:=65535 - sum16 ((pseudo src dst 6 (tcpRaw t).length).1++tcpRaw t)
def tcpB (src dst:Ip) (t:Tcp):List Int:=((tcpRaw t).set 16 (tcpC src dst t / 256 % 256)).set 17 (tcpC src dst t % 256)
def tcpPut (src dst:Ip) (t:Tcp):List Int × Int:=
 if (pseudo src dst 0 0).2≠0 then ([],(pseudo src dst 0 0).2)
 else if tcpCheck t≠0 then ([],tcpCheck t)
 else (tcpB src dst t,0)
def tcpGet (b:List Int):List Opt × Int:=if b.length > 40 then ([],97) else match gets tright b.length b with
 | none=>([],97)
 | some l=>(l,0)
def tcpParse (src dst:Ip) (b:List Int):Tcp × Int:=
 if b.length > 65535 then (Tcp.z,2)
 else if (pseudo src dst 0 0).2≠0 then (Tcp.z,(pseudo src dst 0 0).2)
 else if b.length<20 then (Tcp.z,94)
 else if 4 * fld b 96 4<20∨4 * fld b 96 4 > b.length then (Tcp.z,95)
 else if good src dst 6 b=false then (Tcp.z,96)
 else if (tcpGet ((b.take (4 * fld b 96 4).toNat).drop 20)).2≠0 then (Tcp.z,(tcpGet ((b.take (4 * fld b 96 4).toNat).drop 20)).2)
 else (⟨fld b 0 16,fld b 16 16,fld b 32 32,fld b 64 32,fld b 104 8,fld b 112 16,fld b 144 16,(tcpGet ((b.take (4 * fld b 96 4).toNat).drop 20)).1,b.drop (4 * fld b 96 4).toNat⟩,0)
theorem tcpOpts_ok {l:List Opt} (h:(tcpOpts l).2=0):∃ b,puts tright l []=some b∧(tcpOpts l).1=pad4 b∧(pad4 b).length≤40∧(pad4 b).length % 4=0:=by
 unfold tcpOpts at h ⊢
 cases hp:puts tright l [] with
 | none=>rw [hp] at h; cases h
 | some b=>
  have:=(puts_ok hp).2.2 (by simp)
  have h2:=pad4_len2 b
  exact ⟨b,rfl,rfl,by omega,pad4_len b⟩
theorem tcpOpts_le (l:List Opt):(tcpOpts l).1.length≤40:=by
 by_cases h:(tcpOpts l).2=0
 ·obtain ⟨b,h1,h2,h3,h4⟩:=tcpOpts_ok h
  rw [h2]; exact h3
 ·unfold tcpOpts at h ⊢
  cases hp:puts tright l [] with
  | none=>simp
  | some b=>rw [hp] at h; exact absurd rfl h
theorem tcpOpts_bytes {l:List Opt} (hb:∀ o∈l,Bytes o.data):Bytes (tcpOpts l).1:=by
 unfold tcpOpts
 cases hp:puts tright l [] with
 | none=>exact bytes_nil
 | some b=>
  obtain ⟨h1,h2,h3⟩:=puts_ok hp
  rw [List.nil_append] at h1
  subst h1
  exact bytes_pad4 (bytes_flatO h2 hb)
theorem tcpCheck_ok {t:Tcp} (h:tcpCheck t=0):¬ tcpOut t∧(tcpOpts t.opts).2=0∧20+(tcpOpts t.opts).1.length+t.data.length≤65535:=by
 unfold tcpCheck at h
 split at h
 ·cases h
 ·split at h
  ·rename_i h1 h2; exact absurd h h2
  ·split at h
   ·cases h
   ·rename_i h1 h2 h3
    exact ⟨h1,by simpa using h2,by omega⟩
theorem tcpPs_ok {t:Tcp} (h:¬ tcpOut t) {k:Nat} (hk:k≤40):∀ p∈tcpPs t k,1≤p.1∧p.1≤32∧0≤p.2∧p.2<2 ^ p.1:=by
 unfold tcpOut at h
 intro p hp
 unfold tcpPs at hp
 simp only [List.mem_cons,List.mem_nil_iff,or_false] at hp
 rcases hp with rfl | rfl | rfl | rfl | rfl | rfl | rfl | rfl | rfl | rfl <;> simp <;> omega
theorem tcpPs_fld {t:Tcp} (h:¬ tcpOut t) {k:Nat} (hk:k≤40):flds (mkB 20 (allB (tcpPs t k))) 0 [16,16,32,32,4,4,8,16,16,16]=[t.sport,t.dport,t.seq,t.ack,(20+(k:Int)) / 4,0,t.flags,t.win,0,t.urg]:=
 flds_pack (ps:=tcpPs t k) (k:=20) (fun p hp=>(tcpPs_ok h hk p hp).2.2) rfl
theorem tcpRaw_ok {t:Tcp} (hb:Bytes t.data) (ho:∀ o∈t.opts,Bytes o.data):Bytes (tcpRaw t):=
 ((mkB_bytes (allB_01 _) 20).app (tcpOpts_bytes ho)).app hb
theorem tcpRaw_len (t:Tcp):(tcpRaw t).length=20+(tcpOpts t.opts).1.length+t.data.length:=by
 unfold tcpRaw
 rw [List.length_append,List.length_append,mkB_len]
theorem tcpB_len (src dst:Ip) (t:Tcp):(tcpB src dst t).length=20+(tcpOpts t.opts).1.length+t.data.length:=by
 unfold tcpB
 rw [List.length_set,List.length_set,tcpRaw_len]
theorem tcpB_fld (src dst:Ip) {t:Tcp} (h:¬ tcpOut t):fld (tcpB src dst t) 0 16=t.sport∧fld (tcpB src dst t) 16 16=t.dport∧fld (tcpB src dst t) 32 32=t.seq∧fld (tcpB src dst t) 64 32=t.ack∧
  fld (tcpB src dst t) 96 4=(20+((tcpOpts t.opts).1.length:Int)) / 4∧fld (tcpB src dst t) 104 8=t.flags∧fld (tcpB src dst t) 112 16=t.win∧fld (tcpRaw t) 128 16=0∧fld (tcpB src dst t) 144 16=t.urg:=by
 have hf:=tcpPs_fld h (tcpOpts_le t.opts)
 have e:∀ j w,j+w≤160→fld (tcpRaw t) j w=fld (mkB 20 (allB (tcpPs t (tcpOpts t.opts).1.length))) j w:=fun j w hj=>by
  unfold tcpRaw
  rw [List.append_assoc,fld_app (by rw [mkB_len]; omega)]
 have e2:∀ j w,j+w≤128∨144≤j→fld (tcpB src dst t) j w=fld (tcpRaw t) j w:=fun j w hj=>by
  unfold tcpB
  rw [fld_set (by omega),fld_set (by omega)]
 simp only [flds,List.cons.injEq,Nat.zero_add,Nat.reduceAdd] at hf
 obtain ⟨h0,h1,h2,h3,h4,h5,h6,h7,h8,h9,_⟩:=hf
 rw [e2 0 16 (by omega),e2 16 16 (by omega),e2 32 32 (by omega),e2 64 32 (by omega),e2 96 4 (by omega),e2 104 8 (by omega),e2 112 16 (by omega),e2 144 16 (by omega),
  e 0 16 (by omega),e 16 16 (by omega),e 32 32 (by omega),e 64 32 (by omega),e 96 4 (by omega),e 104 8 (by omega),e 112 16 (by omega),e 144 16 (by omega),e 128 16 (by omega)]
 exact ⟨h0,h1,h2,h3,h4,h6,h7,h8,h9⟩
theorem tcp_sum {src dst:Ip} (hs:src.Ok) (hd:dst.Ok) {t:Tcp} (hb:Bytes t.data) (ho:∀ o∈t.opts,Bytes o.data) (h:¬ tcpOut t):sum16 ((pseudo src dst 6 (tcpRaw t).length).1++tcpB src dst t)=65535:=by
 have hB:=tcpRaw_ok hb ho
 have hz:=fld_zero hB (i:=16) (tcpB_fld src dst h).2.2.2.2.2.2.2.1
 have hl:=tcpRaw_len t
 exact sum_set (pseudo_even hs hd _ _) rfl (by omega) hz.1 hz.2 ((pseudo_ok hs hd _ _).1.app hB) rfl
theorem tcp_round {t:Tcp} {src dst:Ip} (hs:src.Ok) (hd:dst.Ok) (hb:Bytes t.data) (ho:∀ o∈t.opts,Bytes o.data) (h:(tcpPut src dst t).2=0):tcpParse src dst (tcpPut src dst t).1=(t,0):=by
 unfold tcpPut at h ⊢
 by_cases hp:(pseudo src dst 0 0).2=0
 ·rw [if_neg (by simpa using hp)] at h ⊢
  by_cases hc:tcpCheck t=0
  ·rw [if_neg (by simpa using hc)]
   obtain ⟨h1,h2,h3⟩:=tcpCheck_ok hc
   obtain ⟨b,g1,g2,g3,g4⟩:=tcpOpts_ok h2
   have hl:=tcpB_len src dst t
   obtain ⟨f0,f1,f2,f3,f4,f5,f6,f7,f8⟩:=tcpB_fld src dst h1
   have hsum:=tcp_sum hs hd hb ho h1
   show tcpParse src dst (tcpB src dst t)=_
   rw [g2] at hl f4 h3
   have hg:good src dst 6 (tcpB src dst t)=true:=by
    unfold good
    have e:((tcpB src dst t).length:Int)=(tcpRaw t).length:=by rw [tcpB_len,tcpRaw_len]
    rw [e,pseudo_fit hp (by omega) (by omega) (by omega) (by rw [tcpRaw_len,g2]; omega),hsum]
    rfl
   have hhead:4 * fld (tcpB src dst t) 96 4=((20+(pad4 b).length:Nat):Int):=by rw [f4]; omega
   have hsplit:tcpB src dst t=((mkB 20 (allB (tcpPs t (tcpOpts t.opts).1.length))).set 16 (tcpC src dst t / 256 % 256)).set 17 (tcpC src dst t % 256)++pad4 b++t.data:=by
    unfold tcpB tcpRaw
    rw [g2,List.append_assoc,List.set_append_left _ _ (by rw [mkB_len]; omega),List.set_append_left _ _ (by rw [List.length_set,mkB_len]; omega),List.append_assoc]
   have hH:(((mkB 20 (allB (tcpPs t (tcpOpts t.opts).1.length))).set 16 (tcpC src dst t / 256 % 256)).set 17 (tcpC src dst t % 256)).length=20:=by rw [List.length_set,List.length_set,mkB_len]
   have ht:(tcpB src dst t).take (20+(pad4 b).length)=((mkB 20 (allB (tcpPs t (tcpOpts t.opts).1.length))).set 16 (tcpC src dst t / 256 % 256)).set 17 (tcpC src dst t % 256)++pad4 b:=by
    rw [hsplit,List.take_left' (by rw [List.length_append,hH])]
   have hd' : (tcpB src dst t).drop (20+(pad4 b).length)=t.data:=by
    rw [hsplit,List.drop_left' (by rw [List.length_append,hH])]
   have ho' : tcpGet (pad4 b)=(t.opts,0):=by
    unfold tcpGet
    rw [if_neg (by omega),gets_puts g1 (Nat.le_refl _)]
   unfold tcpParse
   rw [if_neg (by omega),if_neg (by simpa using hp),if_neg (by omega),hhead,Int.toNat_natCast,if_neg (by omega),hg,if_neg (by decide),ht,List.drop_left' hH,ho',if_neg (by simp),hd',f0,f1,f2,f3,f5,f6,f8]
  ·rw [if_pos (by simpa using hc)] at h
   exact absurd h hc
 ·rw [if_pos (by simpa using hp)] at h
  exact absurd h hp
def any2 (k n:Int):Bool:=true
def ip4Opts (l:List Opt):List Int × Int:=match puts any2 l [] with
 | none=>([],65)
 | some b=>(pad4 b,0)
def four (ip:Ip):Prop:=ip.v=4∧ip.a=a4 ip.a
instance (ip:Ip):Decidable (four ip):=by unfold four; infer_instance
def frag4 (mf:Bool) (off n:Int):Int:=if (mf=true∧(n=0∨n % 8≠0))∨off+n > 65515 then 66 else 0
def ip4Out (h:Ip4):Prop:=h.tos<0∨h.tos > 255∨h.id<0∨h.id > 65535∨h.off<0∨h.off > 65528∨h.off % 8≠0∨h.ttl<0∨h.ttl > 255∨h.proto<0∨h.proto > 255∨¬ four h.src∨¬ four h.dst
instance (h:Ip4):Decidable (ip4Out h):=by unfold ip4Out; infer_instance
def ip4Check (h:Ip4):Int:=
 if ip4Out h then 68 else if (ip4Opts h.opts).2≠0 then (ip4Opts h.opts).2
 else if 20+(ip4Opts h.opts).1.length+h.data.length > 65535 then 63 else frag4 h.mf h.off h.data.length
def b2i (b:Bool):Int:=if b=true then 1 else 0
def ip4Ps (h:Ip4) (k:Nat):List (Nat × Int):=[(4,4),(4,(20+(k:Int)) / 4),(8,h.tos),(16,20+(k:Int)+(h.data.length:Int)),(16,h.id),(1,0),(1,b2i h.df),(1,b2i h.mf),(13,h.off / 8),(8,h.ttl),(8,h.proto),(16,0)]
def ip4Raw (h:Ip4):List Int:=mkB 12 (allB (ip4Ps h (ip4Opts h.opts).1.length))++h.src.a.take 4++h.dst.a.take 4++(ip4Opts h.opts).1
def ip4C (h:Ip4):Int:=65535 - sum16 (ip4Raw h)
def ip4W (h:Ip4):List Int:=((ip4Raw h).set 10 (ip4C h / 256 % 256)).set 11 (ip4C h % 256)
def ip4B (h:Ip4):List Int:=ip4W h++h.data
def ip4Put (h:Ip4):List Int × Int:=if ip4Check h≠0 then ([],ip4Check h) else (ip4B h,0)
def ip4Get (b:List Int):List Opt × Int:=if b.length > 40 then ([],65) else match gets any2 b.length b with
 | none=>([],65)
 | some l=>(l,0)
def ip4Parse (b:List Int):Ip4 × Int:=
 if b.length > 65535 then (Ip4.z,2)
 else if b.length<20 then (Ip4.z,60)
 else if fld b 0 4≠4 then (Ip4.z,61)
 else if 4 * fld b 4 4<20∨4 * fld b 4 4 > b.length then (Ip4.z,62)
 else if fld b 16 16<4 * fld b 4 4∨fld b 16 16 > b.length then (Ip4.z,63)
 else if sum16 (b.take (4 * fld b 4 4).toNat)≠65535 then (Ip4.z,64)
 else if (ip4Get ((b.take (4 * fld b 4 4).toNat).drop 20)).2≠0 then (Ip4.z,(ip4Get ((b.take (4 * fld b 4 4).toNat).drop 20)).2)
 else if frag4 (fld b 50 1 == 1) (8 * fld b 51 13) (fld b 16 16 - 4 * fld b 4 4)≠0 then (Ip4.z,frag4 (fld b 50 1 == 1) (8 * fld b 51 13) (fld b 16 16 - 4 * fld b 4 4))
 else (⟨fld b 8 8,fld b 32 16,fld b 49 1 == 1,fld b 50 1 == 1,8 * fld b 51 13,fld b 64 8,fld b 72 8,⟨4,a4 (b.drop 12)⟩,⟨4,a4 (b.drop 16)⟩,(ip4Get ((b.take (4 * fld b 4 4).toNat).drop 20)).1,(b.take (fld b 16 16).toNat).drop (4 * fld b 4 4).toNat⟩,0)
theorem ip4Opts_ok {l:List Opt} (h:(ip4Opts l).2=0):∃ b,puts any2 l []=some b∧(ip4Opts l).1=pad4 b∧(pad4 b).length≤40∧(pad4 b).length % 4=0:=by
 unfold ip4Opts at h ⊢
 cases hp:puts any2 l [] with
 | none=>rw [hp] at h; cases h
 | some b=>
  have:=(puts_ok hp).2.2 (by simp)
  have h2:=pad4_len2 b
  exact ⟨b,rfl,rfl,by omega,pad4_len b⟩
theorem ip4Opts_le (l:List Opt):(ip4Opts l).1.length≤40:=by
 by_cases h:(ip4Opts l).2=0
 ·obtain ⟨b,h1,h2,h3,h4⟩:=ip4Opts_ok h
  rw [h2]; exact h3
 ·unfold ip4Opts at h ⊢
  cases hp:puts any2 l [] with
  | none=>simp
  | some b=>rw [hp] at h; exact absurd rfl h
theorem ip4Opts_bytes {l:List Opt} (hb:∀ o∈l,Bytes o.data):Bytes (ip4Opts l).1:=by
 unfold ip4Opts
 cases hp:puts any2 l [] with
 | none=>exact bytes_nil
 | some b=>
  obtain ⟨h1,h2,h3⟩:=puts_ok hp
  rw [List.nil_append] at h1
  subst h1
  exact bytes_pad4 (bytes_flatO h2 hb)
theorem ip4Check_ok {h:Ip4} (c:ip4Check h=0):¬ ip4Out h∧(ip4Opts h.opts).2=0∧20+(ip4Opts h.opts).1.length+h.data.length≤65535∧frag4 h.mf h.off h.data.length=0:=by
 unfold ip4Check at c
 split at c
 ·cases c
 ·split at c
  ·rename_i h1 h2; exact absurd c h2
  ·split at c
   ·cases c
   ·rename_i h1 h2 h3
    exact ⟨h1,by simpa using h2,by omega,c⟩
theorem b2i_r (b:Bool):0≤b2i b∧b2i b<2:=by unfold b2i; split <;> decide
theorem b2i_eq (b:Bool):(b2i b == 1)=b:=by cases b <;> rfl
theorem ip4Ps_ok {h:Ip4} (c:¬ ip4Out h) {k:Nat} (hk:k≤40) (hl:20+k+h.data.length≤65535):∀ p∈ip4Ps h k,1≤p.1∧p.1≤32∧0≤p.2∧p.2<2 ^ p.1:=by
 unfold ip4Out at c
 have h1:=b2i_r h.df
 have h2:=b2i_r h.mf
 intro p hp
 unfold ip4Ps at hp
 simp only [List.mem_cons,List.mem_nil_iff,or_false] at hp
 rcases hp with rfl | rfl | rfl | rfl | rfl | rfl | rfl | rfl | rfl | rfl | rfl | rfl <;> simp <;> omega
theorem ip4Ps_fld {h:Ip4} (c:¬ ip4Out h) {k:Nat} (hk:k≤40) (hl:20+k+h.data.length≤65535):flds (mkB 12 (allB (ip4Ps h k))) 0 [4,4,8,16,16,1,1,1,13,8,8,16]=[4,(20+(k:Int)) / 4,h.tos,20+(k:Int)+(h.data.length:Int),h.id,0,b2i h.df,b2i h.mf,h.off / 8,h.ttl,h.proto,0]:=
 flds_pack (ps:=ip4Ps h k) (k:=12) (fun p hp=>(ip4Ps_ok c hk hl p hp).2.2) rfl
theorem ip4Raw_ok {h:Ip4} (hs:h.src.Ok) (hd:h.dst.Ok) (ho:∀ o∈h.opts,Bytes o.data):Bytes (ip4Raw h):=
 (((mkB_bytes (allB_01 _) 12).app (hs.2.take 4)).app (hd.2.take 4)).app (ip4Opts_bytes ho)
theorem ip4Raw_len {h:Ip4} (hs:h.src.Ok) (hd:h.dst.Ok):(ip4Raw h).length=20+(ip4Opts h.opts).1.length:=by
 unfold ip4Raw
 have:=hs.1; have:=hd.1
 simp only [List.length_append,mkB_len,List.length_take]
 omega
theorem ip4W_len {h:Ip4} (hs:h.src.Ok) (hd:h.dst.Ok):(ip4W h).length=20+(ip4Opts h.opts).1.length:=by
 unfold ip4W
 rw [List.length_set,List.length_set,ip4Raw_len hs hd]
theorem ip4W_bytes {h:Ip4} (hs:h.src.Ok) (hd:h.dst.Ok) (ho:∀ o∈h.opts,Bytes o.data):Bytes (ip4W h):=bytes_set2 (ip4Raw_ok hs hd ho) 10 _
theorem a4_ext {l m:List Int} (h:∀ i,i<4→getI l i=getI m i):a4 l=a4 m:=by
 unfold a4
 rw [h 0 (by decide),h 1 (by decide),h 2 (by decide),h 3 (by decide)]
theorem getI_drop (l:List Int) (k i:Nat):getI (l.drop k) i=getI l (k+i):=by
 unfold getI
 simp [List.getD_eq_getElem?_getD,List.getElem?_drop]
theorem ip4W_fld {h:Ip4} (hs:h.src.Ok) (hd:h.dst.Ok) (c:¬ ip4Out h) (hl:20+(ip4Opts h.opts).1.length+h.data.length≤65535) (q:List Int) :
  fld (ip4W h++q) 0 4=4∧fld (ip4W h++q) 4 4=(20+((ip4Opts h.opts).1.length:Int)) / 4∧fld (ip4W h++q) 8 8=h.tos∧fld (ip4W h++q) 16 16=20+((ip4Opts h.opts).1.length:Int)+(h.data.length:Int)∧fld (ip4W h++q) 32 16=h.id∧
  fld (ip4W h++q) 49 1=b2i h.df∧fld (ip4W h++q) 50 1=b2i h.mf∧fld (ip4W h++q) 51 13=h.off / 8∧fld (ip4W h++q) 64 8=h.ttl∧fld (ip4W h++q) 72 8=h.proto∧fld (ip4Raw h) 80 16=0:=by
 have hf:=ip4Ps_fld c (ip4Opts_le h.opts) hl
 have hwl:=ip4W_len hs hd
 have e:∀ j w,j+w≤96→fld (ip4Raw h) j w=fld (mkB 12 (allB (ip4Ps h (ip4Opts h.opts).1.length))) j w:=fun j w hj=>by
  unfold ip4Raw
  rw [List.append_assoc,List.append_assoc,fld_app (by rw [mkB_len]; omega)]
 have e2:∀ j w,j+w≤80→fld (ip4W h++q) j w=fld (ip4Raw h) j w:=fun j w hj=>by
  rw [fld_app (by omega)]
  unfold ip4W
  rw [fld_set (by omega),fld_set (by omega)]
 simp only [flds,List.cons.injEq,Nat.zero_add,Nat.reduceAdd] at hf
 obtain ⟨h0,h1,h2,h3,h4,h5,h6,h7,h8,h9,h10,h11,_⟩:=hf
 rw [e2 0 4 (by omega),e2 4 4 (by omega),e2 8 8 (by omega),e2 16 16 (by omega),e2 32 16 (by omega),e2 49 1 (by omega),e2 50 1 (by omega),e2 51 13 (by omega),e2 64 8 (by omega),e2 72 8 (by omega),
  e 0 4 (by omega),e 4 4 (by omega),e 8 8 (by omega),e 16 16 (by omega),e 32 16 (by omega),e 49 1 (by omega),e 50 1 (by omega),e 51 13 (by omega),e 64 8 (by omega),e 72 8 (by omega),e 80 16 (by omega)]
 exact ⟨h0,h1,h2,h3,h4,h6,h7,h8,h9,h10,h11⟩
theorem ip4_sum {h:Ip4} (hs:h.src.Ok) (hd:h.dst.Ok) (ho:∀ o∈h.opts,Bytes o.data) (c:¬ ip4Out h) (hl:20+(ip4Opts h.opts).1.length+h.data.length≤65535):sum16 (ip4W h)=65535:=by
 have hB:=ip4Raw_ok hs hd ho
 have hz:=fld_zero hB (i:=10) (ip4W_fld hs hd c hl []).2.2.2.2.2.2.2.2.2.2
 have hl:=ip4Raw_len hs hd
 exact sum_set (p:=[]) rfl rfl (by omega) hz.1 hz.2 hB rfl
theorem ip4W_src {h:Ip4} (hs:h.src.Ok) (hd:h.dst.Ok) (f:four h.src) (q:List Int):(⟨4,a4 ((ip4W h++q).drop 12)⟩ : Ip)=h.src:=by
 have hwl:=ip4W_len hs hd
 have h1:=hs.1
 have:a4 ((ip4W h++q).drop 12)=a4 h.src.a:=a4_ext (fun i hi=>by
  rw [getI_drop,getI_app,if_pos (by omega)]
  unfold ip4W
  rw [getI_set (by omega),getI_set (by omega)]
  unfold ip4Raw
  rw [List.append_assoc,List.append_assoc,getI_app,if_neg (by rw [mkB_len]; omega),getI_app,if_pos (by rw [mkB_len,List.length_take]; omega),mkB_len,getI_take (by omega),Nat.add_sub_cancel_left])
 rw [this,←f.2,←f.1]
theorem ip4W_dst {h:Ip4} (hs:h.src.Ok) (hd:h.dst.Ok) (f:four h.dst) (q:List Int):(⟨4,a4 ((ip4W h++q).drop 16)⟩ : Ip)=h.dst:=by
 have hwl:=ip4W_len hs hd
 have h1:=hs.1
 have h2:=hd.1
 have hl4:(h.src.a.take 4).length=4:=by rw [List.length_take]; omega
 have:a4 ((ip4W h++q).drop 16)=a4 h.dst.a:=a4_ext (fun i hi=>by
  rw [getI_drop,getI_app,if_pos (by omega)]
  unfold ip4W
  rw [getI_set (by omega),getI_set (by omega)]
  unfold ip4Raw
  rw [List.append_assoc,List.append_assoc,getI_app,if_neg (by rw [mkB_len]; omega),getI_app,if_neg (by rw [mkB_len,hl4]; omega),getI_app,if_pos (by rw [mkB_len,hl4,List.length_take]; omega),mkB_len,hl4,getI_take (by omega),show 16+i - 12 - 4=i by omega])
 rw [this,←f.2,←f.1]
theorem ip4_round {h:Ip4} (hs:h.src.Ok) (hd:h.dst.Ok) (ho:∀ o∈h.opts,Bytes o.data) (c:(ip4Put h).2=0) (q:List Int) (hq:(ip4Put h).1.length+q.length≤65535):ip4Parse ((ip4Put h).1++q)=(h,0):=by
 unfold ip4Put at c hq ⊢
 by_cases hc:ip4Check h=0
 ·rw [if_neg (by simpa using hc)] at hq ⊢
  obtain ⟨h1,h2,h3,h4⟩:=ip4Check_ok hc
  obtain ⟨b,g1,g2,g3,g4⟩:=ip4Opts_ok h2
  have hwl:=ip4W_len hs hd
  have hsum:=ip4_sum hs hd ho h1 h3
  obtain ⟨f0,f1,f2,f3,f4,f5,f6,f7,f8,f9,_⟩:=ip4W_fld hs hd h1 h3 (h.data++q)
  have fs:four h.src:=by unfold ip4Out at h1; exact Decidable.byContradiction fun hx=>h1 (by simp [hx])
  have fd' : four h.dst:=by unfold ip4Out at h1; exact Decidable.byContradiction fun hx=>h1 (by simp [hx])
  have e1:=ip4W_src hs hd fs (h.data++q)
  have e2:=ip4W_dst hs hd fd' (h.data++q)
  have hoff:0≤h.off∧h.off % 8=0:=by unfold ip4Out at h1; omega
  show ip4Parse ((ip4W h++h.data)++q)=_
  change ((ip4W h++h.data).length+q.length)≤65535 at hq
  rw [List.length_append] at hq
  rw [List.append_assoc]
  have hLl:(ip4W h++(h.data++q)).length=(ip4W h).length+(h.data.length+q.length):=by rw [List.length_append,List.length_append]
  have ht:(ip4W h++(h.data++q)).take (20+(pad4 b).length)=ip4W h:=by rw [List.take_left' (by rw [hwl,g2])]
  have hd2:(ip4W h).drop 20=pad4 b:=by
   unfold ip4W
   rw [List.drop_set_of_lt (by omega),List.drop_set_of_lt (by omega)]
   unfold ip4Raw
   rw [List.drop_left' (by have:=hs.1; have:=hd.1; simp only [List.length_append,mkB_len,List.length_take]; omega),g2]
  have htot:((ip4W h++(h.data++q)).take (20+(pad4 b).length+h.data.length)).drop (20+(pad4 b).length)=h.data:=by
   rw [←List.append_assoc,List.take_left' (by rw [List.length_append,hwl,g2]),List.drop_left' (by rw [hwl,g2])]
  rw [g2] at hwl f1 f3 h3
  have hhead:4 * ((20+((pad4 b).length:Int)) / 4)=((20+(pad4 b).length:Nat):Int):=by omega
  have htt:20+((pad4 b).length:Int)+(h.data.length:Int)=((20+(pad4 b).length+h.data.length:Nat):Int):=by omega
  have hget:ip4Get (pad4 b)=(h.opts,0):=by
   unfold ip4Get
   rw [if_neg (by omega),gets_puts g1 (Nat.le_refl _)]
  have hfr:frag4 h.mf (8 * (h.off / 8)) (((20+(pad4 b).length+h.data.length:Nat):Int) - ((20+(pad4 b).length:Nat):Int))=0:=by
   rw [show 8 * (h.off / 8)=h.off by omega,show ((20+(pad4 b).length+h.data.length:Nat):Int) - ((20+(pad4 b).length:Nat):Int)=h.data.length by omega,h4]
  unfold ip4Parse
  rw [if_neg (by omega),if_neg (by omega),f0,if_neg (by decide),f1,hhead,if_neg (by omega),f3,htt,if_neg (by omega),Int.toNat_natCast,Int.toNat_natCast,ht,hsum,if_neg (by decide),hd2,hget,if_neg (by simp),f6,b2i_eq,f7,hfr,if_neg (by decide),
   htot,f2,f4,f5,b2i_eq,f8,f9,e1,e2,show 8 * (h.off / 8)=h.off by omega]
 ·rw [if_pos (by simpa using hc)] at c
  exact absurd c hc
def isTag (n:Int):Prop:=n=33024∨n=34984
instance (n:Int):Decidable (isTag n):=by unfold isTag; infer_instance
def group (m:List Int):Prop:=getI m 0 % 2=1
instance (m:List Int):Decidable (group m):=by unfold group; infer_instance
def tagsOk:List Tag→Prop
 | []=>True
 | [t]=>isTag t.tpid
 | [t,u]=>isTag t.tpid∧u.tpid=33024
 | _=>False
instance (l:List Tag):Decidable (tagsOk l):=by
 match l with
 | []=>exact isTrue trivial
 | [t]=>exact (inferInstance:Decidable (isTag t.tpid))
 | [t,u]=>exact (inferInstance:Decidable (isTag t.tpid∧u.tpid=33024))
 | _::_::_::_=>exact isFalse id
def tagOk (t:Tag):Prop:=0≤t.pcp∧t.pcp≤7∧0≤t.vid∧t.vid≤4094
instance (t:Tag):Decidable (tagOk t):=by unfold tagOk; infer_instance
def typeOk (n:Int):Prop:=1536≤n∧n≤65535∧¬ isTag n
instance (n:Int):Decidable (typeOk n):=by unfold typeOk; infer_instance
def linkCheck (f:Frm):Int:=
 if group f.src then 54 else if ¬ tagsOk f.tags then 51 else if ¬ (∀ t∈f.tags,tagOk t) then 52 else if ¬ typeOk f.type then 53
 else if 14+4 * f.tags.length+f.data.length > 65535 then 2 else 0
def word (n:Int):List Int:=[n / 256 % 256,n % 256]
def tagW (t:Tag):Int:=t.pcp * 8192+(if t.dei=true then 4096 else 0)+t.vid
def tagB (t:Tag):List Int:=word t.tpid++word (tagW t)
def linkB (f:Frm):List Int:=f.dst++f.src++f.tags.flatMap tagB++word f.type++f.data
def linkPut (f:Frm):List Int × Int:=if linkCheck f≠0 then ([],linkCheck f) else (linkB f,0)
def padF (b:List Int):List Int:=b++List.replicate (60 - b.length) 0
def two (b:List Int) (i:Nat):Int:=getI b i * 256+getI b (i+1)
def tagOf (n w:Int):Tag:=⟨n,w / 8192,w / 4096 % 2 == 1,w % 4096⟩
def ltags (b:List Int):Nat→List Tag→Nat→Int × List Tag × Nat
 | 0,ts,i=>if isTag (two b i) then (51,[],0) else (0,ts,i)
 | k+1,ts,i=>if isTag (two b i) then
   if ts.length=1∧two b i=34984 then (51,[],0) else if b.length<i+6 then (50,[],0)
   else if two b (i+2) % 4096=4095 then (52,[],0) else ltags b k (ts++[tagOf (two b i) (two b (i+2))]) (i+4)
  else (0,ts,i)
def linkParse (b:List Int):Frm × Int:=
 if b.length > 65535 then (Frm.z,2) else if b.length<14 then (Frm.z,50)
 else if group ((b.take 12).drop 6) then (Frm.z,54)
 else if (ltags b 2 [] 12).1≠0 then (Frm.z,(ltags b 2 [] 12).1)
 else if two b (ltags b 2 [] 12).2.2<1536 then (Frm.z,53)
 else (⟨b.take 6,(b.take 12).drop 6,(ltags b 2 [] 12).2.1,two b (ltags b 2 [] 12).2.2,b.drop ((ltags b 2 [] 12).2.2+2)⟩,0)
theorem linkCheck_ok {f:Frm} (h:linkCheck f=0):¬ group f.src∧tagsOk f.tags∧(∀ t∈f.tags,tagOk t)∧typeOk f.type∧14+4 * f.tags.length+f.data.length≤65535:=by
 unfold linkCheck at h
 split at h
 ·cases h
 ·split at h
  ·cases h
  ·split at h
   ·cases h
   ·split at h
    ·cases h
    ·split at h
     ·cases h
     ·rename_i h1 h2 h3 h4 h5
      exact ⟨h1,Decidable.not_not.1 h2,Decidable.not_not.1 h3,Decidable.not_not.1 h4,by omega⟩
theorem six {l:List Int} (h:l.length=6):∃ a b c d e f,l=[a,b,c,d,e,f]:=by
 match l,h with
 | [a,b,c,d,e,f],_=>exact ⟨a,b,c,d,e,f,rfl⟩
theorem tagW_r {t:Tag} (h:tagOk t):0≤tagW t∧tagW t≤65535∧tagW t % 4096≠4095∧tagOf t.tpid (tagW t)=t:=by
 unfold tagOk at h
 obtain ⟨a,b,c,d⟩:=t
 dsimp only at h
 cases c with
 | true=>
  have e:tagW ⟨a,b,true,d⟩ = b * 8192+4096+d:=by simp [tagW]
  rw [e]
  refine ⟨by omega,by omega,by omega,?_⟩
  unfold tagOf
  dsimp only
  rw [show (b * 8192+4096+d) / 8192=b by omega,show (b * 8192+4096+d) / 4096 % 2=1 by omega,show (b * 8192+4096+d) % 4096=d by omega]
  rfl
 | false=>
  have e:tagW ⟨a,b,false,d⟩ = b * 8192+d:=by simp [tagW]
  rw [e]
  refine ⟨by omega,by omega,by omega,?_⟩
  unfold tagOf
  dsimp only
  rw [show (b * 8192+d) / 8192=b by omega,show (b * 8192+d) / 4096 % 2=0 by omega,show (b * 8192+d) % 4096=d by omega]
  rfl
theorem word_two {n:Int} (h:0≤n) (h2:n≤65535):n / 256 % 256 * 256+n % 256=n:=by omega
theorem link_round {f:Frm} (hs:f.src.length=6) (hd:f.dst.length=6) (c:linkCheck f=0) (q:List Int) (hq:(linkB f).length+q.length≤65535):linkParse (linkB f++q)=({ f with data:=f.data++q },0):=by
 obtain ⟨h1,h2,h3,h4,h5⟩:=linkCheck_ok c
 obtain ⟨dst,src,tags,type,data⟩:=f
 dsimp only at hs hd h1 h2 h3 h4 h5
 obtain ⟨d0,d1,d2,d3,d4,d5,rfl⟩:=six hd
 obtain ⟨s0,s1,s2,s3,s4,s5,rfl⟩:=six hs
 unfold typeOk at h4
 have ht:=word_two (n:=type) (by omega) (by omega)
 have e33:∀ x:Int,x=33024→isTag x:=fun x h=>.inl h
 match tags,h2 with
 | [],_=>
  have e:linkB ⟨[d0,d1,d2,d3,d4,d5],[s0,s1,s2,s3,s4,s5],[],type,data⟩++q=d0::d1::d2::d3::d4::d5::s0::s1::s2::s3::s4::s5::(type / 256 % 256)::(type % 256)::(data++q):=by simp [linkB,word]
  have hl:(d0::d1::d2::d3::d4::d5::s0::s1::s2::s3::s4::s5::(type / 256 % 256)::(type % 256)::(data++q)).length≤65535:=by rw [←e,List.length_append]; omega
  have hl2:14≤(d0::d1::d2::d3::d4::d5::s0::s1::s2::s3::s4::s5::(type / 256 % 256)::(type % 256)::(data++q)).length:=by simp
  have t12:two (d0::d1::d2::d3::d4::d5::s0::s1::s2::s3::s4::s5::(type / 256 % 256)::(type % 256)::(data++q)) 12=type:=ht
  rw [e]
  generalize hL:(d0::d1::d2::d3::d4::d5::s0::s1::s2::s3::s4::s5::(type / 256 % 256)::(type % 256)::(data++q))=L at hl hl2 t12 ⊢
  have hlt:ltags L 2 [] 12=(0,[],12):=by
   rw [ltags,t12,if_neg h4.2.2]
  unfold linkParse
  rw [hlt,if_neg (by omega),if_neg (by omega),if_neg (by rw [←hL]; exact h1),if_neg (by simp),t12,if_neg (by omega),←hL]
  rfl
 | [t],h2=>
  have w:=tagW_r (h3 t (by simp))
  have htp:0≤t.tpid∧t.tpid≤65535:=by unfold tagsOk isTag at h2; omega
  have e:linkB ⟨[d0,d1,d2,d3,d4,d5],[s0,s1,s2,s3,s4,s5],[t],type,data⟩++q=d0::d1::d2::d3::d4::d5::s0::s1::s2::s3::s4::s5::(t.tpid / 256 % 256)::(t.tpid % 256)::(tagW t / 256 % 256)::(tagW t % 256)::(type / 256 % 256)::(type % 256)::(data++q):=by simp [linkB,word,tagB]
  have hl:(d0::d1::d2::d3::d4::d5::s0::s1::s2::s3::s4::s5::(t.tpid / 256 % 256)::(t.tpid % 256)::(tagW t / 256 % 256)::(tagW t % 256)::(type / 256 % 256)::(type % 256)::(data++q)).length≤65535:=by rw [←e,List.length_append]; omega
  have hl2:18≤(d0::d1::d2::d3::d4::d5::s0::s1::s2::s3::s4::s5::(t.tpid / 256 % 256)::(t.tpid % 256)::(tagW t / 256 % 256)::(tagW t % 256)::(type / 256 % 256)::(type % 256)::(data++q)).length:=by simp
  have t12:two (d0::d1::d2::d3::d4::d5::s0::s1::s2::s3::s4::s5::(t.tpid / 256 % 256)::(t.tpid % 256)::(tagW t / 256 % 256)::(tagW t % 256)::(type / 256 % 256)::(type % 256)::(data++q)) 12=t.tpid:=word_two htp.1 htp.2
  have t14:two (d0::d1::d2::d3::d4::d5::s0::s1::s2::s3::s4::s5::(t.tpid / 256 % 256)::(t.tpid % 256)::(tagW t / 256 % 256)::(tagW t % 256)::(type / 256 % 256)::(type % 256)::(data++q)) 14=tagW t:=word_two w.1 w.2.1
  have t16:two (d0::d1::d2::d3::d4::d5::s0::s1::s2::s3::s4::s5::(t.tpid / 256 % 256)::(t.tpid % 256)::(tagW t / 256 % 256)::(tagW t % 256)::(type / 256 % 256)::(type % 256)::(data++q)) 16=type:=ht
  rw [e]
  generalize hL:(d0::d1::d2::d3::d4::d5::s0::s1::s2::s3::s4::s5::(t.tpid / 256 % 256)::(t.tpid % 256)::(tagW t / 256 % 256)::(tagW t % 256)::(type / 256 % 256)::(type % 256)::(data++q))=L at hl hl2 t12 t14 t16 ⊢
  have hlt:ltags L 2 [] 12=(0,[t],16):=by
   rw [ltags,t12,if_pos (show isTag t.tpid from h2),if_neg (by simp),if_neg (by omega),t14,if_neg w.2.2.1,ltags,t16,if_neg h4.2.2,w.2.2.2]
   rfl
  unfold linkParse
  rw [hlt,if_neg (by omega),if_neg (by omega),if_neg (by rw [←hL]; exact h1),if_neg (by simp),t16,if_neg (by omega),←hL]
  rfl
 | [t,u],h2=>
  have w:=tagW_r (h3 t (by simp))
  have w':=tagW_r (h3 u (by simp))
  have htp:0≤t.tpid∧t.tpid≤65535:=by have:=h2.1; unfold isTag at this; omega
  have hup:0≤u.tpid∧u.tpid≤65535:=by have:=h2.2; omega
  have e:linkB ⟨[d0,d1,d2,d3,d4,d5],[s0,s1,s2,s3,s4,s5],[t,u],type,data⟩++q=d0::d1::d2::d3::d4::d5::s0::s1::s2::s3::s4::s5::(t.tpid / 256 % 256)::(t.tpid % 256)::(tagW t / 256 % 256)::(tagW t % 256)::(u.tpid / 256 % 256)::(u.tpid % 256)::(tagW u / 256 % 256)::(tagW u % 256)::(type / 256 % 256)::(type % 256)::(data++q):=by simp [linkB,word,tagB]
  generalize hL:(d0::d1::d2::d3::d4::d5::s0::s1::s2::s3::s4::s5::(t.tpid / 256 % 256)::(t.tpid % 256)::(tagW t / 256 % 256)::(tagW t % 256)::(u.tpid / 256 % 256)::(u.tpid % 256)::(tagW u / 256 % 256)::(tagW u % 256)::(type / 256 % 256)::(type % 256)::(data++q))=L at e
  have hl:L.length≤65535:=by rw [←e,List.length_append]; omega
  have hl2:22≤L.length:=by rw [←hL]; simp
  have t12:two L 12=t.tpid:=by rw [←hL]; exact word_two htp.1 htp.2
  have t14:two L 14=tagW t:=by rw [←hL]; exact word_two w.1 w.2.1
  have t16:two L 16=u.tpid:=by rw [←hL]; exact word_two hup.1 hup.2
  have t18:two L 18=tagW u:=by rw [←hL]; exact word_two w'.1 w'.2.1
  have t20:two L 20=type:=by rw [←hL]; exact ht
  rw [e]
  have hlt:ltags L 2 [] 12=(0,[t,u],20):=by
   rw [ltags,t12,if_pos h2.1,if_neg (by simp),if_neg (by omega),t14,if_neg w.2.2.1,ltags,t16,if_pos (e33 _ h2.2),if_neg (by have:=h2.2; omega),if_neg (by omega),t18,if_neg w'.2.2.1,ltags,t20,if_neg h4.2.2,w.2.2.2,w'.2.2.2]
   rfl
  unfold linkParse
  rw [hlt,if_neg (by omega),if_neg (by omega),if_neg (by rw [←hL]; exact h1),if_neg (by simp),t20,if_neg (by omega),←hL]
  rfl
theorem linkB_len (f:Frm) (hs:f.src.length=6) (hd:f.dst.length=6):(linkB f).length=14+4 * f.tags.length+f.data.length:=by
 have:(f.tags.flatMap tagB).length=4 * f.tags.length:=by
  generalize f.tags=l
  induction l with
  | nil=>rfl
  | cons t l ih=>rw [List.flatMap_cons,List.length_append,ih,List.length_cons]; simp [tagB,word]; omega
 unfold linkB
 simp only [List.length_append,this,hs,hd,word,List.length_cons,List.length_nil]
 omega
def arpForm:List Int:=[0,1,8,0,6,4]
def zeroMac:List Int:=[0,0,0,0,0,0]
def arpCheck (op:Int) (m:List Int):Int:=if op≠1∧op≠2 then 57 else if group m∨m=zeroMac then 58 else 0
def arpPut (a:Arp):List Int × Int:=
 if arpCheck a.op a.smac≠0 then ([],arpCheck a.op a.smac) else if ¬ four a.sip∨¬ four a.tip then ([],20)
 else (arpForm++word a.op++a.smac++a.sip.a.take 4++a.tmac++a.tip.a.take 4,0)
def arpParse (b:List Int):Arp × Int:=
 if b.length > 65535 then (Arp.z,2) else if b.length<28 then (Arp.z,55) else if b.take 6≠arpForm then (Arp.z,56)
 else if arpCheck (two b 6) ((b.take 14).drop 8)≠0 then (Arp.z,arpCheck (two b 6) ((b.take 14).drop 8))
 else (⟨two b 6,(b.take 14).drop 8,⟨4,a4 (b.drop 14)⟩,(b.take 24).drop 18,⟨4,a4 (b.drop 24)⟩⟩,0)
theorem four_take {l:List Int} (h:l.length=16):∃ a b c d m,l=a::b::c::d::m∧l.take 4=[a,b,c,d]:=by
 match l,h with
 | a::b::c::d::m,_=>exact ⟨a,b,c,d,m,rfl,rfl⟩
theorem arp_round {a:Arp} (hs:a.smac.length=6) (ht:a.tmac.length=6) (h1:a.sip.Ok) (h2:a.tip.Ok) (c:(arpPut a).2=0) (q:List Int) (hq:(arpPut a).1.length+q.length≤65535):arpParse ((arpPut a).1++q)=(a,0):=by
 obtain ⟨op,smac,sip,tmac,tip⟩:=a
 obtain ⟨sv,sa⟩:=sip
 obtain ⟨tv,ta⟩:=tip
 dsimp only at hs ht
 have l1:=h1.1
 have l2:=h2.1
 dsimp only at l1 l2
 unfold arpPut at c hq ⊢
 dsimp only at c hq ⊢
 by_cases e1:arpCheck op smac=0
 ·rw [if_neg (by simpa using e1)] at c hq ⊢
  by_cases e2:¬ four ⟨sv,sa⟩∨¬ four ⟨tv,ta⟩
  ·rw [if_pos e2] at c; cases c
  ·rw [if_neg e2] at hq ⊢
   have f1:four ⟨sv,sa⟩:=Decidable.byContradiction fun h=>e2 (.inl h)
   have f2:four ⟨tv,ta⟩:=Decidable.byContradiction fun h=>e2 (.inr h)
   obtain ⟨s0,s1,s2,s3,s4,s5,rfl⟩:=six hs
   obtain ⟨t0,t1,t2,t3,t4,t5,rfl⟩:=six ht
   obtain ⟨a0,a1,a2,a3,am,rfl,ha⟩:=four_take l1
   obtain ⟨b0,b1,b2,b3,bm,rfl,hb⟩:=four_take l2
   rw [ha,hb] at hq ⊢
   have hop:op=1∨op=2:=by
    unfold arpCheck at e1
    split at e1
    ·cases e1
    ·omega
   have w:=word_two (n:=op) (by omega) (by omega)
   have g1:=f1.2
   have g2:=f2.2
   have v1:=f1.1
   have v2:=f2.1
   dsimp only at g1 g2 v1 v2
   subst v1
   subst v2
   simp only [List.length_append,List.length_cons,List.length_nil,arpForm,word] at hq
   generalize hL:arpForm++word op++[s0,s1,s2,s3,s4,s5]++[a0,a1,a2,a3]++[t0,t1,t2,t3,t4,t5]++[b0,b1,b2,b3]++q=L
   have hl:L.length≤65535∧28≤L.length:=by rw [←hL]; simp [arpForm,word]; omega
   have t6:two L 6=op:=by rw [←hL]; exact w
   have k1:(L.take 14).drop 8=[s0,s1,s2,s3,s4,s5]:=by rw [←hL]; rfl
   have k2:(L.take 24).drop 18=[t0,t1,t2,t3,t4,t5]:=by rw [←hL]; rfl
   have k3:a4 (L.drop 14)=a0::a1::a2::a3::am:=by rw [g1,←hL]; rfl
   have k4:a4 (L.drop 24)=b0::b1::b2::b3::bm:=by rw [g2,←hL]; rfl
   unfold arpParse
   rw [if_neg (by omega),if_neg (by omega),if_neg (by rw [←hL]; exact fun h=>h rfl),t6,k1,e1,if_neg (by simp),k2,k3,k4]
 ·rw [if_pos (by simpa using e1)] at c
  exact absurd c e1
def sort6 (k:Int):Int:=if k=0 then 1 else if k=43 then 2 else if k=44 then 3 else if k=60 then 1 else 0
def padK:Nat→Nat→List Int
 | 0,_=>[]
 | _+1,0=>[]
 | _+1,1=>[0]
 | f+1,n+2=>(1::((Nat.min (n+2) 257 - 2:Nat):Int)::List.replicate (Nat.min (n+2) 257 - 2) 0)++padK f (n+2 - Nat.min (n+2) 257)
def padN (n:Nat):List Int:=padK n n
theorem padK_fuel:∀ (f g n:Nat),n≤f→n≤g→padK f n=padK g n
 | 0,0,n,_,_=>rfl
 | 0,g+1,n,h,_=>by obtain rfl:n=0:=by omega
                   rfl
 | f+1,0,n,_,h=>by obtain rfl:n=0:=by omega
                   rfl
 | f+1,g+1,0,_,_=>rfl
 | f+1,g+1,1,_,_=>rfl
 | f+1,g+1,n+2,h,h2=>by
  have hm:2≤Nat.min (n+2) 257:=by show 2≤min (n+2) 257; omega
  rw [padK,padK,padK_fuel f g (n+2 - Nat.min (n+2) 257) (by omega) (by omega)]
theorem padN_step {n:Nat} (h:1<n):padN n=(1::((Nat.min n 257 - 2:Nat):Int)::List.replicate (Nat.min n 257 - 2) 0)++padN (n - Nat.min n 257):=by
 obtain ⟨k,rfl⟩ : ∃ k,n=k+2:=⟨n - 2,by omega⟩
 have hm:2≤Nat.min (k+2) 257:=by show 2≤min (k+2) 257; omega
 unfold padN
 rw [padK,padK_fuel (k+1) (k+2 - Nat.min (k+2) 257) _ (by omega) (Nat.le_refl _)]
theorem padN_len:∀ (n:Nat),(padN n).length=n:=by
 intro n
 induction n using Nat.strongRecOn with
 | ind n ih=>
  by_cases h:1<n
  ·have hm:2≤Nat.min n 257∧Nat.min n 257≤n:=by show 2≤min n 257∧min n 257≤n; omega
   rw [padN_step h,List.length_append,ih _ (by omega),List.length_cons,List.length_cons,List.length_replicate]
   omega
  ·match n,h with
   | 0,_=>rfl
   | 1,_=>rfl
   | n+2,h=>omega
theorem padN_bytes:∀ (n:Nat),Bytes (padN n):=by
 intro n
 induction n using Nat.strongRecOn with
 | ind n ih=>
  by_cases h:1<n
  ·have hm:2≤Nat.min n 257∧Nat.min n 257≤257:=by show 2≤min n 257∧min n 257≤257; omega
   rw [padN_step h]
   refine Bytes.app ?_ (ih _ (by omega))
   refine bytes_cons (by decide) (by decide) (bytes_cons (by omega) (by omega) (fun x hx=>?_))
   rw [List.eq_of_mem_replicate hx]; decide
  ·match n,h with
   | 0,_=>exact bytes_nil
   | 1,_=>exact bytes_cons (by decide) (by decide) bytes_nil
   | n+2,h=>omega
def optB6 (o:Opt):List Int:=o.kind::(o.data.length:Int)::o.data
def bad6 (o:Opt):Prop:=o.kind<0∨o.kind > 255∨o.kind=1∨(o.kind≠0∧o.data.length > 255)
instance (o:Opt):Decidable (bad6 o):=by unfold bad6; infer_instance
def badP (prev:Bool) (o:Opt):Prop:=o.data=[]∨prev=true∨(∃ c∈o.data,c≠0)∨o.data.length > 2046
instance (prev:Bool) (o:Opt):Decidable (badP prev o):=by unfold badP; infer_instance
def put6:Bool→List Opt→List Int→Option (List Int)
 | _,[],b=>if b.length % 8=6∧b.length≤2046 then some b else none
 | prev,o::l,b=>if bad6 o then none else if o.kind≠0 then put6 false l (b++optB6 o)
   else if badP prev o then none else put6 true l (b++padN o.data.length)
def body6 (x:Ext):List Int × Int:=
 if x.kind<0∨x.kind > 255∨(sort6 x.kind≠1∧sort6 x.kind≠2) then ([],72)
 else if sort6 x.kind=1 then (if x.data≠[] then ([],72) else match put6 false x.opts [] with
  | none=>([],75)
  | some b=>(b,0))
 else if x.opts≠[]∨x.data.length % 8≠6∨x.data.length > 2046 then ([],72) else (x.data,0)
def then6 (next:Int):List Ext→Int
 | []=>next
 | y::_=>y.kind
def heads6 (next:Int):Bool→List Ext→List Int→List Int × Int
 | _,[],out=>(out,0)
 | fst,x::l,out=>if x.kind=0∧fst=false then ([],73) else if (body6 x).2≠0 then ([],(body6 x).2)
   else heads6 next false l (out++(then6 next l % 256::((body6 x).1.length:Int) / 8 % 256::(body6 x).1))
def fits6 (f:Frag) (n:Int):Bool:=!decide ((f.more=true∧(n=0∨n % 8≠0))∨(f.off > 0∧n=0)) && decide (f.off+n≤65535)
def sized6 (h:Ip6):Int:=if h.src.v≠6∨h.dst.v≠6∨h.cls<0∨h.cls > 255∨h.flow<0∨h.flow ≥ 1048576∨h.hop<0∨h.hop > 255∨h.next<0∨h.next > 255 then 78 else 0
def fragged6 (h:Ip6):Int:=
 if h.frag.has=false then (if h.frag≠Frag.z then 76 else if sort6 h.next≠0 then 72 else 0)
 else if h.frag.id<0∨h.frag.id ≥ 4294967296∨h.frag.off<0∨h.frag.off % 8≠0∨h.frag.off > 65528∨fits6 h.frag h.data.length=false then 76 else 0
def next6 (h:Ip6):Int:=if h.frag.has=true then 44 else h.next
def first6 (h:Ip6):Int:=then6 (next6 h) h.exts
def fragPs (h:Ip6):List (Nat × Int):=[(8,h.next),(8,0),(13,h.frag.off / 8),(2,0),(1,b2i h.frag.more),(32,h.frag.id)]
def fragB (h:Ip6):List Int:=if h.frag.has=true then mkB 8 (allB (fragPs h)) else []
def exts6 (h:Ip6):List Int × Int:=if h.exts.length > 8 then ([],74) else heads6 (next6 h) true h.exts []
def ip6Ps (h:Ip6):List (Nat × Int):=[(4,6),(8,h.cls),(20,h.flow),(16,(((exts6 h).1++fragB h).length:Int)+(h.data.length:Int)),(8,first6 h),(8,h.hop)]
def ip6B (h:Ip6):List Int:=mkB 8 (allB (ip6Ps h))++(h.src.a++(h.dst.a++(((exts6 h).1++fragB h)++h.data)))
def made6 (h:Ip6):List Int × Int:=
 if sized6 h≠0 then ([],sized6 h) else if (exts6 h).2≠0 then ([],(exts6 h).2) else if fragged6 h≠0 then ([],fragged6 h)
 else if 40+((exts6 h).1++fragB h).length+h.data.length > 65535 then ([],2) else (ip6B h,0)
def alone (p:Pkt):Pkt:=⟨p.dst,p.src,p.tags,p.kind,if p.kind=1 then p.arp else Arp.z,if p.kind=2 then p.ip4 else Ip4.z,if p.kind=3 then p.ip6 else Ip6.z,p.l4,
 if p.l4=1 then p.icmp else Icmp.z,if p.l4=2 then p.udp else Udp.z,if p.l4=3 then p.tcp else Tcp.z⟩
def mixed (p:Pkt):Prop:=(p.kind<1∨p.kind > 3∨p.l4<0∨p.l4 > 3)∨p≠alone p∨p.l4≠layer p∨(p.l4≠0∧(dataOf p≠[]∨(p.l4=1∧p.icmp.v≠(endsOf p).v)))
instance (p:Pkt):Decidable (mixed p):=by unfold mixed; infer_instance
def above (p:Pkt):List Int × Int:=
 if p.l4=1 then icmpPut (endsOf p).src (endsOf p).dst p.icmp
 else if p.l4=2 then udpPut (endsOf p).src (endsOf p).dst p.udp
 else if p.l4=3 then tcpPut (endsOf p).src (endsOf p).dst p.tcp
 else (dataOf p,0)
def checkAbove (p:Pkt):Int:=
 if p.l4=1 then icmpCheck p.icmp else if p.l4=2 then udpCheck (endsOf p).v p.udp else if p.l4=3 then tcpCheck p.tcp else 0
def checkIP (p:Pkt):Int:=if p.kind=2 then ip4Check p.ip4 else (made6 p.ip6).2
def inner (p:Pkt):List Int × Int:=
 if p.kind=1 then arpPut p.arp else if checkIP p≠0 then ([],checkIP p) else if checkAbove p≠0 then ([],checkAbove p)
 else if (above p).2≠0 then ([],(above p).2)
 else if p.kind=2 then ip4Put (with_ p (above p).1).ip4 else made6 (with_ p (above p).1).ip6
def frameOf (p:Pkt) (ty:Int) (b:List Int):Frm:=⟨p.dst,p.src,p.tags,ty,b⟩
def pmade (p:Pkt):List Int × Int:=
 if linkCheck (frameOf p 2048 [])≠0 then ([],linkCheck (frameOf p 2048 [])) else if mixed p then ([],101)
 else if (inner p).2≠0 then ([],(inner p).2) else linkPut (frameOf p (typeOf p.kind) (inner p).1)
def pser (p:Pkt):List Int × Int:=if (pmade p).2≠0 then ([],(pmade p).2) else (padF (pmade p).1,0)
def shut (p:Pkt) (b:List Int):Pkt:={ with_ p b with l4:=0,icmp:=Icmp.z,udp:=Udp.z,tcp:=Tcp.z }
def pclose (p:Pkt):Pkt × Int:=
 if (pmade p).2≠0 then (Pkt.z,(pmade p).2) else if p.l4=0 then (p,0) else if (above p).2≠0 then (Pkt.z,(above p).2) else (shut p (above p).1,0)
def popen (p:Pkt):Pkt × Int:=
 if (p.kind≠2∧p.kind≠3)∨p.l4≠0 then (p,0)
 else if layer p=1 then (if (icmpParse (endsOf p).v (endsOf p).src (endsOf p).dst (dataOf p)).2≠0 then (Pkt.z,(icmpParse (endsOf p).v (endsOf p).src (endsOf p).dst (dataOf p)).2)
  else ({ with_ p [] with l4:=1,icmp:=(icmpParse (endsOf p).v (endsOf p).src (endsOf p).dst (dataOf p)).1 },0))
 else if layer p=2 then (if (udpParse (endsOf p).src (endsOf p).dst (dataOf p)).2≠0 then (Pkt.z,(udpParse (endsOf p).src (endsOf p).dst (dataOf p)).2)
  else ({ with_ p [] with l4:=2,udp:=(udpParse (endsOf p).src (endsOf p).dst (dataOf p)).1 },0))
 else if layer p=3 then (if (tcpParse (endsOf p).src (endsOf p).dst (dataOf p)).2≠0 then (Pkt.z,(tcpParse (endsOf p).src (endsOf p).dst (dataOf p)).2)
  else ({ with_ p [] with l4:=3,tcp:=(tcpParse (endsOf p).src (endsOf p).dst (dataOf p)).1 },0))
 else (p,0)
theorem pmade_ok {p:Pkt} (h:(pmade p).2=0):linkCheck (frameOf p 2048 [])=0∧¬ mixed p∧(inner p).2=0∧linkCheck (frameOf p (typeOf p.kind) (inner p).1)=0∧(pmade p).1=linkB (frameOf p (typeOf p.kind) (inner p).1):=by
 unfold pmade at h ⊢
 split at h
 ·rename_i h1; exact absurd h h1
 ·rename_i h1
  rw [if_neg h1]
  split at h
  ·cases h
  ·rename_i h2
   rw [if_neg h2]
   split at h
   ·rename_i h3; exact absurd h h3
   ·rename_i h3
    rw [if_neg h3]
    unfold linkPut at h ⊢
    split at h
    ·rename_i h4; exact absurd h h4
    ·rename_i h4
     rw [if_neg h4]
     exact ⟨Decidable.not_not.1 h1,h2,Decidable.not_not.1 h3,Decidable.not_not.1 h4,rfl⟩
theorem mixed_ok {p:Pkt} (h:¬ mixed p):1≤p.kind∧p.kind≤3∧0≤p.l4∧p.l4≤3∧p=alone p∧p.l4=layer p∧(p.l4≠0→dataOf p=[]∧(p.l4=1→p.icmp.v=(endsOf p).v)):=by
 unfold mixed at h
 refine ⟨by omega,by omega,by omega,by omega,Decidable.byContradiction fun hx=>h (.inr (.inl hx)),Decidable.byContradiction fun hx=>h (.inr (.inr (.inl hx))),fun h0=>⟨Decidable.byContradiction fun hx=>h (.inr (.inr (.inr ⟨h0,.inl hx⟩))),fun h1=>Decidable.byContradiction fun hx=>h (.inr (.inr (.inr ⟨h0,.inr ⟨h1,hx⟩⟩)))⟩⟩
theorem inner_ok {p:Pkt} (hk:p.kind≠1) (h:(inner p).2=0):checkIP p=0∧checkAbove p=0∧(above p).2=0∧inner p=(if p.kind=2 then ip4Put (with_ p (above p).1).ip4 else made6 (with_ p (above p).1).ip6):=by
 unfold inner at h ⊢
 rw [if_neg hk] at h ⊢
 split at h
 ·rename_i h1; exact absurd h h1
 ·rename_i h1
  rw [if_neg h1]
  split at h
  ·rename_i h2; exact absurd h h2
  ·rename_i h2
   rw [if_neg h2]
   split at h
   ·rename_i h3; exact absurd h h3
   ·rename_i h3
    rw [if_neg h3]
    exact ⟨Decidable.not_not.1 h1,Decidable.not_not.1 h2,Decidable.not_not.1 h3,rfl⟩
structure Pkt.Ok (p:Pkt):Prop where
 s4:p.ip4.src.Ok
 d4:p.ip4.dst.Ok
 s6:p.ip6.src.Ok
 d6:p.ip6.dst.Ok
 dst:p.dst.length=6∧Bytes p.dst
 src:p.src.length=6∧Bytes p.src
 smac:p.arp.smac.length=6∧Bytes p.arp.smac
 tmac:p.arp.tmac.length=6∧Bytes p.arp.tmac
 sip:p.arp.sip.Ok
 tip:p.arp.tip.Ok
 o4:∀ o∈p.ip4.opts,Bytes o.data
 b4:Bytes p.ip4.data
 x6:∀ x∈p.ip6.exts,Bytes x.data∧∀ o∈x.opts,Bytes o.data
 b6:Bytes p.ip6.data
 bi:Bytes p.icmp.data
 bu:Bytes p.udp.data
 ot:∀ o∈p.tcp.opts,Bytes o.data
 bt:Bytes p.tcp.data
theorem ends_ok {p:Pkt} (h:p.Ok):(endsOf p).src.Ok∧(endsOf p).dst.Ok:=by
 unfold endsOf
 split
 ·exact ⟨h.s4,h.d4⟩
 ·exact ⟨h.s6,h.d6⟩
theorem ends_with (p:Pkt) (b:List Int):endsOf (with_ p b)=endsOf p:=by
 by_cases h:p.kind=2
 ·unfold endsOf with_; simp [h]
 ·unfold endsOf with_; simp [h]
theorem ends_shut (p:Pkt) (b:List Int):endsOf (shut p b)=endsOf p:=ends_with p b
theorem kind_with (p:Pkt) (b:List Int):(with_ p b).kind=p.kind:=by unfold with_; split <;> rfl
theorem kind_shut (p:Pkt) (b:List Int):(shut p b).kind=p.kind:=kind_with p b
theorem layer_shut (p:Pkt) (b:List Int):layer (shut p b)=layer p:=by unfold layer; rw [ends_shut,kind_shut]
theorem data_shut {p:Pkt} (b:List Int):dataOf (shut p b)=b:=by
 by_cases h:p.kind=2
 ·unfold dataOf shut with_; simp [h]
 ·unfold dataOf shut with_; simp [h]
theorem back_with {p:Pkt} (b:List Int) (h:dataOf p=[]):with_ (with_ p b) []=p:=by
 unfold dataOf at h
 obtain ⟨a1,a2,a3,k,a5,i4,i6,l,m,u,t⟩:=p
 obtain ⟨f1,f2,f3,f4,f5,f6,f7,f8,f9,f10,f11⟩:=i4
 obtain ⟨g1,g2,g3,g4,g5,g6,g7,g8,g9⟩:=i6
 by_cases hk:k=2
 ·subst hk
  simp at h
  subst h
  rfl
 ·simp [hk] at h
  subst h
  simp [with_,hk]
theorem shut_with (p:Pkt) (b:List Int):with_ (shut p b) []={ with_ (with_ p b) [] with l4:=0,icmp:=Icmp.z,udp:=Udp.z,tcp:=Tcp.z }:=by
 by_cases h:p.kind=2
 ·unfold shut with_; simp [h]
 ·unfold shut with_; simp [h]
theorem open_self {p:Pkt} (h:¬ mixed p):popen p=(p,0):=by
 obtain ⟨h1,h2,h3,h4,h5,h6,h7⟩:=mixed_ok h
 unfold popen
 by_cases h0:p.l4=0
 ·by_cases hk:p.kind≠2∧p.kind≠3
  ·rw [if_pos (.inl hk)]
  ·rw [if_neg (by omega),if_neg (by omega),if_neg (by omega),if_neg (by omega)]
 ·rw [if_pos (.inr h0)]
theorem open_close {p:Pkt} (ok:p.Ok) (h:(pclose p).2=0):popen (pclose p).1=(p,0)∧(pclose p).1.l4=0∧popen p=(p,0)∧(pclose p).1.icmp=Icmp.z∧(pclose p).1.udp=Udp.z∧(pclose p).1.tcp=Tcp.z:=by
 unfold pclose at h ⊢
 by_cases hm:(pmade p).2=0
 ·rw [if_neg (by simpa using hm)] at h ⊢
  obtain ⟨q1,q2,q3,q4,q5⟩:=pmade_ok hm
  have hself:=open_self q2
  obtain ⟨h1,h2,h3,h4,h5,h6,h7⟩:=mixed_ok q2
  by_cases h0:p.l4=0
  ·rw [if_pos h0]
   refine ⟨hself,h0,hself,?_,?_,?_⟩
   ·rw [show p.icmp=(alone p).icmp from congrArg Pkt.icmp h5]
    show (if p.l4=1 then p.icmp else Icmp.z)=_
    rw [if_neg (by omega)]
   ·rw [show p.udp=(alone p).udp from congrArg Pkt.udp h5]
    show (if p.l4=2 then p.udp else Udp.z)=_
    rw [if_neg (by omega)]
   ·rw [show p.tcp=(alone p).tcp from congrArg Pkt.tcp h5]
    show (if p.l4=3 then p.tcp else Tcp.z)=_
    rw [if_neg (by omega)]
  ·rw [if_neg h0] at h ⊢
   by_cases ha:(above p).2=0
   ·rw [if_neg (by simpa using ha)]
    refine ⟨?_,rfl,hself,rfl,rfl,rfl⟩
    obtain ⟨d0,d1⟩:=h7 h0
    have hk1:p.kind≠1:=fun hk=>h0 (by rw [h6]; unfold layer; rw [if_pos (.inl hk)])
    have he:=ends_ok ok
    have eL:=layer_shut p (above p).1
    have eE:=ends_shut p (above p).1
    have eK:=kind_shut p (above p).1
    have eD:=data_shut (p:=p) (above p).1
    have eW:with_ (shut p (above p).1) []={ p with l4:=0,icmp:=Icmp.z,udp:=Udp.z,tcp:=Tcp.z }:=by rw [shut_with,back_with _ d0]
    have r:∀ (a b c:_),(({ p with l4:=0,icmp:=Icmp.z,udp:=Udp.z,tcp:=Tcp.z }:Pkt))=({ p with l4:=0,icmp:=Icmp.z,udp:=Udp.z,tcp:=Tcp.z }:Pkt):=fun (_ _ _:Nat)=>rfl
    have z1:p.l4≠1→p.icmp=Icmp.z:=fun hx=>by
     rw [show p.icmp=(alone p).icmp from congrArg Pkt.icmp h5]
     show (if p.l4=1 then p.icmp else Icmp.z)=_
     rw [if_neg hx]
    have z2:p.l4≠2→p.udp=Udp.z:=fun hx=>by
     rw [show p.udp=(alone p).udp from congrArg Pkt.udp h5]
     show (if p.l4=2 then p.udp else Udp.z)=_
     rw [if_neg hx]
    have z3:p.l4≠3→p.tcp=Tcp.z:=fun hx=>by
     rw [show p.tcp=(alone p).tcp from congrArg Pkt.tcp h5]
     show (if p.l4=3 then p.tcp else Tcp.z)=_
     rw [if_neg hx]
    unfold popen
    rw [eL,eE,eK,eD,←h6,if_neg (by
     intro hx
     rcases hx with hx | hx
     ·omega
     ·exact hx rfl),eW]
    clear eW eD eE eK eL r q1 q2 q3 q4 q5 hself
    obtain hl | hl | hl:p.l4=1∨p.l4=2∨p.l4=3:=by omega
    ·have hab:above p=icmpPut (endsOf p).src (endsOf p).dst p.icmp:=by unfold above; rw [if_pos hl]
     rw [hab] at ha ⊢
     have hr:=icmp_round he.1 he.2 ok.bi ha
     rw [d1 hl] at hr
     rw [if_pos hl,hr,if_neg (by simp)]
     have e2:=z2 (by omega)
     have e3:=z3 (by omega)
     obtain ⟨a1,a2,a3,k,a5,i4,i6,l,m,u,t⟩:=p
     dsimp only at hl e2 e3
     subst hl e2 e3
     rfl
    ·have hab:above p=udpPut (endsOf p).src (endsOf p).dst p.udp:=by unfold above; rw [if_neg (by omega),if_pos hl]
     rw [hab] at ha ⊢
     have hr:=udp_round he.1 he.2 ok.bu ha
     rw [if_neg (by omega),if_pos hl,hr,if_neg (by simp)]
     have e2:=z1 (by omega)
     have e3:=z3 (by omega)
     obtain ⟨a1,a2,a3,k,a5,i4,i6,l,m,u,t⟩:=p
     dsimp only at hl e2 e3
     subst hl e2 e3
     rfl
    ·have hab:above p=tcpPut (endsOf p).src (endsOf p).dst p.tcp:=by unfold above; rw [if_neg (by omega),if_neg (by omega),if_pos hl]
     rw [hab] at ha ⊢
     have hr:=tcp_round he.1 he.2 ok.bt ok.ot ha
     rw [if_neg (by omega),if_neg (by omega),if_pos hl,hr,if_neg (by simp)]
     have e2:=z1 (by omega)
     have e3:=z2 (by omega)
     obtain ⟨a1,a2,a3,k,a5,i4,i6,l,m,u,t⟩:=p
     dsimp only at hl e2 e3
     subst hl e2 e3
     rfl
   ·rw [if_pos (by simpa using ha)] at h
    exact absurd h ha
 ·rw [if_pos (by simpa using hm)] at h
  exact absurd h hm
def flush (run:Nat) (l:List Opt):List Opt:=if run=0 then l else ⟨0,List.replicate run 0⟩::l
def gets6:Nat→Nat→List Int→Option (List Opt)
 | _,run,[]=>some (flush run [])
 | 0,_,_::_=>none
 | f+1,run,[k]=>if k=0 then gets6 f (run+1) [] else none
 | f+1,run,k::n::r'=>if k=0 then gets6 f (run+1) (n::r') else if n > r'.length then none else if k=1 then gets6 f (run+2+n.toNat) (r'.drop n.toNat)
   else (gets6 f 0 (r'.drop n.toNat)).map (fun l=>flush run (⟨k,r'.take n.toNat⟩::l))
theorem gets6_fuel:∀ (f g run:Nat) (b:List Int),b.length≤f→b.length≤g→gets6 f run b=gets6 g run b
 | f,g,run,[],_,_=>by cases f <;> cases g <;> rfl
 | 0,g,run,k::r,h,_=>by simp at h
 | f+1,0,run,k::r,_,h=>by simp at h
 | f+1,g+1,run,[k],h,h2=>by
  show (if k=0 then gets6 f (run+1) [] else none)=if k=0 then gets6 g (run+1) [] else none
  rw [gets6_fuel f g _ [] (by simp) (by simp)]
 | f+1,g+1,run,k::n::r',h,h2=>by
  rw [List.length_cons,List.length_cons] at h h2
  rw [gets6,gets6,gets6_fuel f g _ (n::r') (by rw [List.length_cons]; omega) (by rw [List.length_cons]; omega),gets6_fuel f g _ (r'.drop n.toNat) (by rw [List.length_drop]; omega) (by rw [List.length_drop]; omega),gets6_fuel f g 0 (r'.drop n.toNat) (by rw [List.length_drop]; omega) (by rw [List.length_drop]; omega)]
def opts6 (run:Nat) (b:List Int):Option (List Opt):=gets6 b.length run b
theorem opts6_zero (run:Nat) (r:List Int):opts6 run (0::r)=opts6 (run+1) r:=by
 unfold opts6
 match r with
 | []=>rfl
 | n::r'=>rw [List.length_cons,gets6,if_pos rfl]
theorem opts6_cons {run:Nat} {k n:Int} {r:List Int} (hk:k≠0):opts6 run (k::n::r)=if n > r.length then none else if k=1 then opts6 (run+2+n.toNat) (r.drop n.toNat) else (opts6 0 (r.drop n.toNat)).map (fun l=>flush run (⟨k,r.take n.toNat⟩::l)):=by
 unfold opts6
 rw [List.length_cons,gets6,if_neg hk,gets6_fuel (n::r).length _ _ (r.drop n.toNat) (by rw [List.length_drop,List.length_cons]; omega) (Nat.le_refl _),gets6_fuel (n::r).length _ 0 (r.drop n.toNat) (by rw [List.length_drop,List.length_cons]; omega) (Nat.le_refl _)]
theorem opts6_pad:∀ (n run:Nat) (r:List Int),opts6 run (padN n++r)=opts6 (run+n) r:=by
 intro n
 induction n using Nat.strongRecOn with
 | ind n ih=>
  intro run r
  by_cases h:1<n
  ·have hm:2≤Nat.min n 257∧Nat.min n 257≤n:=by show 2≤min n 257∧min n 257≤n; omega
   rw [padN_step h]
   generalize Nat.min n 257=m at hm ⊢
   show opts6 run (1::((m - 2:Nat):Int)::(List.replicate (m - 2) 0++padN (n - m)++r))=_
   rw [opts6_cons (by decide),if_neg (by simp only [List.length_append,List.length_replicate]; omega),if_pos rfl,Int.toNat_natCast,List.append_assoc,List.drop_left' (by rw [List.length_replicate]),ih (n - m) (by omega)]
   rw [show run+2+(m - 2)+(n - m)=run+n by omega]
  ·match n,h with
   | 0,_=>rfl
   | 1,_=>exact opts6_zero run r
   | n+2,h=>omega
theorem opts6_put:∀ (l:List Opt) (prev:Bool) (run:Nat) (b c:List Int),(prev=false→run=0)→put6 prev l b=some c→∃ t,c=b++t∧opts6 run t=some (flush run l)
 | [],prev,run,b,c,hr,h=>by
  rw [put6] at h
  split at h
  ·injection h with h; exact ⟨[],by rw [List.append_nil,h],rfl⟩
  ·cases h
 | o::l,prev,run,b,c,hr,h=>by
  rw [put6] at h
  split at h
  ·cases h
  ·rename_i h1
   unfold bad6 at h1
   split at h
   ·rename_i h2
    obtain ⟨t,h3,h4⟩:=opts6_put l false 0 _ c (fun _=>rfl) h
    refine ⟨optB6 o++t,by rw [h3,List.append_assoc],?_⟩
    show opts6 run (o.kind::(o.data.length:Int)::(o.data++t))=_
    rw [opts6_cons h2,if_neg (by rw [List.length_append]; omega),if_neg (by omega),Int.toNat_natCast,List.drop_left,List.take_left,h4]
    rfl
   ·rename_i h2
    split at h
    ·cases h
    ·rename_i h5
     unfold badP at h5
     have hp:prev=false:=by cases prev with
      | false=>rfl
      | true=>exact absurd (.inr (.inl rfl)) h5
     have hz:o.data=List.replicate o.data.length 0:=List.eq_replicate_iff.2 ⟨rfl,fun x hx=>Decidable.byContradiction fun hne=>h5 (.inr (.inr (.inl ⟨x,hx,hne⟩)))⟩
     have hne:o.data.length≠0:=fun h0=>h5 (.inl (List.length_eq_zero_iff.1 h0))
     obtain ⟨t,h3,h4⟩:=opts6_put l true o.data.length _ c (fun hx=>by cases hx) h
     refine ⟨padN o.data.length++t,by rw [h3,List.append_assoc],?_⟩
     rw [opts6_pad,hr hp,Nat.zero_add,h4]
     unfold flush
     rw [if_neg hne,if_pos rfl,←hz]
     have:o.kind=0:=Decidable.not_not.1 h2
     rw [←this]
theorem put6_len:∀ (l:List Opt) (prev:Bool) (b c:List Int),put6 prev l b=some c→c.length % 8=6∧c.length≤2046
 | [],prev,b,c,h=>by
  rw [put6] at h
  split at h
  ·rename_i h1; injection h with h; rw [←h]; exact h1
  ·cases h
 | o::l,prev,b,c,h=>by
  rw [put6] at h
  split at h
  ·cases h
  ·split at h
   ·exact put6_len l _ _ c h
   ·split at h
    ·cases h
    ·exact put6_len l _ _ c h
theorem put6_bytes:∀ (l:List Opt) (prev:Bool) (b c:List Int),Bytes b→(∀ o∈l,Bytes o.data)→put6 prev l b=some c→Bytes c
 | [],prev,b,c,hb,ho,h=>by
  rw [put6] at h
  split at h
  ·injection h with h; rw [←h]; exact hb
  ·cases h
 | o::l,prev,b,c,hb,ho,h=>by
  rw [put6] at h
  split at h
  ·cases h
  ·rename_i h1
   unfold bad6 at h1
   split at h
   ·exact put6_bytes l _ _ c (hb.app (bytes_cons (by omega) (by omega) (bytes_cons (by omega) (by omega) (ho o (List.mem_cons_self ..))))) (fun x hx=>ho x (List.mem_cons_of_mem _ hx)) h
   ·split at h
    ·cases h
    ·exact put6_bytes l _ _ c (hb.app (padN_bytes _)) (fun x hx=>ho x (List.mem_cons_of_mem _ hx)) h
theorem body6_ok {x:Ext} (h:(body6 x).2=0):0≤x.kind∧x.kind≤255∧(body6 x).1.length % 8=6∧(body6 x).1.length≤2046∧
  ((sort6 x.kind=1∧x.data=[]∧opts6 0 (body6 x).1=some x.opts)∨(sort6 x.kind=2∧x.opts=[]∧(body6 x).1=x.data)):=by
 unfold body6 at h ⊢
 split at h
 ·cases h
 ·rename_i h1
  rw [if_neg h1]
  split at h
  ·rename_i h2
   rw [if_pos h2]
   split at h
   ·cases h
   ·rename_i h3
    rw [if_neg h3]
    cases hp:put6 false x.opts [] with
    | none=>rw [hp] at h; cases h
    | some b=>
     have hl:=put6_len _ _ _ _ hp
     obtain ⟨t,g1,g2⟩:=opts6_put _ _ 0 _ _ (fun _=>rfl) hp
     rw [List.nil_append] at g1
     subst g1
     exact ⟨by omega,by omega,hl.1,hl.2,.inl ⟨h2,Decidable.not_not.1 h3,g2⟩⟩
  ·rename_i h2
   rw [if_neg h2]
   split at h
   ·cases h
   ·rename_i h3
    rw [if_neg h3]
    exact ⟨by omega,by omega,by show x.data.length % 8=6; omega,by show x.data.length≤2046; omega,.inr ⟨by omega,Decidable.byContradiction fun hx=>h3 (.inl hx),rfl⟩⟩
theorem body6_bytes {x:Ext} (hb:Bytes x.data) (ho:∀ o∈x.opts,Bytes o.data):Bytes (body6 x).1:=by
 unfold body6
 split
 ·exact bytes_nil
 ·split
  ·split
   ·exact bytes_nil
   ·cases hp:put6 false x.opts [] with
    | none=>exact bytes_nil
    | some b=>exact put6_bytes _ _ _ _ bytes_nil ho hp
  ·split
   ·exact bytes_nil
   ·exact hb
def piece6 (exts:List Ext) (r:List Int):Chn × Int:=
 if r.length<8 then (Chn.z,72)
 else if fits6 ⟨true,fld r 31 1 == 1,fld r 32 32,8 * fld r 16 13⟩ ((r.length:Int) - 8)=false then (Chn.z,76)
 else (⟨exts,⟨true,fld r 31 1 == 1,fld r 32 32,8 * fld r 16 13⟩,fld r 0 8,r.drop 8⟩,0)
def len6 (r:List Int):Nat:=8 * (getI r 1).toNat+6
def walk6:Nat→Bool→List Ext→Int→List Int→Chn × Int
 | 0,_,_,_,_=>(Chn.z,0)
 | f+1,fst,exts,next,r=>if sort6 next=0 then (⟨exts,Frag.z,next,r⟩,0) else if sort6 next=3 then piece6 exts r
  else if next=0∧fst=false then (Chn.z,73) else if exts.length=8 then (Chn.z,74) else if r.length<8 then (Chn.z,72)
  else if len6 r > r.length - 2 then (Chn.z,72)
  else if sort6 next=2 then walk6 f false (exts++[⟨next,[],(r.drop 2).take (len6 r)⟩]) (getI r 0) (r.drop (2+len6 r))
  else match opts6 0 ((r.drop 2).take (len6 r)) with
   | none=>(Chn.z,75)
   | some l=>walk6 f false (exts++[⟨next,l,[]⟩]) (getI r 0) (r.drop (2+len6 r))
theorem walk6_heads {next:Int} (hn:0≤next∧next≤255):∀ (l:List Ext) (fst:Bool) (exts:List Ext) (f:Nat) (out c rest:List Int),heads6 next fst l out=(c,0)→exts.length+l.length≤8→l.length≤f→
  ∃ t g,c=out++t∧walk6 f fst exts (then6 next l) (t++rest)=walk6 (f - l.length) g (exts++l) next rest
 | [],fst,exts,f,out,c,rest,h,_,_=>by
  rw [heads6] at h
  injection h with h h2
  exact ⟨[],fst,by rw [List.append_nil,h],by rw [List.append_nil]; rfl⟩
 | x::l,fst,exts,f,out,c,rest,h,he,hf=>by
  rw [List.length_cons] at he hf
  rw [heads6] at h
  split at h
  ·injection h with h h2; cases h2
  ·rename_i h1
   split at h
   ·rename_i h2; injection h with h h3; exact absurd h3 h2
   ·rename_i h2
    have hx:=body6_ok (Decidable.not_not.1 h2)
    obtain ⟨t,g,h3,h4⟩:=walk6_heads hn l false (exts++[x]) (f - 1) _ c rest h (by rw [List.length_append]; simp; omega) (by omega)
    obtain ⟨k1,k2,k3,k4,k5⟩:=hx
    have hth:then6 next l % 256=then6 next l:=by
     match l,h with
     | [],_=>exact Int.emod_eq_of_lt hn.1 (by show next<256; omega)
     | y::l',h=>
      rw [heads6] at h
      split at h
      ·injection h with h h2; cases h2
      ·split at h
       ·rename_i h2; injection h with h h3; exact absurd h3 h2
       ·rename_i h5
        have:=body6_ok (Decidable.not_not.1 h5)
        exact Int.emod_eq_of_lt this.1 (by show y.kind<256; omega)
    refine ⟨then6 next l % 256::((body6 x).1.length:Int) / 8 % 256::(body6 x).1++t,g,by rw [h3,List.append_assoc],?_⟩
    rw [hth]
    obtain ⟨f,rfl⟩ : ∃ g,f=g+1:=⟨f - 1,by omega⟩
    show walk6 (f+1) fst exts x.kind (then6 next l::((body6 x).1.length:Int) / 8 % 256::((body6 x).1++t++rest))=_
    have hll:len6 (then6 next l::((body6 x).1.length:Int) / 8 % 256::((body6 x).1++t++rest))=(body6 x).1.length:=by
     unfold len6
     show 8 * (((body6 x).1.length:Int) / 8 % 256).toNat+6=_
     omega
    have hlen:(then6 next l::((body6 x).1.length:Int) / 8 % 256::((body6 x).1++t++rest)).length=2+((body6 x).1.length+t.length+rest.length):=by simp; omega
    have hbody:((then6 next l::((body6 x).1.length:Int) / 8 % 256::((body6 x).1++t++rest)).drop 2).take (body6 x).1.length=(body6 x).1:=by
     show ((body6 x).1++t++rest).take _=_
     rw [List.append_assoc,List.take_left]
    have hrest:(then6 next l::((body6 x).1.length:Int) / 8 % 256::((body6 x).1++t++rest)).drop (2+(body6 x).1.length)=t++rest:=by
     rw [←List.drop_drop]
     show ((body6 x).1++t++rest).drop _=_
     rw [List.append_assoc,List.drop_left]
    have hget:getI (then6 next l::((body6 x).1.length:Int) / 8 % 256::((body6 x).1++t++rest)) 0=then6 next l:=rfl
    have e8:exts++x::l=exts++[x]++l:=by simp
    rw [Nat.add_sub_cancel] at h4
    rw [show f+1 - (x::l).length=f - l.length by simp,e8,←h4]
    rw [walk6,if_neg (by rcases k5 with k | k <;> omega),if_neg (by rcases k5 with k | k <;> omega),if_neg (by
     intro hx; exact h1 hx),if_neg (by omega),hll,hlen,if_neg (by omega),if_neg (by omega),hbody,hrest,hget]
    obtain ⟨xk,xo,xd⟩:=x
    rcases k5 with ⟨k5,k6,k7⟩ | ⟨k5,k6,k7⟩
    ·rw [if_neg (by rw [k5]; decide),k7]
     dsimp only at k6
     subst k6
     rfl
    ·rw [if_pos k5,k7]
     dsimp only at k6
     subst k6
     rfl
def ip6Parse (b:List Int):Ip6 × Int:=
 if b.length > 65535 then (Ip6.z,2) else if b.length<40 then (Ip6.z,70) else if fld b 0 4≠6 then (Ip6.z,71)
 else if fld b 32 16 >(b.length:Int) - 40 then (Ip6.z,70)
 else if (walk6 9 true [] (fld b 48 8) ((b.drop 40).take (fld b 32 16).toNat)).2≠0 then (Ip6.z,(walk6 9 true [] (fld b 48 8) ((b.drop 40).take (fld b 32 16).toNat)).2)
 else (⟨fld b 4 8,fld b 12 20,fld b 56 8,⟨6,(b.take 24).drop 8⟩,⟨6,(b.take 40).drop 24⟩,(walk6 9 true [] (fld b 48 8) ((b.drop 40).take (fld b 32 16).toNat)).1.exts,(walk6 9 true [] (fld b 48 8) ((b.drop 40).take (fld b 32 16).toNat)).1.frag,
  (walk6 9 true [] (fld b 48 8) ((b.drop 40).take (fld b 32 16).toNat)).1.next,(walk6 9 true [] (fld b 48 8) ((b.drop 40).take (fld b 32 16).toNat)).1.data⟩,0)
theorem made6_ok {h:Ip6} (c:(made6 h).2=0):sized6 h=0∧(exts6 h).2=0∧fragged6 h=0∧40+((exts6 h).1++fragB h).length+h.data.length≤65535∧(made6 h).1=ip6B h:=by
 unfold made6 at c ⊢
 split at c
 ·rename_i h1; exact absurd c h1
 ·rename_i h1
  rw [if_neg h1]
  split at c
  ·rename_i h2; exact absurd c h2
  ·rename_i h2
   rw [if_neg h2]
   split at c
   ·rename_i h3; exact absurd c h3
   ·rename_i h3
    rw [if_neg h3]
    split at c
    ·cases c
    ·rename_i h4
     rw [if_neg h4]
     exact ⟨Decidable.not_not.1 h1,Decidable.not_not.1 h2,Decidable.not_not.1 h3,by omega,rfl⟩
theorem sized6_ok {h:Ip6} (c:sized6 h=0):h.src.v=6∧h.dst.v=6∧0≤h.cls∧h.cls≤255∧0≤h.flow∧h.flow<1048576∧0≤h.hop∧h.hop≤255∧0≤h.next∧h.next≤255:=by
 unfold sized6 at c
 split at c
 ·cases c
 ·rename_i h1
  refine ⟨by omega,by omega,by omega,by omega,by omega,by omega,by omega,by omega,by omega,by omega⟩
theorem fragB_fld {h:Ip6} (c:sized6 h=0) (c2:fragged6 h=0) (hh:h.frag.has=true) (q:List Int) :
  fld (fragB h++q) 0 8=h.next∧fld (fragB h++q) 16 13=h.frag.off / 8∧fld (fragB h++q) 31 1=b2i h.frag.more∧fld (fragB h++q) 32 32=h.frag.id∧(fragB h).length=8∧0≤h.frag.off∧h.frag.off % 8=0∧fits6 h.frag h.data.length=true:=by
 have hz:=sized6_ok c
 unfold fragged6 at c2
 rw [if_neg (by rw [hh]; decide)] at c2
 split at c2
 ·cases c2
 ·rename_i h1
  have hb:=b2i_r h.frag.more
  have hf:flds (mkB 8 (allB (fragPs h))) 0 [8,8,13,2,1,32]=[h.next,0,h.frag.off / 8,0,b2i h.frag.more,h.frag.id]:=
   flds_pack (ps:=fragPs h) (k:=8) (fun p hp=>by
    unfold fragPs at hp
    simp only [List.mem_cons,List.mem_nil_iff,or_false] at hp
    rcases hp with rfl | rfl | rfl | rfl | rfl | rfl <;> simp <;> omega) rfl
  have e:fragB h=mkB 8 (allB (fragPs h)):=by unfold fragB; rw [if_pos hh]
  simp only [flds,List.cons.injEq,Nat.zero_add,Nat.reduceAdd] at hf
  obtain ⟨f0,f1,f2,f3,f4,f5,_⟩:=hf
  rw [e,fld_app (by rw [mkB_len]; omega),fld_app (by rw [mkB_len]; omega),fld_app (by rw [mkB_len]; omega),fld_app (by rw [mkB_len]; omega)]
  refine ⟨f0,f2,f4,f5,mkB_len _ _,by omega,by omega,?_⟩
  cases hfit:fits6 h.frag h.data.length with
  | true=>rfl
  | false=>exact absurd (.inr (.inr (.inr (.inr (.inr hfit))))) h1
theorem walk6_end {h:Ip6} (c:sized6 h=0) (c2:fragged6 h=0) (f:Nat) (g:Bool) (exts:List Ext):walk6 (f+1) g exts (next6 h) (fragB h++h.data)=(⟨exts,h.frag,h.next,h.data⟩,0):=by
 cases hh:h.frag.has with
 | false=>
  have e1:next6 h=h.next:=by unfold next6; rw [if_neg (by rw [hh]; decide)]
  have e2:fragB h=[]:=by unfold fragB; rw [if_neg (by rw [hh]; decide)]
  unfold fragged6 at c2
  rw [if_pos hh] at c2
  split at c2
  ·cases c2
  ·rename_i h1
   split at c2
   ·cases c2
   ·rename_i h2
    rw [e1,e2,walk6,if_pos (Decidable.not_not.1 h2),Decidable.not_not.1 h1]
    rfl
 | true=>
  have e1:next6 h=44:=by unfold next6; rw [if_pos hh]
  obtain ⟨f0,f1,f2,f3,f4,f5,f6,f7⟩:=fragB_fld c c2 hh h.data
  rw [e1,walk6,if_neg (by decide),if_pos (by decide)]
  unfold piece6
  have hl:(fragB h++h.data).length=8+h.data.length:=by rw [List.length_append,f4]
  have hd:(fragB h++h.data).drop 8=h.data:=List.drop_left' f4
  have e3:(⟨true,fld (fragB h++h.data) 31 1 == 1,fld (fragB h++h.data) 32 32,8 * fld (fragB h++h.data) 16 13⟩ : Frag)=h.frag:=by
   rw [f1,f2,f3,b2i_eq,show 8 * (h.frag.off / 8)=h.frag.off by omega,←hh]
  have e4:((fragB h++h.data).length:Int) - 8=h.data.length:=by omega
  rw [e3,e4,f7,if_neg (by omega),if_neg (by decide),f0,hd]
theorem first6_r {h:Ip6} (c:sized6 h=0) (c1:(exts6 h).2=0):0≤first6 h∧first6 h≤255:=by
 have hz:=sized6_ok c
 unfold first6
 unfold exts6 at c1
 split at c1
 ·cases c1
 ·match hx:h.exts with
  | []=>
   show 0≤next6 h∧next6 h≤255
   unfold next6; split <;> omega
  | x::l=>
   rw [hx,heads6] at c1
   split at c1
   ·cases c1
   ·split at c1
    ·rename_i h2; exact absurd c1 h2
    ·rename_i h2
     have:=body6_ok (Decidable.not_not.1 h2)
     exact ⟨this.1,this.2.1⟩
theorem ip6B_fld {h:Ip6} (c:(made6 h).2=0) (q:List Int) :
  fld (ip6B h++q) 0 4=6∧fld (ip6B h++q) 4 8=h.cls∧fld (ip6B h++q) 12 20=h.flow∧fld (ip6B h++q) 32 16=(((exts6 h).1++fragB h).length:Int)+(h.data.length:Int)∧fld (ip6B h++q) 48 8=first6 h∧fld (ip6B h++q) 56 8=h.hop:=by
 obtain ⟨h1,h2,h3,h4,h5⟩:=made6_ok c
 have hz:=sized6_ok h1
 have hf6:=first6_r h1 h2
 have h4':=h4
 rw [List.length_append] at h4'
 have hf:flds (mkB 8 (allB (ip6Ps h))) 0 [4,8,20,16,8,8]=[6,h.cls,h.flow,(((exts6 h).1++fragB h).length:Int)+(h.data.length:Int),first6 h,h.hop]:=
  flds_pack (ps:=ip6Ps h) (k:=8) (fun p hp=>by
   unfold ip6Ps at hp
   simp only [List.mem_cons,List.mem_nil_iff,or_false] at hp
   rcases hp with rfl | rfl | rfl | rfl | rfl | rfl <;> simp <;> omega) rfl
 simp only [flds,List.cons.injEq,Nat.zero_add,Nat.reduceAdd] at hf
 obtain ⟨f0,f1,f2,f3,f4,f5,_⟩:=hf
 unfold ip6B
 rw [List.append_assoc,fld_app (by rw [mkB_len]; omega),fld_app (by rw [mkB_len]; omega),fld_app (by rw [mkB_len]; omega),fld_app (by rw [mkB_len]; omega),fld_app (by rw [mkB_len]; omega),fld_app (by rw [mkB_len]; omega)]
 exact ⟨f0,f1,f2,f3,f4,f5⟩
theorem ip6_round {h:Ip6} (hs:h.src.Ok) (hd:h.dst.Ok) (c:(made6 h).2=0) (q:List Int) (hq:(made6 h).1.length+q.length≤65535):ip6Parse ((made6 h).1++q)=(h,0):=by
 obtain ⟨h1,h2,h3,h4,h5⟩:=made6_ok c
 rw [h5] at hq ⊢
 have hz:=sized6_ok h1
 obtain ⟨f0,f1,f2,f3,f4,f5⟩:=ip6B_fld c q
 have l1:=hs.1
 have l2:=hd.1
 have hE:∃ cc,exts6 h=(cc,0):=⟨(exts6 h).1,by rw [←h2]⟩
 obtain ⟨cc,hE⟩:=hE
 have hE1:(exts6 h).1=cc:=by rw [hE]
 have hn:0≤next6 h∧next6 h≤255:=by unfold next6; split <;> omega
 have hw:walk6 9 true [] (first6 h) (cc++fragB h++h.data)=(⟨h.exts,h.frag,h.next,h.data⟩,0):=by
  have hE':=hE
  unfold exts6 at hE'
  split at hE'
  ·injection hE' with _ hx; cases hx
  ·rename_i hl
   obtain ⟨t,g,g1,g2⟩:=walk6_heads hn h.exts true [] 9 [] cc (fragB h++h.data) hE' (by simp; omega) (by omega)
   rw [List.nil_append] at g1
   subst g1
   rw [List.append_assoc]
   refine g2.trans ?_
   obtain ⟨f,hf⟩ : ∃ f,9 - h.exts.length=f+1:=⟨8 - h.exts.length,by omega⟩
   rw [hf,walk6_end h1 h3,List.nil_append]
 have hH:(mkB 8 (allB (ip6Ps h))).length=8:=mkB_len _ _
 have hlen:(ip6B h).length=40+((exts6 h).1++fragB h).length+h.data.length:=by
  unfold ip6B
  rw [List.length_append,List.length_append,List.length_append,List.length_append,hH,l1,l2]
  omega
 have hsplit:ip6B h++q=mkB 8 (allB (ip6Ps h))++(h.src.a++(h.dst.a++(cc++fragB h++h.data++q))):=by
  unfold ip6B
  rw [hE1]
  simp only [List.append_assoc]
 have e40:(ip6B h++q).drop 40=cc++fragB h++h.data++q:=by
  rw [hsplit,←List.append_assoc,←List.append_assoc,List.drop_left' (by rw [List.length_append,List.length_append,hH,l1,l2])]
 have e24:(((ip6B h++q).take 24).drop 8)=h.src.a:=by
  rw [hsplit,←List.append_assoc,List.take_left' (by rw [List.length_append,hH,l1]),List.drop_left' hH]
 have e41:(((ip6B h++q).take 40).drop 24)=h.dst.a:=by
  rw [hsplit,←List.append_assoc,←List.append_assoc,List.take_left' (by rw [List.length_append,List.length_append,hH,l1,l2]),List.drop_left' (by rw [List.length_append,hH,l1])]
 have hL:(ip6B h++q).length=(ip6B h).length+q.length:=List.length_append
 have et:(cc++fragB h++h.data++q).take ((((exts6 h).1++fragB h).length:Int)+(h.data.length:Int)).toNat=cc++fragB h++h.data:=by
  have e:(cc++fragB h++h.data).length=(cc++fragB h).length+h.data.length:=List.length_append
  rw [hE1,List.take_left' (by omega)]
 have s1:(⟨6,h.src.a⟩ : Ip)=h.src:=by rw [←hz.1]
 have s2:(⟨6,h.dst.a⟩ : Ip)=h.dst:=by rw [←hz.2.1]
 unfold ip6Parse
 rw [f0,f1,f2,f3,f4,f5,e40,e24,e41,et,hw,if_neg (by omega),if_neg (by omega),if_neg (by decide),if_neg (by omega),if_neg (by simp),s1,s2]
def bare (f:Frm) (k:Int):Pkt:={ Pkt.z with dst:=f.dst,src:=f.src,tags:=f.tags,kind:=k }
def pparse (b:List Int):Pkt × Int:=
 if (linkParse b).2≠0 then (Pkt.z,(linkParse b).2)
 else if (linkParse b).1.type=2054 then (if (arpParse (linkParse b).1.data).2≠0 then (Pkt.z,(arpParse (linkParse b).1.data).2) else popen { bare (linkParse b).1 1 with arp:=(arpParse (linkParse b).1.data).1 })
 else if (linkParse b).1.type=2048 then (if (ip4Parse (linkParse b).1.data).2≠0 then (Pkt.z,(ip4Parse (linkParse b).1.data).2) else popen { bare (linkParse b).1 2 with ip4:=(ip4Parse (linkParse b).1.data).1 })
 else if (linkParse b).1.type=34525 then (if (ip6Parse (linkParse b).1.data).2≠0 then (Pkt.z,(ip6Parse (linkParse b).1.data).2) else popen { bare (linkParse b).1 3 with ip6:=(ip6Parse (linkParse b).1.data).1 })
 else (Pkt.z,100)
theorem alone_of {p:Pkt} (h:p=alone p):(p.kind≠1→p.arp=Arp.z)∧(p.kind≠2→p.ip4=Ip4.z)∧(p.kind≠3→p.ip6=Ip6.z)∧(p.l4≠1→p.icmp=Icmp.z)∧(p.l4≠2→p.udp=Udp.z)∧(p.l4≠3→p.tcp=Tcp.z):=by
 refine ⟨fun hx=>?_,fun hx=>?_,fun hx=>?_,fun hx=>?_,fun hx=>?_,fun hx=>?_⟩
 ·rw [show p.arp=(alone p).arp from congrArg Pkt.arp h]
  show (if p.kind=1 then p.arp else Arp.z)=_
  rw [if_neg hx]
 ·rw [show p.ip4=(alone p).ip4 from congrArg Pkt.ip4 h]
  show (if p.kind=2 then p.ip4 else Ip4.z)=_
  rw [if_neg hx]
 ·rw [show p.ip6=(alone p).ip6 from congrArg Pkt.ip6 h]
  show (if p.kind=3 then p.ip6 else Ip6.z)=_
  rw [if_neg hx]
 ·rw [show p.icmp=(alone p).icmp from congrArg Pkt.icmp h]
  show (if p.l4=1 then p.icmp else Icmp.z)=_
  rw [if_neg hx]
 ·rw [show p.udp=(alone p).udp from congrArg Pkt.udp h]
  show (if p.l4=2 then p.udp else Udp.z)=_
  rw [if_neg hx]
 ·rw [show p.tcp=(alone p).tcp from congrArg Pkt.tcp h]
  show (if p.l4=3 then p.tcp else Tcp.z)=_
  rw [if_neg hx]
theorem open_inner {p:Pkt} (ok:p.Ok) (hm:(pmade p).2=0) (hk:p.kind≠1):popen { (with_ p (above p).1) with l4:=0,icmp:=Icmp.z,udp:=Udp.z,tcp:=Tcp.z }=(p,0):=by
 obtain ⟨q1,q2,q3,q4,q5⟩:=pmade_ok hm
 obtain ⟨h1,h2,h3,h4,h5,h6,h7⟩:=mixed_ok q2
 obtain ⟨z1,z2,z3,z4,z5,z6⟩:=alone_of h5
 by_cases h0:p.l4=0
 ·have e:({ (with_ p (above p).1) with l4:=0,icmp:=Icmp.z,udp:=Udp.z,tcp:=Tcp.z }:Pkt)=p:=by
   have e1:above p=(dataOf p,0):=by unfold above; rw [if_neg (by omega),if_neg (by omega),if_neg (by omega)]
   have e2:with_ p (dataOf p)=p:=by unfold with_ dataOf; split <;> rfl
   rw [e1,e2]
   have:=z4 (by omega); have:=z5 (by omega); have:=z6 (by omega)
   obtain ⟨a1,a2,a3,k,a5,i4,i6,l,m,u,t⟩:=p
   dsimp only at *
   subst_vars
   rfl
  rw [e]
  exact open_self q2
 ·have hc:(pclose p)=(shut p (above p).1,0):=by
   unfold pclose
   rw [if_neg (by simpa using hm),if_neg h0,if_neg (by rw [(inner_ok hk q3).2.2.1]; decide)]
  have:=(open_close ok (by rw [hc])).1
  rw [hc] at this
  exact this
theorem back {p:Pkt} (ok:p.Ok) (h:(pser p).2=0):pparse (pser p).1=(p,0):=by
 unfold pser at h ⊢
 by_cases hm:(pmade p).2=0
 ·rw [if_neg (by simpa using hm)]
  obtain ⟨q1,q2,q3,q4,q5⟩:=pmade_ok hm
  obtain ⟨h1,h2,h3,h4,h5,h6,h7⟩:=mixed_ok q2
  obtain ⟨z1,z2,z3,z4,z5,z6⟩:=alone_of h5
  have hlen:=linkB_len (frameOf p (typeOf p.kind) (inner p).1) ok.src.1 ok.dst.1
  have hck:=(linkCheck_ok q4).2.2.2.2
  have hpad:(pmade p).1.length+(List.replicate (60 - (pmade p).1.length) (0:Int)).length≤65535:=by rw [List.length_replicate,q5]; omega
  show pparse (padF (pmade p).1)=_
  unfold padF
  generalize List.replicate (60 - (pmade p).1.length) (0:Int)=q at hpad ⊢
  rw [q5] at hpad ⊢
  have hr:=link_round (f:=frameOf p (typeOf p.kind) (inner p).1) ok.src.1 ok.dst.1 q4 q hpad
  have hin:(inner p).1.length+q.length≤65535:=by
   rw [hlen] at hpad
   change 14+4 * p.tags.length+(inner p).1.length+q.length≤65535 at hpad
   omega
  unfold pparse
  rw [hr,if_neg (by simp)]
  obtain hk | hk | hk:p.kind=1∨p.kind=2∨p.kind=3:=by omega
  ·have hl0:p.l4=0:=by rw [h6]; unfold layer; rw [if_pos (.inl hk)]
   have hi:inner p=arpPut p.arp:=by unfold inner; rw [if_pos hk]
   rw [hi] at q3 hin
   have ha:=arp_round ok.smac.1 ok.tmac.1 ok.sip ok.tip q3 q hin
   show (if typeOf p.kind=2054 then _ else _)=_
   rw [if_pos (by rw [hk]; rfl),hi]
   change (if (arpParse ((arpPut p.arp).1++q)).2≠0 then (Pkt.z,(arpParse ((arpPut p.arp).1++q)).2) else popen { bare _ 1 with arp:=(arpParse ((arpPut p.arp).1++q)).1 })=_
   rw [ha,if_neg (by simp)]
   have e:({ bare { frameOf p (typeOf p.kind) (arpPut p.arp).1 with data:=(arpPut p.arp).1++q } 1 with arp:=(p.arp,(0:Int)).1 }:Pkt)=p:=by
    have:=z2 (by omega); have:=z3 (by omega); have:=z4 (by omega); have:=z5 (by omega); have:=z6 (by omega)
    clear q1 q2 q3 q4 q5 h1 h2 h3 h4 h5 h6 h7 z1 z2 z3 z4 z5 z6 ok hlen hck hpad hr hin hi ha h hm
    obtain ⟨a1,a2,a3,k,a5,i4,i6,l,m,u,t⟩:=p
    dsimp only at *
    subst_vars
    rfl
   exact (congrArg popen e).trans (open_self q2)
  ·have hko:=inner_ok (by omega) q3
   rw [if_pos hk] at hko
   have hi:=hko.2.2.2
   have e4:(with_ p (above p).1).ip4={ p.ip4 with data:=(above p).1 }:=by unfold with_; rw [if_pos hk]
   rw [hi] at q3 hin
   rw [e4] at q3 hin hi
   have ha:=ip4_round (h:={ p.ip4 with data:=(above p).1 }) ok.s4 ok.d4 ok.o4 q3 q hin
   show (if typeOf p.kind=2054 then _ else if typeOf p.kind=2048 then _ else _)=_
   rw [if_neg (by rw [hk]; decide),if_pos (by rw [hk]; rfl),hi]
   change (if (ip4Parse ((ip4Put { p.ip4 with data:=(above p).1 }).1++q)).2≠0 then (Pkt.z,(ip4Parse ((ip4Put { p.ip4 with data:=(above p).1 }).1++q)).2) else popen { bare _ 2 with ip4:=(ip4Parse ((ip4Put { p.ip4 with data:=(above p).1 }).1++q)).1 })=_
   rw [ha,if_neg (by simp)]
   refine Eq.trans (congrArg popen ?_) (open_inner ok hm (by omega))
   have:=z1 (by omega); have:=z3 (by omega)
   unfold with_
   rw [if_pos hk]
   generalize (above p).1=ab
   generalize ip4Put { p.ip4 with data:=ab }=iv
   clear q1 q2 q3 q4 q5 h1 h2 h3 h4 h5 h6 h7 z1 z2 z3 z4 z5 z6 ok hlen hck hpad hr hin hi ha h hm hko e4
   obtain ⟨a1,a2,a3,k,a5,i4,i6,l,m,u,t⟩:=p
   dsimp only at *
   subst_vars
   rfl
  ·have hko:=inner_ok (by omega) q3
   rw [if_neg (by omega)] at hko
   have hi:=hko.2.2.2
   have e4:(with_ p (above p).1).ip6={ p.ip6 with data:=(above p).1 }:=by unfold with_; rw [if_neg (by omega)]
   rw [hi] at q3 hin
   rw [e4] at q3 hin hi
   have ha:=ip6_round (h:={ p.ip6 with data:=(above p).1 }) ok.s6 ok.d6 q3 q hin
   show (if typeOf p.kind=2054 then _ else if typeOf p.kind=2048 then _ else if typeOf p.kind=34525 then _ else _)=_
   rw [if_neg (by rw [hk]; decide),if_neg (by rw [hk]; decide),if_pos (by rw [hk]; rfl),hi]
   change (if (ip6Parse ((made6 { p.ip6 with data:=(above p).1 }).1++q)).2≠0 then (Pkt.z,(ip6Parse ((made6 { p.ip6 with data:=(above p).1 }).1++q)).2) else popen { bare _ 3 with ip6:=(ip6Parse ((made6 { p.ip6 with data:=(above p).1 }).1++q)).1 })=_
   rw [ha,if_neg (by simp)]
   refine Eq.trans (congrArg popen ?_) (open_inner ok hm (by omega))
   have:=z1 (by omega); have:=z2 (by omega)
   unfold with_
   rw [if_neg (by omega)]
   generalize (above p).1=ab
   generalize made6 { p.ip6 with data:=ab }=iv
   clear q1 q2 q3 q4 q5 h1 h2 h3 h4 h5 h6 h7 z1 z2 z3 z4 z5 z6 ok hlen hck hpad hr hin hi ha h hm hko e4
   obtain ⟨a1,a2,a3,k,a5,i4,i6,l,m,u,t⟩:=p
   dsimp only at *
   subst_vars
   rfl
 ·rw [if_pos (by simpa using hm)] at h
  exact absurd h hm
end Go.Proofs.YtlmnjnhmhacgkaaGreatDoor.Am
end
