/-
  A packet with another tuple, plainly; copies; what the law on rewriting computes.
-/
import Derived.Test.YtlmnjnhmhacgkaaDoorPkI
section
set_option linter.unusedVariables false
set_option linter.unusedSimpArgs false
set_option maxRecDepth 100000
namespace Go.Proofs.YtlmnjnhmhacgkaaDoor.Am
open Go Go.Am Go.Proofs
def vld (ip:Ip):Prop:=ip.v=6∨(ip.v=4∧ip.a=a4 ip.a)
instance (ip:Ip):Decidable (vld ip):=by unfold vld; infer_instance
def isTup (x:Tup):Prop:=vld x.src∧vld x.dst∧x.src.v=x.dst.v∧0≤x.sport∧x.sport≤65535∧0≤x.dport∧x.dport≤65535
instance (x:Tup):Decidable (isTup x):=by unfold isTup; infer_instance
def ansT (t:Int):Prop:=t=0∨t=129
instance (t:Int):Decidable (ansT t):=by unfold ansT; infer_instance
def setA (p:Pkt) (s d:Ip):Pkt:=if p.kind=2 then { p with ip4:={ p.ip4 with src:=s,dst:=d } } else { p with ip6:={ p.ip6 with src:=s,dst:=d } }
def setP (p:Pkt) (sp dp:Int):Pkt:=
 if p.l4=2 then { p with udp:={ p.udp with sport:=sp,dport:=dp } } else if p.l4=3 then { p with tcp:={ p.tcp with sport:=sp,dport:=dp } }
 else { p with icmp:={ p.icmp with rest:=(if ansT p.icmp.type then dp else sp) * 65536+p.icmp.rest % 65536 } }
def setT (p:Pkt) (x:Tup):Pkt:=setP (setA p x.src x.dst) x.sport x.dport
def May (p:Pkt) (x:Tup):Prop:=(pmade p).2=0∧(tuple p).2=true∧isTup x∧x.proto=(tuple p).1.proto∧x.src.v=(tuple p).1.src.v∧(p.l4=1→(if ansT p.icmp.type then x.sport else x.dport)=0)
instance (p:Pkt) (x:Tup):Decidable (May p x):=by unfold May; infer_instance
def rewr (p:Pkt) (x:Tup):Pkt × Int:=if May p x then (setT p x,0) else (Pkt.z,176)
theorem half_eq {r:Int} (h1:0≤r) (h2:r≤4294967295):half r=r / 65536:=by
 unfold half
 rw [hi16 h1,low16 (by omega) (by omega)]
 omega
theorem linkCheck_of {f:Frm} (h1:¬ group f.src) (h2:tagsOk f.tags) (h3:∀ t∈f.tags,tagOk t) (h4:typeOk f.type) (h5:14+4 * f.tags.length+f.data.length≤65535):linkCheck f=0:=by
 unfold linkCheck
 rw [if_neg h1,if_neg (fun h=>h h2),if_neg (fun h=>h h3),if_neg (fun h=>h h4),if_neg (by omega)]
theorem ip4Check_of {h:Ip4} (h1:¬ ip4Out h) (h2:(ip4Opts h.opts).2=0) (h3:20+(ip4Opts h.opts).1.length+h.data.length≤65535) (h4:frag4 h.mf h.off h.data.length=0):ip4Check h=0:=by
 unfold ip4Check
 rw [if_neg h1,if_neg (by simpa using h2),if_neg (by omega),h4]
theorem ip4Check_ok' {h:Ip4} (c:ip4Check h=0):¬ ip4Out h∧(ip4Opts h.opts).2=0∧20+(ip4Opts h.opts).1.length+h.data.length≤65535∧frag4 h.mf h.off h.data.length=0:=by
 unfold ip4Check at c
 split at c
 ·cases c
 ·rename_i c1
  split at c
  ·rename_i c2; exact absurd c c2
  ·rename_i c2
   split at c
   ·cases c
   ·exact ⟨c1,Decidable.not_not.1 c2,by omega,c⟩
theorem made6_of {h:Ip6} (c1:sized6 h=0) (c2:(exts6 h).2=0) (c3:fragged6 h=0) (c4:40+((exts6 h).1++fragB h).length+h.data.length≤65535):made6 h=(ip6B h,0):=by
 unfold made6
 rw [if_neg (by simpa using c1),if_neg (by simpa using c2),if_neg (by simpa using c3),if_neg (by omega)]
theorem above1 {p:Pkt} (h:p.l4=1):above p=icmpPut (endsOf p).src (endsOf p).dst p.icmp∧checkAbove p=icmpCheck p.icmp:=by
 constructor
 ·unfold above; rw [if_pos h]
 ·unfold checkAbove; rw [if_pos h]
theorem above2 {p:Pkt} (h:p.l4=2):above p=udpPut (endsOf p).src (endsOf p).dst p.udp∧checkAbove p=udpCheck (endsOf p).v p.udp:=by
 constructor
 ·unfold above; rw [if_neg (by omega),if_pos h]
 ·unfold checkAbove; rw [if_neg (by omega),if_pos h]
theorem above3 {p:Pkt} (h:p.l4=3):above p=tcpPut (endsOf p).src (endsOf p).dst p.tcp∧checkAbove p=tcpCheck p.tcp:=by
 constructor
 ·unfold above; rw [if_neg (by omega),if_neg (by omega),if_pos h]
 ·unfold checkAbove; rw [if_neg (by omega),if_neg (by omega),if_pos h]
theorem not_mixed {p:Pkt} (h1:1≤p.kind∧p.kind≤3) (h2:0≤p.l4∧p.l4≤3) (h3:p=alone p) (h4:p.l4=layer p) (h5:p.l4≠0→dataOf p=[]∧(p.l4=1→p.icmp.v=(endsOf p).v)):¬ mixed p:=by
 unfold mixed
 rintro (x | x | x | ⟨x,y | ⟨y,z⟩⟩)
 ·omega
 ·exact x h3
 ·exact x h4
 ·exact y (h5 x).1
 ·exact z ((h5 x).2 y)
theorem fit_of {s d:Ip} (h1:vld s) (h2:vld d) (h3:s.v=d.v):(pseudo s d 0 0).2=0:=by
 have hv:∀ ip:Ip,vld ip→version ip=ip.v∧(ip.v=4∨ip.v=6):=fun ip h=>by
  unfold version
  rcases h with h | ⟨h,h'⟩
  ·rw [if_pos h]; exact ⟨h.symm,.inr h⟩
  ·rw [if_neg (by omega),if_neg (by omega),if_pos h']; exact ⟨h.symm,.inl h⟩
 unfold pseudo
 rw [(hv s h1).1,(hv d h2).1,if_neg (by have:=(hv s h1).2; omega),if_neg (by omega)]
theorem setP_k (p:Pkt) (a b:Int):(setP p a b).kind=p.kind∧(setP p a b).l4=p.l4∧(setP p a b).dst=p.dst∧(setP p a b).src=p.src∧(setP p a b).tags=p.tags∧(setP p a b).ip4=p.ip4∧(setP p a b).ip6=p.ip6:=by
 unfold setP
 split
 ·exact ⟨rfl,rfl,rfl,rfl,rfl,rfl,rfl⟩
 ·split <;> exact ⟨rfl,rfl,rfl,rfl,rfl,rfl,rfl⟩
theorem setA_k (p:Pkt) (s d:Ip):(setA p s d).kind=p.kind∧(setA p s d).l4=p.l4∧(setA p s d).dst=p.dst∧(setA p s d).src=p.src∧(setA p s d).tags=p.tags∧(setA p s d).icmp=p.icmp∧(setA p s d).udp=p.udp∧(setA p s d).tcp=p.tcp:=by
 unfold setA
 split <;> exact ⟨rfl,rfl,rfl,rfl,rfl,rfl,rfl,rfl⟩
theorem setT_k (p:Pkt) (x:Tup):(setT p x).kind=p.kind∧(setT p x).l4=p.l4∧(setT p x).dst=p.dst∧(setT p x).src=p.src∧(setT p x).tags=p.tags:=by
 obtain ⟨a1,a2,a3,a4,a5,_⟩:=setP_k (setA p x.src x.dst) x.sport x.dport
 obtain ⟨b1,b2,b3,b4,b5,_⟩:=setA_k p x.src x.dst
 exact ⟨a1.trans b1,a2.trans b2,a3.trans b3,a4.trans b4,a5.trans b5⟩
theorem ends_setT (p:Pkt) (x:Tup):endsOf (setT p x)={ endsOf p with src:=x.src,dst:=x.dst }:=by
 have h:=setP_k (setA p x.src x.dst) x.sport x.dport
 unfold setT endsOf
 rw [h.1,h.2.2.2.2.2.1,h.2.2.2.2.2.2,(setA_k p x.src x.dst).1]
 by_cases hk:p.kind=2
 ·have e:setA p x.src x.dst={ p with ip4:={ p.ip4 with src:=x.src,dst:=x.dst } }:=by unfold setA; rw [if_pos hk]
  rw [e,if_pos hk,if_pos hk]
 ·have e:setA p x.src x.dst={ p with ip6:={ p.ip6 with src:=x.src,dst:=x.dst } }:=by unfold setA; rw [if_neg hk]
  rw [e,if_neg hk,if_neg hk]
theorem layer_setT (p:Pkt) (x:Tup):layer (setT p x)=layer p:=by
 unfold layer
 rw [ends_setT,(setT_k p x).1]
theorem data_setT (p:Pkt) (x:Tup):dataOf (setT p x)=dataOf p:=by
 have h:=setP_k (setA p x.src x.dst) x.sport x.dport
 unfold setT dataOf
 rw [h.1,h.2.2.2.2.2.1,h.2.2.2.2.2.2,(setA_k p x.src x.dst).1]
 by_cases hk:p.kind=2
 ·have e:setA p x.src x.dst={ p with ip4:={ p.ip4 with src:=x.src,dst:=x.dst } }:=by unfold setA; rw [if_pos hk]
  rw [e,if_pos hk]
 ·have e:setA p x.src x.dst={ p with ip6:={ p.ip6 with src:=x.src,dst:=x.dst } }:=by unfold setA; rw [if_neg hk]
  rw [e,if_neg hk]
theorem ip4_setT {p:Pkt} (x:Tup) (hk:p.kind=2):(setT p x).ip4={ p.ip4 with src:=x.src,dst:=x.dst }:=by
 have h:=setP_k (setA p x.src x.dst) x.sport x.dport
 unfold setT
 rw [h.2.2.2.2.2.1]
 unfold setA
 rw [if_pos hk]
theorem ip6_setT {p:Pkt} (x:Tup) (hk:p.kind≠2):(setT p x).ip6={ p.ip6 with src:=x.src,dst:=x.dst }:=by
 have h:=setP_k (setA p x.src x.dst) x.sport x.dport
 unfold setT
 rw [h.2.2.2.2.2.2]
 unfold setA
 rw [if_neg hk]
theorem udp_setT {p:Pkt} (x:Tup) (hl:p.l4=2):(setT p x).udp={ p.udp with sport:=x.sport,dport:=x.dport }:=by
 obtain ⟨b1,b2,b3,b4,b5,b6,b7,b8⟩:=setA_k p x.src x.dst
 unfold setT setP
 rw [if_pos (by rw [b2]; exact hl)]
 show ({ (setA p x.src x.dst).udp with sport:=x.sport,dport:=x.dport }:Udp)=_
 rw [b7]
theorem tcp_setT {p:Pkt} (x:Tup) (hl:p.l4=3):(setT p x).tcp={ p.tcp with sport:=x.sport,dport:=x.dport }:=by
 obtain ⟨b1,b2,b3,b4,b5,b6,b7,b8⟩:=setA_k p x.src x.dst
 unfold setT setP
 rw [if_neg (by rw [b2]; omega),if_pos (by rw [b2]; exact hl)]
 show ({ (setA p x.src x.dst).tcp with sport:=x.sport,dport:=x.dport }:Tcp)=_
 rw [b8]
theorem icmp_setT {p:Pkt} (x:Tup) (hl:p.l4=1):(setT p x).icmp={ p.icmp with rest:=(if ansT p.icmp.type then x.dport else x.sport) * 65536+p.icmp.rest % 65536 }:=by
 obtain ⟨b1,b2,b3,b4,b5,b6,b7,b8⟩:=setA_k p x.src x.dst
 unfold setT setP
 rw [if_neg (by rw [b2]; omega),if_neg (by rw [b2]; omega)]
 show ({ (setA p x.src x.dst).icmp with rest:=(if ansT (setA p x.src x.dst).icmp.type then x.dport else x.sport) * 65536+(setA p x.src x.dst).icmp.rest % 65536 }:Icmp)=_
 rw [b6]
theorem tuple_3 {p:Pkt} (hk:p.kind=2∨p.kind=3) (hl:p.l4=3):tuple p=(⟨6,(endsOf p).src,(endsOf p).dst,p.tcp.sport,p.tcp.dport⟩,true):=by
 unfold tuple
 rw [if_neg (by omega)]
 dsimp only
 rw [if_pos hl]
theorem tuple_2 {p:Pkt} (hk:p.kind=2∨p.kind=3) (hl:p.l4=2):tuple p=(⟨17,(endsOf p).src,(endsOf p).dst,p.udp.sport,p.udp.dport⟩,true):=by
 unfold tuple
 rw [if_neg (by omega)]
 dsimp only
 rw [if_neg (by omega),if_pos hl]
def isEcho (v:Int) (m:Icmp):Prop:=m.code=0∧(if v=6 then m.type=128∨m.type=129 else m.type=8∨m.type=0)
instance (v:Int) (m:Icmp):Decidable (isEcho v m):=by unfold isEcho; infer_instance
theorem tuple_1 {p:Pkt} (hk:p.kind=2∨p.kind=3) (hl:p.l4=1):tuple p=if isEcho (endsOf p).v p.icmp then (⟨if (endsOf p).v=6 then 58 else 1,(endsOf p).src,(endsOf p).dst,if ansT p.icmp.type then 0 else half p.icmp.rest,if ansT p.icmp.type then half p.icmp.rest else 0⟩,true) else (Tup.z,false):=by
 unfold tuple
 rw [if_neg (by omega)]
 dsimp only
 rw [if_neg (by omega),if_neg (by omega),if_pos hl]
 by_cases hv:(endsOf p).v=6
 ·rw [if_pos hv,if_pos hv]
  have hE:isEcho (endsOf p).v p.icmp↔p.icmp.code=0∧(p.icmp.type=128∨p.icmp.type=129):=by unfold isEcho; rw [if_pos hv]
  unfold echo
  by_cases c:p.icmp.code=0
  ·rw [if_neg (show ¬ p.icmp.code≠0 from fun h=>h c)]
   by_cases t1:p.icmp.type=128
   ·have ha:¬ ansT p.icmp.type:=by unfold ansT; omega
    rw [if_pos t1,if_pos rfl,if_pos (hE.2 ⟨c,.inl t1⟩),if_neg ha,if_neg ha]
   ·rw [if_neg t1]
    by_cases t2:p.icmp.type=129
    ·have ha:ansT p.icmp.type:=.inr t2
     rw [if_pos t2,if_pos rfl,if_pos (hE.2 ⟨c,.inr t2⟩),if_pos ha,if_pos ha]
    ·rw [if_neg t2,if_neg (by decide),if_neg (fun h=>(hE.1 h).2.elim t1 t2)]
  ·rw [if_pos (show p.icmp.code≠0 from c),if_neg (by decide),if_neg (fun h=>c (hE.1 h).1)]
 ·rw [if_neg hv,if_neg hv]
  have hE:isEcho (endsOf p).v p.icmp↔p.icmp.code=0∧(p.icmp.type=8∨p.icmp.type=0):=by unfold isEcho; rw [if_neg hv]
  unfold echo
  by_cases c:p.icmp.code=0
  ·rw [if_neg (show ¬ p.icmp.code≠0 from fun h=>h c)]
   by_cases t1:p.icmp.type=8
   ·have ha:¬ ansT p.icmp.type:=by unfold ansT; omega
    rw [if_pos t1,if_pos rfl,if_pos (hE.2 ⟨c,.inl t1⟩),if_neg ha,if_neg ha]
   ·rw [if_neg t1]
    by_cases t2:p.icmp.type=0
    ·have ha:ansT p.icmp.type:=.inl t2
     rw [if_pos t2,if_pos rfl,if_pos (hE.2 ⟨c,.inr t2⟩),if_pos ha,if_pos ha]
    ·rw [if_neg t2,if_neg (by decide),if_neg (fun h=>(hE.1 h).2.elim t1 t2)]
  ·rw [if_pos (show p.icmp.code≠0 from c),if_neg (by decide),if_neg (fun h=>c (hE.1 h).1)]
theorem tuple_has {p:Pkt} (h:(tuple p).2=true):(p.kind=2∨p.kind=3)∧(p.l4=1∨p.l4=2∨p.l4=3)∧(tuple p).1.src=(endsOf p).src∧(tuple p).1.dst=(endsOf p).dst:=by
 by_cases hk:p.kind=2∨p.kind=3
 ·by_cases h3:p.l4=3
  ·rw [tuple_3 hk h3]; exact ⟨hk,.inr (.inr h3),rfl,rfl⟩
  by_cases h2:p.l4=2
  ·rw [tuple_2 hk h2]; exact ⟨hk,.inr (.inl h2),rfl,rfl⟩
  by_cases h1:p.l4=1
  ·rw [tuple_1 hk h1] at h ⊢
   by_cases he:isEcho (endsOf p).v p.icmp
   ·rw [if_pos he]; exact ⟨hk,.inl h1,rfl,rfl⟩
   ·rw [if_neg he] at h; cases h
  ·unfold tuple at h
   rw [if_neg (by omega)] at h
   dsimp only at h
   rw [if_neg h3,if_neg h2,if_neg h1] at h
   cases h
 ·unfold tuple at h
  rw [if_pos (by omega)] at h
  cases h
theorem udpCheck_set {v:Int} {u:Udp} {a b:Int} (h:udpCheck v u=0) (ha:0≤a∧a≤65535) (hb:0≤b∧b≤65535):udpCheck v { u with sport:=a,dport:=b }=0:=by
 obtain ⟨h1,_,_,_,_,h6,h7⟩:=udpCheck_ok h
 unfold udpCheck
 dsimp only
 rw [if_neg (by omega),if_neg,if_neg (by omega)]
 rintro (x | x | x)
 ·omega
 ·omega
 ·exact h6 x
theorem tcpCheck_set {t:Tcp} {a b:Int} (h:tcpCheck t=0) (ha:0≤a∧a≤65535) (hb:0≤b∧b≤65535):tcpCheck { t with sport:=a,dport:=b }=0:=by
 unfold tcpCheck at h ⊢
 split at h
 ·cases h
 ·rename_i h1
  rw [if_neg]
  ·exact h
  ·unfold tcpOut at h1 ⊢
   dsimp only
   omega
theorem udpPut_ok {s d:Ip} {u:Udp} (h1:(pseudo s d 0 0).2=0) (h2:udpCheck s.v u=0):udpPut s d u=(udpB s d u,0)∧(udpB s d u).length=8+u.data.length:=by
 constructor
 ·unfold udpPut
  rw [if_neg (by simpa using h1),if_neg (by simpa using h2)]
 ·rw [udpB_eq]
  split <;> rw [udpW_len]
theorem tcpPut_ok {s d:Ip} {t:Tcp} (h1:(pseudo s d 0 0).2=0) (h2:tcpCheck t=0):tcpPut s d t=(tcpB s d t,0):=by
 unfold tcpPut
 rw [if_neg (by simpa using h1),if_neg (by simpa using h2)]
theorem icmpPut_ok {s d:Ip} {m:Icmp} (h1:icmpCheck m=0) (h2:(pseudoI m.v s d (8+m.data.length)).2=0):icmpPut s d m=(icmpB s d m,0)∧(icmpB s d m).length=8+m.data.length:=by
 constructor
 ·unfold icmpPut
  rw [if_neg (by simpa using h1),if_neg (by simpa using h2)]
 ·rw [icmpB_eq]; simp; omega
theorem put_errs {s d:Ip} {u:Udp} (h:(udpPut s d u).2=0):(pseudo s d 0 0).2=0∧udpCheck s.v u=0:=by
 unfold udpPut at h
 split at h
 ·rename_i c; exact absurd h c
 ·rename_i c
  split at h
  ·rename_i c2; exact absurd h c2
  ·rename_i c2; exact ⟨Decidable.not_not.1 c,Decidable.not_not.1 c2⟩
theorem put_errt {s d:Ip} {t:Tcp} (h:(tcpPut s d t).2=0):(pseudo s d 0 0).2=0∧tcpCheck t=0:=by
 unfold tcpPut at h
 split at h
 ·rename_i c; exact absurd h c
 ·rename_i c
  split at h
  ·rename_i c2; exact absurd h c2
  ·rename_i c2; exact ⟨Decidable.not_not.1 c,Decidable.not_not.1 c2⟩
theorem put_erri {s d:Ip} {m:Icmp} (h:(icmpPut s d m).2=0):icmpCheck m=0∧(pseudoI m.v s d (8+m.data.length)).2=0:=by
 unfold icmpPut at h
 split at h
 ·rename_i c; exact absurd h c
 ·rename_i c
  split at h
  ·rename_i c2; exact absurd h c2
  ·rename_i c2; exact ⟨Decidable.not_not.1 c,Decidable.not_not.1 c2⟩
theorem ends_vld {p:Pkt} (hk:p.kind=2∨p.kind=3) (h:checkIP p=0):vld (endsOf p).src∧vld (endsOf p).dst∧(endsOf p).src.v=(endsOf p).dst.v∧(endsOf p).src.v=(endsOf p).v∧((endsOf p).src.v=4↔p.kind=2):=by
 unfold checkIP at h
 by_cases h2:p.kind=2
 ·rw [if_pos h2] at h
  obtain ⟨o,_⟩:=ip4Check_ok' h
  have e:endsOf p=⟨p.ip4.src,p.ip4.dst,4,p.ip4.proto,p.ip4.mf || decide (p.ip4.off > 0)⟩:=by unfold endsOf; rw [if_pos h2]
  have f1:four p.ip4.src:=Decidable.byContradiction fun hx=>o (by unfold ip4Out; exact .inr (.inr (.inr (.inr (.inr (.inr (.inr (.inr (.inr (.inr (.inr (.inl hx))))))))))))
  have f2:four p.ip4.dst:=Decidable.byContradiction fun hx=>o (by unfold ip4Out; exact .inr (.inr (.inr (.inr (.inr (.inr (.inr (.inr (.inr (.inr (.inr (.inr hx))))))))))))
  rw [e]
  exact ⟨.inr f1,.inr f2,f1.1.trans f2.1.symm,f1.1,⟨fun _=>h2,fun _=>f1.1⟩⟩
 ·rw [if_neg h2] at h
  obtain ⟨s1,s2,_⟩:=sized6_ok (made6_ok h).1
  have e:endsOf p=⟨p.ip6.src,p.ip6.dst,6,p.ip6.next,p.ip6.frag.has⟩:=by unfold endsOf; rw [if_neg h2]
  rw [e]
  exact ⟨.inl s1,.inl s2,s1.trans s2.symm,s1,⟨fun hx=>by have:(6:Int)=4:=s1.symm.trans hx; omega,fun hx=>absurd hx h2⟩⟩
theorem icmpRest_r {p:Pkt} {x:Tup} (h1:0≤x.sport∧x.sport≤65535) (h2:0≤x.dport∧x.dport≤65535):0≤(if ansT p.icmp.type then x.dport else x.sport) * 65536+p.icmp.rest % 65536∧(if ansT p.icmp.type then x.dport else x.sport) * 65536+p.icmp.rest % 65536≤4294967295:=by
 split <;> omega
theorem above_setT {p:Pkt} {x:Tup} (hl:p.l4=1∨p.l4=2∨p.l4=3) (hx:isTup x) (hv:x.src.v=(endsOf p).src.v) (hve:(endsOf p).src.v=(endsOf p).v) (hm:p.l4=1→p.icmp.v=(endsOf p).v) (c1:checkAbove p=0) (c2:(above p).2=0) :
  checkAbove (setT p x)=0∧(above (setT p x)).2=0∧(above (setT p x)).1.length=(above p).1.length:=by
 obtain ⟨x1,x2,x3,x4,x5,x6,x7⟩:=hx
 have hf:=fit_of x1 x2 x3
 have hk:=(setT_k p x).2.1
 rcases hl with hl | hl | hl
 ·obtain ⟨a1,a2⟩:=above1 hl
  have w1:=above1 (p:=setT p x) (by rw [hk]; exact hl)
  rw [ends_setT,icmp_setT x hl] at w1
  rw [a1] at c2
  obtain ⟨e1,e2⟩:=put_erri c2
  obtain ⟨g1,g2,g3,g4,g5,g6,g7,g8⟩:=icmpCheck_ok e1
  have hR:=icmpRest_r (p:=p) ⟨x4,x5⟩ ⟨x6,x7⟩
  have hm':=hm hl
  generalize hRR:(if ansT p.icmp.type then x.dport else x.sport) * 65536+p.icmp.rest % 65536=R at hR w1
  have hc:icmpCheck { p.icmp with rest:=R }=0:=by
   unfold icmpCheck
   dsimp only
   rw [if_neg (by omega),if_neg (by omega),if_neg (by omega)]
  have hp:(pseudoI p.icmp.v x.src x.dst (8+p.icmp.data.length)).2=0:=by
   unfold pseudoI
   by_cases h4:p.icmp.v=4
   ·rw [if_pos h4]
   ·rw [if_neg h4,if_neg (by omega)]
    exact pseudo_fit hf (by decide) (by decide) (by omega) (by omega)
  have o1:=icmpPut_ok (s:=x.src) (d:=x.dst) (m:={ p.icmp with rest:=R }) hc hp
  have o2:=icmpPut_ok e1 e2
  refine ⟨w1.2.trans hc,?_,?_⟩
  ·rw [w1.1]; show (icmpPut x.src x.dst { p.icmp with rest:=R }).2=0; rw [o1.1]
  ·rw [w1.1,a1]
   show (icmpPut x.src x.dst { p.icmp with rest:=R }).1.length=_
   rw [o1.1,o2.1]
   exact o1.2.trans o2.2.symm
 ·obtain ⟨a1,a2⟩:=above2 hl
  have w1:=above2 (p:=setT p x) (by rw [hk]; exact hl)
  rw [ends_setT,udp_setT x hl] at w1
  rw [a1] at c2
  rw [a2] at c1
  obtain ⟨e1,e2⟩:=put_errs c2
  have hc:udpCheck x.src.v { p.udp with sport:=x.sport,dport:=x.dport }=0:=by rw [hv]; exact udpCheck_set e2 ⟨x4,x5⟩ ⟨x6,x7⟩
  have o1:=udpPut_ok (s:=x.src) (d:=x.dst) hf hc
  have o2:=udpPut_ok e1 e2
  refine ⟨w1.2.trans (udpCheck_set c1 ⟨x4,x5⟩ ⟨x6,x7⟩),?_,?_⟩
  ·rw [w1.1]; show (udpPut x.src x.dst _).2=0; rw [o1.1]
  ·rw [w1.1,a1]
   show (udpPut x.src x.dst _).1.length=_
   rw [o1.1,o2.1]
   exact o1.2.trans o2.2.symm
 ·obtain ⟨a1,a2⟩:=above3 hl
  have w1:=above3 (p:=setT p x) (by rw [hk]; exact hl)
  rw [ends_setT,tcp_setT x hl] at w1
  rw [a1] at c2
  rw [a2] at c1
  obtain ⟨e1,e2⟩:=put_errt c2
  have hc:=tcpCheck_set e2 ⟨x4,x5⟩ ⟨x6,x7⟩
  have o1:=tcpPut_ok (s:=x.src) (d:=x.dst) hf hc
  have o2:=tcpPut_ok e1 e2
  refine ⟨w1.2.trans hc,?_,?_⟩
  ·rw [w1.1]; show (tcpPut x.src x.dst _).2=0; rw [o1]
  ·rw [w1.1,a1]
   show (tcpPut x.src x.dst _).1.length=_
   rw [o1,o2]
   show (tcpB _ _ _).length=(tcpB _ _ _).length
   rw [tcpB_len,tcpB_len]
theorem ip4Out_set {h:Ip4} {s d:Ip} (c:¬ ip4Out h) (f1:four s) (f2:four d) (b:List Int):¬ ip4Out { h with src:=s,dst:=d,data:=b }:=by
 unfold ip4Out at c ⊢
 simp only [not_or] at c ⊢
 obtain ⟨g1,g2,g3,g4,g5,g6,g7,g8,g9,g10,g11,_,_⟩:=c
 exact ⟨g1,g2,g3,g4,g5,g6,g7,g8,g9,g10,g11,fun q=>q f1,fun q=>q f2⟩
theorem ip4Check_set {h:Ip4} {s d:Ip} {a b:List Int} (c:ip4Check { h with data:=a }=0) (f1:four s) (f2:four d) (e:b.length=a.length):ip4Check { h with src:=s,dst:=d,data:=b }=0:=by
 obtain ⟨c1,c2,c3,c4⟩:=ip4Check_ok' c
 refine ip4Check_of (ip4Out_set (h:={ h with data:=a }) c1 f1 f2 b) c2 ?_ ?_
 ·dsimp only at c3 ⊢; omega
 ·dsimp only at c4 ⊢; rw [e]; exact c4
theorem made6_set {h:Ip6} {s d:Ip} {a b:List Int} (c:(made6 { h with data:=a }).2=0) (f1:s.v=6) (f2:d.v=6) (e:b.length=a.length):made6 { h with src:=s,dst:=d,data:=b }=(ip6B { h with src:=s,dst:=d,data:=b },0):=by
 obtain ⟨c1,c2,c3,c4,c5⟩:=made6_ok c
 refine made6_of ?_ c2 ?_ ?_
 ·obtain ⟨_,_,z⟩:=sized6_ok c1
  unfold sized6
  dsimp only at z ⊢
  rw [if_neg (by omega)]
 ·unfold fragged6 at c3 ⊢
  dsimp only at c3 ⊢
  rw [e]
  exact c3
 ·show 40+((exts6 { h with data:=a }).1++fragB { h with data:=a }).length+b.length≤65535
  dsimp only at c4
  omega
theorem ip6B_set {h:Ip6} {s d:Ip} {a b:List Int} (h1:h.src.a.length=16) (h2:h.dst.a.length=16) (f1:s.a.length=16) (f2:d.a.length=16) (e:b.length=a.length):(ip6B { h with src:=s,dst:=d,data:=b }).length=(ip6B { h with data:=a }).length:=by
 unfold ip6B
 simp only [List.length_append,mkB_len,h1,h2,f1,f2,e]
 rfl
theorem inner_setT {p:Pkt} {x:Tup} (hO:p.Ok) (hx1:x.src.Ok) (hx2:x.dst.Ok) (hk:p.kind=2∨p.kind=3) (hl:p.l4=1∨p.l4=2∨p.l4=3) (hx:isTup x) (hv:x.src.v=(endsOf p).src.v) (hm:p.l4=1→p.icmp.v=(endsOf p).v) (q3:(inner p).2=0) :
  (inner (setT p x)).2=0∧(inner (setT p x)).1.length=(inner p).1.length:=by
 obtain ⟨i1,i2,i3,i4⟩:=inner_ok (by omega) q3
 obtain ⟨v1,v2,v3,v4,v5⟩:=ends_vld hk i1
 obtain ⟨b1,b2,b3⟩:=above_setT hl hx hv v4 hm i2 i3
 have kw:=(setT_k p x).1
 obtain ⟨x1,x2,x3,_⟩:=hx
 have hfour:∀ ip:Ip,vld ip→ip.v=4→four ip:=fun ip h h4=>h.elim (fun h6=>by omega) id
 by_cases h2:p.kind=2
 ·have hv4:=v5.2 h2
  have f1:=hfour _ x1 (by omega)
  have f2:=hfour _ x2 (by omega)
  rw [if_pos h2] at i4
  have e4:(with_ p (above p).1).ip4={ p.ip4 with data:=(above p).1 }:=by unfold with_; rw [if_pos h2]
  have w4:(with_ (setT p x) (above (setT p x)).1).ip4={ p.ip4 with src:=x.src,dst:=x.dst,data:=(above (setT p x)).1 }:=by
   unfold with_
   rw [if_pos (by rw [kw]; exact h2)]
   show ({ (setT p x).ip4 with data:=(above (setT p x)).1 }:Ip4)=_
   rw [ip4_setT x h2]
  rw [e4] at i4
  have cp:ip4Check { p.ip4 with data:=(above p).1 }=0:=by
   rw [i4] at q3
   unfold ip4Put at q3
   split at q3
   ·rename_i c; exact absurd q3 c
   ·rename_i c; exact Decidable.not_not.1 c
  have cw:checkIP (setT p x)=0:=by
   unfold checkIP at i1 ⊢
   rw [if_pos h2] at i1
   rw [if_pos (by rw [kw]; exact h2),ip4_setT x h2]
   exact ip4Check_set (h:=p.ip4) (a:=p.ip4.data) (b:=p.ip4.data) i1 f1 f2 rfl
  have cs:=ip4Check_set cp f1 f2 b3
  have e1:inner p=(ip4B { p.ip4 with data:=(above p).1 },0):=by
   rw [i4]; unfold ip4Put; rw [if_neg (by rw [cp]; decide)]
  have e2:inner (setT p x)=(ip4B { p.ip4 with src:=x.src,dst:=x.dst,data:=(above (setT p x)).1 },0):=by
   unfold inner
   rw [if_neg (by rw [kw]; omega),if_neg (by rw [cw]; decide),if_neg (by rw [b1]; decide),if_neg (by rw [b2]; decide),if_pos (by rw [kw]; exact h2),w4]
   unfold ip4Put
   rw [if_neg (by rw [cs]; decide)]
  rw [e1,e2]
  refine ⟨rfl,?_⟩
  show (ip4W _++(above (setT p x)).1).length=(ip4W _++(above p).1).length
  rw [List.length_append,List.length_append,ip4W_len (h:={ p.ip4 with src:=x.src,dst:=x.dst,data:=(above (setT p x)).1 }) hx1 hx2,ip4W_len (h:={ p.ip4 with data:=(above p).1 }) hO.s4 hO.d4,b3]
 ·have h6:(endsOf p).v=6:=by unfold endsOf; rw [if_neg h2]
  have f1:x.src.v=6:=by omega
  have f2:x.dst.v=6:=by omega
  rw [if_neg h2] at i4
  have e4:(with_ p (above p).1).ip6={ p.ip6 with data:=(above p).1 }:=by unfold with_; rw [if_neg h2]
  have w4:(with_ (setT p x) (above (setT p x)).1).ip6={ p.ip6 with src:=x.src,dst:=x.dst,data:=(above (setT p x)).1 }:=by
   unfold with_
   rw [if_neg (by rw [kw]; exact h2)]
   show ({ (setT p x).ip6 with data:=(above (setT p x)).1 }:Ip6)=_
   rw [ip6_setT x h2]
  rw [e4] at i4
  have cp:(made6 { p.ip6 with data:=(above p).1 }).2=0:=by rw [←i4]; exact q3
  have cw:checkIP (setT p x)=0:=by
   unfold checkIP at i1 ⊢
   rw [if_neg h2] at i1
   rw [if_neg (by rw [kw]; exact h2),ip6_setT x h2]
   have:=made6_set (h:=p.ip6) (a:=p.ip6.data) (b:=p.ip6.data) i1 f1 f2 rfl
   exact congrArg Prod.snd this
  have cs:=made6_set cp f1 f2 b3
  have e2:inner (setT p x)=(ip6B { p.ip6 with src:=x.src,dst:=x.dst,data:=(above (setT p x)).1 },0):=by
   unfold inner
   rw [if_neg (by rw [kw]; omega),if_neg (by rw [cw]; decide),if_neg (by rw [b1]; decide),if_neg (by rw [b2]; decide),if_neg (by rw [kw]; exact h2),w4]
   exact cs
  rw [i4,e2,(made6_ok cp).2.2.2.2]
  exact ⟨rfl,ip6B_set hO.s6.1 hO.d6.1 hx1.1 hx2.1 b3⟩
theorem alone_setT {p:Pkt} {x:Tup} (hk:p.kind=2∨p.kind=3) (hl:p.l4=1∨p.l4=2∨p.l4=3) (h:p=alone p):setT p x=alone (setT p x):=by
 obtain ⟨a1,a2,a3,k,ar,i4,i6,l,m,u,t⟩:=p
 dsimp only at hk hl
 rcases hk with rfl | rfl <;> rcases hl with rfl | rfl | rfl <;> simp [alone] at h <;> obtain ⟨rfl,rfl,rfl,rfl⟩:=h <;> rfl
theorem pmade_setT {p:Pkt} {x:Tup} (hO:p.Ok) (hx1:x.src.Ok) (hx2:x.dst.Ok) (h:May p x):(pmade (setT p x)).2=0:=by
 obtain ⟨c0,has,ht,hp,hv,hi⟩:=h
 obtain ⟨q1,q2,q3,q4,q5⟩:=pmade_ok c0
 obtain ⟨m1,m2,m3,m4,m5,m6,m7⟩:=mixed_ok q2
 obtain ⟨hk,hl,hs,hd⟩:=tuple_has has
 obtain ⟨w1,w2,w3,w4,w5⟩:=setT_k p x
 rw [hs] at hv
 have hm:p.l4=1→p.icmp.v=(endsOf p).v:=fun h1=>(m7 (by omega)).2 h1
 obtain ⟨n1,n2⟩:=inner_setT hO hx1 hx2 hk hl ht hv hm q3
 have hf:∀ ty b,frameOf (setT p x) ty b=frameOf p ty b:=fun ty b=>by unfold frameOf; rw [w3,w4,w5]
 have hmix:¬ mixed (setT p x):=not_mixed (by rw [w1]; omega) (by rw [w2]; omega) (alone_setT hk hl m5) (by rw [w2,layer_setT]; exact m6) (fun _=>⟨by rw [data_setT]; exact (m7 (by omega)).1,fun h1=>by
  rw [w2] at h1
  rw [icmp_setT x h1,ends_setT]
  exact hm h1⟩)
 obtain ⟨l1,l2,l3,l4,l5⟩:=linkCheck_ok q4
 have hlc:linkCheck (frameOf (setT p x) (typeOf (setT p x).kind) (inner (setT p x)).1)=0:=by
  rw [hf,w1]
  refine linkCheck_of l1 l2 l3 l4 ?_
  have l5' : 14+4 * p.tags.length+(inner p).1.length≤65535:=l5
  show 14+4 * p.tags.length+(inner (setT p x)).1.length≤65535
  omega
 unfold pmade linkPut
 rw [if_neg (by rw [hf,q1]; decide),if_neg hmix,if_neg (by rw [n1]; decide),if_neg (by rw [hlc]; decide)]
theorem tup_ext {x y:Tup} (h1:x.proto=y.proto) (h2:x.src=y.src) (h3:x.dst=y.dst) (h4:x.sport=y.sport) (h5:x.dport=y.dport):x=y:=by
 cases x; cases y; simp_all
theorem tuple_setT {p:Pkt} {x:Tup} (h:May p x):tuple (setT p x)=(x,true):=by
 obtain ⟨c0,has,ht,hp,hv,hi⟩:=h
 obtain ⟨q1,q2,q3,q4,q5⟩:=pmade_ok c0
 obtain ⟨hk,hl,hs,hd⟩:=tuple_has has
 obtain ⟨w1,w2,w3,w4,w5⟩:=setT_k p x
 obtain ⟨x1,x2,x3,x4,x5,x6,x7⟩:=ht
 rcases hl with hl | hl | hl
 ·have hi':=hi hl
  rw [tuple_1 hk hl] at has hp
  rw [tuple_1 (by rw [w1]; exact hk) (by rw [w2]; exact hl),ends_setT,icmp_setT x hl]
  by_cases he:isEcho (endsOf p).v p.icmp
  ·rw [if_pos he] at hp
   dsimp only at hp
   rw [if_pos (show isEcho (endsOf p).v { p.icmp with rest:=(if ansT p.icmp.type then x.dport else x.sport) * 65536+p.icmp.rest % 65536 } from he)]
   have hR:=icmpRest_r (p:=p) ⟨x4,x5⟩ ⟨x6,x7⟩
   refine congrArg (fun y=>(y,true)) (tup_ext hp.symm rfl rfl ?_ ?_)
   ·dsimp only
    by_cases ha:ansT p.icmp.type
    ·rw [if_pos ha] at hi' ⊢; exact hi'.symm
    ·rw [if_neg ha] at hR ⊢
     rw [if_neg ha,half_eq hR.1 hR.2]; omega
   ·dsimp only
    by_cases ha:ansT p.icmp.type
    ·rw [if_pos ha] at hR ⊢
     rw [if_pos ha,half_eq hR.1 hR.2]; omega
    ·rw [if_neg ha] at hi' ⊢; exact hi'.symm
  ·rw [if_neg he] at has; cases has
 ·rw [tuple_2 hk hl] at hp
  rw [tuple_2 (by rw [w1]; exact hk) (by rw [w2]; exact hl),ends_setT,udp_setT x hl]
  exact congrArg (fun y=>(y,true)) (tup_ext hp.symm rfl rfl rfl rfl)
 ·rw [tuple_3 hk hl] at hp
  rw [tuple_3 (by rw [w1]; exact hk) (by rw [w2]; exact hl),ends_setT,tcp_setT x hl]
  exact congrArg (fun y=>(y,true)) (tup_ext hp.symm rfl rfl rfl rfl)
theorem own_ok {p:Pkt} (c0:(pmade p).2=0) (has:(tuple p).2=true):isTup (tuple p).1:=by
 obtain ⟨q1,q2,q3,q4,q5⟩:=pmade_ok c0
 obtain ⟨hk,hl,hs,hd⟩:=tuple_has has
 obtain ⟨i1,i2,i3,i4⟩:=inner_ok (by omega) q3
 obtain ⟨v1,v2,v3,v4,v5⟩:=ends_vld hk i1
 rcases hl with hl | hl | hl
 ·obtain ⟨a1,a2⟩:=above1 hl
  rw [a2] at i2
  obtain ⟨g1,g2,g3,g4,g5,g6,g7,g8⟩:=icmpCheck_ok i2
  have hh:=half_eq g6 g7
  rw [tuple_1 hk hl] at has ⊢
  by_cases he:isEcho (endsOf p).v p.icmp
  ·rw [if_pos he]
   refine ⟨v1,v2,v3,?_⟩
   dsimp only
   by_cases ha:ansT p.icmp.type
   ·rw [if_pos ha,if_pos ha,hh]; omega
   ·rw [if_neg ha,if_neg ha,hh]; omega
  ·rw [if_neg he] at has; cases has
 ·obtain ⟨a1,a2⟩:=above2 hl
  rw [a2] at i2
  obtain ⟨g1,g2,g3,g4,g5,g6,g7⟩:=udpCheck_ok i2
  rw [tuple_2 hk hl]
  exact ⟨v1,v2,v3,g2,g3,g4,g5⟩
 ·obtain ⟨a1,a2⟩:=above3 hl
  rw [a2] at i2
  rw [tuple_3 hk hl]
  refine ⟨v1,v2,v3,?_⟩
  unfold tcpCheck at i2
  split at i2
  ·cases i2
  ·rename_i c
   unfold tcpOut at c
   dsimp only
   omega
theorem back_setT {p:Pkt} {x:Tup} (h:May p x):setT (setT p x) (tuple p).1=p:=by
 obtain ⟨c0,has,ht,hp,hv,hi⟩:=h
 obtain ⟨q1,q2,q3,q4,q5⟩:=pmade_ok c0
 obtain ⟨hk,hl,hs,hd⟩:=tuple_has has
 obtain ⟨i1,i2,i3,i4⟩:=inner_ok (by omega) q3
 have hic:p.l4=1→0≤p.icmp.rest∧p.icmp.rest≤4294967295:=fun h1=>by
  rw [(above1 h1).2] at i2
  obtain ⟨g1,g2,g3,g4,g5,g6,g7,g8⟩:=icmpCheck_ok i2
  exact ⟨g6,g7⟩
 have hT:p.l4=1→(if ansT p.icmp.type then (tuple p).1.dport else (tuple p).1.sport)=p.icmp.rest / 65536:=fun h1=>by
  rw [tuple_1 hk h1] at has ⊢
  by_cases he:isEcho (endsOf p).v p.icmp
  ·rw [if_pos he]
   dsimp only
   by_cases ha:ansT p.icmp.type
   ·rw [if_pos ha,if_pos ha,half_eq (hic h1).1 (hic h1).2]
   ·rw [if_neg ha,if_neg ha,half_eq (hic h1).1 (hic h1).2]
  ·rw [if_neg he] at has; cases has
 have hU:p.l4=2→(tuple p).1.sport=p.udp.sport∧(tuple p).1.dport=p.udp.dport:=fun h1=>by rw [tuple_2 hk h1]; exact ⟨rfl,rfl⟩
 have hC:p.l4=3→(tuple p).1.sport=p.tcp.sport∧(tuple p).1.dport=p.tcp.dport:=fun h1=>by rw [tuple_3 hk h1]; exact ⟨rfl,rfl⟩
 generalize (tuple p).1=o at hs hd hT hU hC
 obtain ⟨op,os,od,osp,odp⟩:=o
 dsimp only at hs hd hT hU hC
 subst hs hd
 clear i1 i2 i3 i4 q1 q2 q3 q4 q5 c0 ht hi
 obtain ⟨a1,a2,a3,k,ar,j4,j6,l,m,u,t⟩:=p
 obtain ⟨b1,b2,b3,b4,b5,b6,b7,b8,b9,b10,b11⟩:=j4
 obtain ⟨d1,d2,d3,d4,d5,d6,d7,d8,d9⟩:=j6
 obtain ⟨e1,e2,e3,e4,e5⟩:=m
 obtain ⟨f1,f2,f3,f4⟩:=u
 obtain ⟨g1,g2,g3,g4,g5,g6,g7,g8,g9⟩:=t
 dsimp only at hk hl hT hU hC hic
 rcases hk with rfl | rfl <;> rcases hl with rfl | rfl | rfl
 ·have hr:=hT rfl
  have hh:=hic rfl
  have e:((if ansT e2 then x.dport else x.sport) * 65536+e4 % 65536) % 65536=e4 % 65536:=by omega
  have e' : (if ansT e2 then odp else osp) * 65536+e4 % 65536=e4:=by rw [hr]; omega
  simp [setT,setP,setA,endsOf,e,e']
 ·obtain ⟨r1,r2⟩:=hU rfl
  simp [setT,setP,setA,endsOf,r1,r2]
 ·obtain ⟨r1,r2⟩:=hC rfl
  simp [setT,setP,setA,endsOf,r1,r2]
 ·have hr:=hT rfl
  have hh:=hic rfl
  have e:((if ansT e2 then x.dport else x.sport) * 65536+e4 % 65536) % 65536=e4 % 65536:=by omega
  have e' : (if ansT e2 then odp else osp) * 65536+e4 % 65536=e4:=by rw [hr]; omega
  simp [setT,setP,setA,endsOf,e,e']
 ·obtain ⟨r1,r2⟩:=hU rfl
  simp [setT,setP,setA,endsOf,r1,r2]
 ·obtain ⟨r1,r2⟩:=hC rfl
  simp [setT,setP,setA,endsOf,r1,r2]
theorem may_back {p:Pkt} {x:Tup} (hO:p.Ok) (hx1:x.src.Ok) (hx2:x.dst.Ok) (h:May p x):May (setT p x) (tuple p).1:=by
 have hw:=tuple_setT h
 have hm:=pmade_setT hO hx1 hx2 h
 obtain ⟨c0,has,ht,hp,hv,hi⟩:=h
 obtain ⟨hk,hl,hs,hd⟩:=tuple_has has
 refine ⟨hm,by rw [hw],own_ok c0 has,by rw [hw]; exact hp.symm,by rw [hw]; exact hv.symm,fun h1=>?_⟩
 rw [(setT_k p x).2.1] at h1
 rw [icmp_setT x h1]
 dsimp only
 rw [tuple_1 hk h1] at has ⊢
 by_cases he:isEcho (endsOf p).v p.icmp
 ·rw [if_pos he]
  dsimp only
  by_cases ha:ansT p.icmp.type
  ·rw [if_pos ha,if_pos ha]
  ·rw [if_neg ha,if_neg ha]
 ·rw [if_neg he] at has; cases has
theorem rewr_law {p:Pkt} {x:Tup} (hO:p.Ok) (hx1:x.src.Ok) (hx2:x.dst.Ok) (h:May p x):(rewr p x).2=0∧(pmade (rewr p x).1).2=0∧tuple (rewr p x).1=(x,true)∧rewr (rewr p x).1 (tuple p).1=(p,0):=by
 have e:rewr p x=(setT p x,0):=if_pos h
 rw [e]
 refine ⟨rfl,pmade_setT hO hx1 hx2 h,tuple_setT h,?_⟩
 unfold rewr
 rw [if_pos (may_back hO hx1 hx2 h),back_setT h]
theorem tail_zero {a:List Int} (h:a.length=16):(a.drop 4=[0,0,0,0,0,0,0,0,0,0,0,0])↔a=a4 a:=by
 match a,h with
 | [a0,a1,a2,a3,b0,b1,b2,b3,b4,b5,b6,b7,b8,b9,b10,b11],_=>
  show [b0,b1,b2,b3,b4,b5,b6,b7,b8,b9,b10,b11]=_↔[a0,a1,a2,a3,b0,b1,b2,b3,b4,b5,b6,b7,b8,b9,b10,b11]=[a0,a1,a2,a3,0,0,0,0,0,0,0,0,0,0,0,0]
  simp
theorem keq_arr12 (a b:List Int):keq (.arr .u8 12 a) (.arr .u8 12 b)=decide (a=b):=by
 show ((IntKind.u8 == IntKind.u8) && (Nat.beq 12 12 && a == b))=_
 have e1:(IntKind.u8 == IntKind.u8)=true:=rfl
 have e2:Nat.beq 12 12=true:=rfl
 rw [e1,e2,Bool.true_and,Bool.true_and]
 by_cases h:a=b
 ·rw [decide_eq_true h,beq_iff_eq]; exact h
 ·rw [decide_eq_false h,beq_eq_false_iff_ne]; exact h
theorem a269v (n:Nat) (ip:Ip) (h:ip.Ok):A269 n [ip.av]=some [.int .i64 (if ip.v=6 then 128 else if ip.v=4∧ip.a=a4 ip.a then 32 else 0)]:=by
 show run269 n ip.av=_
 rw [eq269]
 have ht:List.take 12 (List.drop 4 ip.a)=List.drop 4 ip.a:=List.take_of_length_le (by rw [List.length_drop,h.1]; decide)
 have hk:keq (.arr .u8 12 (List.take 12 (List.drop 4 ip.a))) (.arr .u8 12 [0,0,0,0,0,0,0,0,0,0,0,0])=decide (ip.a=a4 ip.a):=by
  rw [keq_arr12,ht]
  rw [Bool.eq_iff_iff,decide_eq_true_iff,decide_eq_true_iff]
  exact tail_zero h.1
 by_cases h6:ip.v=6
 ·simp [ZY,h6]
 by_cases h4:ip.v=4
 ·by_cases hz:ip.a=a4 ip.a
  ·rw [decide_eq_true hz] at hk
   rw [if_neg h6,if_pos ⟨h4,hz⟩]
   simp only [ZZ,h4,hk,show ((4:Int) == 6)=false from rfl,show ((4:Int) != 4)=false from rfl,Bool.not_true]
  ·rw [decide_eq_false hz] at hk
   rw [if_neg h6,if_neg (fun hx=>hz hx.2)]
   simp only [ZZ,h4,hk,show ((4:Int) == 6)=false from rfl,show ((4:Int) != 4)=false from rfl,Bool.not_false]
 ·rw [if_neg h6,if_neg (fun hx=>h4 hx.1)]
  simp only [ZZ,show (ip.v == 6)=false by simpa using h6,show (ip.v != 4)=true by simpa using h4]
theorem a244v (n:Nat) (ip:Ip) (h:ip.Ok):A244 n [ip.av]=some [.bool (decide (vld ip))]:=by
 show run244 A269 n ip.av=_
 rw [eq244]
 have e:=a269v n ip h
 by_cases h6:ip.v=6
 ·rw [if_pos h6] at e
  rw [decide_eq_true (show vld ip from .inl h6)]
  simp only [ZZ,e]
  rfl
 ·rw [if_neg h6] at e
  by_cases hz:ip.v=4∧ip.a=a4 ip.a
  ·rw [if_pos hz] at e
   rw [decide_eq_true (show vld ip from .inr hz)]
   simp only [ZZ,e]
   rfl
  ·rw [if_neg hz] at e
   rw [decide_eq_false (show ¬ vld ip from fun hx=>hx.elim h6 hz)]
   simp only [ZZ,e]
   rfl
theorem a911 (n:Nat) (x:Tup) (h1:x.src.Ok) (h2:x.dst.Ok):A911 n [x.av]=some [.bool (decide (isTup x))]:=by
 show run911 A244 n x.av=_
 rw [eq911]
 simp only [ZZ,a244v n x.src h1,a244v n x.dst h2]
 by_cases c1:vld x.src
 ·rw [decide_eq_true c1,bT]
  by_cases c2:vld x.dst
  ·rw [decide_eq_true c2,bT]
   by_cases c3:x.src.v=x.dst.v
   ·rw [brO_t (by simpa using c3)]
    by_cases c4:x.sport ≥ 0
    ·rw [brO_t (by exact decide_eq_true c4)]
     by_cases c5:x.sport≤65535
     ·rw [brO_t (by exact decide_eq_true c5)]
      by_cases c6:x.dport ≥ 0
      ·rw [brO_t (by exact decide_eq_true c6)]
       by_cases c7:x.dport≤65535
       ·rw [decide_eq_true (show isTup x from ⟨c1,c2,c3,c4,c5,c6,c7⟩)]
        exact congrArg (fun b=>some [AV.bool b]) (decide_eq_true c7)
       ·rw [decide_eq_false (show ¬ isTup x from fun h=>c7 h.2.2.2.2.2.2)]
        exact congrArg (fun b=>some [AV.bool b]) (decide_eq_false c7)
      ·rw [brO_f (by exact decide_eq_false c6),decide_eq_false (fun h=>c6 h.2.2.2.2.2.1)]
     ·rw [brO_f (by exact decide_eq_false c5),decide_eq_false (fun h=>c5 h.2.2.2.2.1)]
    ·rw [brO_f (by exact decide_eq_false c4),decide_eq_false (fun h=>c4 h.2.2.2.1)]
   ·rw [brO_f (by simpa using c3),decide_eq_false (fun h=>c3 h.2.2.1)]
  ·rw [decide_eq_false c2,bF,decide_eq_false (fun h=>c2 h.2.1)]
 ·rw [decide_eq_false c1,bF,decide_eq_false (fun h=>c1 h.1)]
theorem all_tail {a:List Int} (h:a.length=16):(a.drop 4).all (fun x=>x == 0)=decide (a=a4 a):=by
 rw [Bool.eq_iff_iff,decide_eq_true_iff,←tail_zero h]
 match a,h with
 | [a0,a1,a2,a3,b0,b1,b2,b3,b4,b5,b6,b7,b8,b9,b10,b11],_=>
  show [b0,b1,b2,b3,b4,b5,b6,b7,b8,b9,b10,b11].all (fun x=>x == 0)=true↔[b0,b1,b2,b3,b4,b5,b6,b7,b8,b9,b10,b11]=_
  simp
theorem a276 (n:Nat) (hn:2 ^ 63<n) (ip:Ip) (h:ip.Ok):A276 n [ip.av]=some [.bool (decide (vld ip))]:=by
 show run276 n ip.av=_
 rw [eq276]
 by_cases h4:ip.v=4
 ·simp only [ZZ,show (ip.v != 4)=false by simpa using h4]
  refine jn_it' (fun i:Nat=>[ip.av,.int .i64 (i:Nat)]) (fun i=>16 - i) (fun i=>if (ip.a.drop i).all (fun x=>x == 0)=true then .inl [] else .inr [.bool false]) (fun i=>i≤16) 4 (by show 16 - 4<n; omega) (by show 4≤16; omega) (fun i K hi hK=>?_) ?_
  ·simp only [ZZ]
   by_cases hi2:i<16
   ·have hl:i<ip.a.length:=by rw [h.1]; exact hi2
    have hd:ip.a.drop i=ip.a[i]::ip.a.drop (i+1):=List.drop_eq_getElem_cons hl
    have w:IntKind.wrap .i64 ((i:Int)+1)=((i+1:Nat):Int):=by rw [wrap_id (by omega) (by omega)]; omega
    rw [brO_t (by exact decide_eq_true (by omega)),inR_nat hi2,bT,Int.toNat_natCast,getI_lt hl]
    by_cases hz:ip.a[i]=0
    ·rw [brO_f (by simpa using hz),w,hd,List.all_cons,show (ip.a[i] == 0)=true by simpa using hz,Bool.true_and]
     exact hK (i+1) (by show 16 - (i+1)<16 - i; omega) (by show i+1≤16; omega)
    ·rw [brO_t (by simpa using hz),hd,List.all_cons,show (ip.a[i] == 0)=false by simpa using hz,Bool.false_and,if_neg (by decide)]
   ·have:i=16:=by omega
    subst this
    rw [brO_f (by exact decide_eq_false (by decide)),List.drop_eq_nil_of_le (by rw [h.1]; decide)]
    rfl
  ·rw [all_tail h.1]
   by_cases hz:ip.a=a4 ip.a
   ·rw [decide_eq_true hz,if_pos rfl,decide_eq_true (show vld ip from .inr ⟨h4,hz⟩)]; rfl
   ·rw [decide_eq_false hz,if_neg (by decide),decide_eq_false (show ¬ vld ip from fun hx=>hx.elim (fun h6=>by omega) (fun h=>hz h.2))]; rfl
 ·simp only [ZZ,show (ip.v != 4)=true by simpa using h4]
  by_cases h6:ip.v=6
  ·rw [decide_eq_true (show vld ip from .inl h6),show (ip.v == 6)=true by simpa using h6]
  ·rw [decide_eq_false (show ¬ vld ip from fun hx=>hx.elim h6 (fun h=>h4 h.1)),show (ip.v == 6)=false by simpa using h6]
theorem a909 (n:Nat) (hn:2 ^ 63<n) (x:Tup) (h1:x.src.Ok) (h2:x.dst.Ok):A909 n [x.av]=some [.bool (decide (isTup x))]:=by
 show run909 A276 n x.av=_
 rw [eq909]
 simp only [ZZ,a276 n hn x.src h1,a276 n hn x.dst h2]
 by_cases c1:vld x.src
 rotate_left
 ·rw [decide_eq_false c1,decide_eq_false (show ¬ isTup x from fun h=>c1 h.1)]; rfl
 by_cases c2:vld x.dst
 rotate_left
 ·rw [decide_eq_true c1,decide_eq_false c2,decide_eq_false (show ¬ isTup x from fun h=>c2 h.2.1)]; rfl
 by_cases c3:x.src.v=x.dst.v
 rotate_left
 ·rw [decide_eq_true c1,decide_eq_true c2,decide_eq_false (show ¬ isTup x from fun h=>c3 h.2.2.1),show (x.src.v != x.dst.v)=true by simpa using c3]; rfl
 rw [decide_eq_true c1,decide_eq_true c2,show (x.src.v != x.dst.v)=false by simpa using c3]
 simp only [ZZ,Bool.not_true]
 by_cases c4:x.sport ≥ 0
 rotate_left
 ·rw [brO_f (by exact decide_eq_false c4),decide_eq_false (show ¬ isTup x from fun h=>c4 h.2.2.2.1)]
 rw [brO_t (by exact decide_eq_true c4)]
 by_cases c5:x.sport≤65535
 rotate_left
 ·rw [brO_f (by exact decide_eq_false c5),decide_eq_false (show ¬ isTup x from fun h=>c5 h.2.2.2.2.1)]
 rw [brO_t (by exact decide_eq_true c5)]
 by_cases c6:x.dport ≥ 0
 rotate_left
 ·rw [brO_f (by exact decide_eq_false c6),decide_eq_false (show ¬ isTup x from fun h=>c6 h.2.2.2.2.2.1)]
 rw [brO_t (by exact decide_eq_true c6)]
 by_cases c7:x.dport≤65535
 ·rw [decide_eq_true (show isTup x from ⟨c1,c2,c3,c4,c5,c6,c7⟩)]
  exact congrArg (fun b=>some [AV.bool b]) (decide_eq_true c7)
 ·rw [decide_eq_false (show ¬ isTup x from fun h=>c7 h.2.2.2.2.2.2)]
  exact congrArg (fun b=>some [AV.bool b]) (decide_eq_false c7)
theorem allO_two {R:Type} {f:Nat→Option R} {r:R} (h:∀ i,f i=some r):allO 2 f=some r:=allO_some.2 ⟨by decide,fun i _=>h i⟩
theorem a68v (n:Nat) (b:List Int) (hl:b.length<2 ^ 45):A68v n [.fs .u8 b]=some [.fs .u8 b]:=by
 show run68v n b=_
 rw [eq68v]
 cases b with
 | nil=>
  refine (bT _ _).trans (allO_two (fun i=>?_))
  cases h:(Nat.beq i 0) <;> rfl
 | cons x l=>
  refine (bF _ _).trans ?_
  simp only [ZZ]
  rw [brO_t (ble_of (by omega))]
theorem a68' (n:Nat) (b:List Int) (hl:b.length<2 ^ 45):A68 n [.fs .u8 b]=some [.fs .u8 b]:=by
 cases b with
 | nil=>
  show run68 n []=_
  rw [eq68]
  refine (bT _ _).trans (allO_two (fun i=>?_))
  cases h:(Nat.beq i 0) <;> rfl
 | cons x l=>exact a68 n (x::l) (by simp) hl
theorem a922 (n:Nat) (l:List Tag) (hl:l.length≤2 ^ 20):A922 n [.fv s79 (l.map Tag.av)]=some [.fv s79 (l.map Tag.av)]:=by
 show run922 n (l.map Tag.av)=_
 rw [eq922]
 cases l with
 | nil=>
  refine (bT _ _).trans (allO_two (fun i=>?_))
  cases h:(Nat.beq i 0) <;> rfl
 | cons x l=>
  refine (bF _ _).trans ?_
  simp only [ZZ]
  rw [brO_t (ble_of (by rw [List.length_map]; omega))]
theorem a923 (n:Nat) (hn:2 ^ 63<n) (l:List Opt) (hl:l.length≤2 ^ 20) (hd:∀ o∈l,o.data.length≤2 ^ 20):A923 n [.fv s93 (l.map Opt.av)]=some [.fv s93 (l.map Opt.av)]:=by
 show run923 A68 n (l.map Opt.av)=_
 rw [eq923,List.length_map]
 refine jn_it (fun i:Nat=>[.fv s93 ((l.take i).map Opt.av),.fv s93 (l.map Opt.av),.int .i64 (l.length:Nat),.int .i64 (i:Nat)]) (fun i=>l.length - i) (fun _=>[.fv s93 (l.map Opt.av)]) (fun i=>i≤l.length) 0 (by show l.length - 0<n; omega) (Nat.zero_le _) (fun i K hi hK=>?_) ?_
 ·simp only [ZZ]
  by_cases hi2:i<l.length
  ·have hb:=hd l[i] (List.getElem_mem hi2)
   have w:IntKind.wrap .i64 ((i:Int)+1)=((i+1:Nat):Int):=by rw [wrap_id (by omega) (by omega)]; omega
   have hK1:=hK (i+1) (by show l.length - (i+1)<l.length - i; omega) (by show i+1≤l.length; omega)
   rw [List.take_succ_eq_append_getElem hi2,List.map_append] at hK1
   rw [brO_t (by exact decide_eq_true (by omega)),List.length_map,inR_nat hi2,bT,Int.toNat_natCast,getE_map hi2]
   generalize l[i]=o at hb hK1 ⊢
   simp only [ZZ,a68' n o.data (by omega),w]
   rw [brO_t (ble_of (by rw [List.length_map,List.length_take]; omega))]
   exact hK1
  ·have:i=l.length:=by omega
   subst this
   rw [brO_f (by exact decide_eq_false (by omega)),List.take_length]
 ·simp only [ZZ]
theorem a912 (n:Nat) (hn:2 ^ 63<n) (p:Pkt) (h:p.Sm):A912 n [p.av]=some [p.av]:=by
 show run912 A68v A922 A923 n p.av=_
 rw [eq912]
 have hT:=a922 n p.tags h.tl
 have hO4:=a923 n hn p.ip4.opts h.o4l h.o4d
 have hD4:=a68v n p.ip4.data (by have:=h.d4l; omega)
 have hD6:=a68v n p.ip6.data (by have:=h.d6l; omega)
 have hDi:=a68v n p.icmp.data (by have:=h.dil; omega)
 have hDu:=a68v n p.udp.data (by have:=h.dul; omega)
 have hOt:=a923 n hn p.tcp.opts h.otl h.otd
 have hDt:=a68v n p.tcp.data (by have:=h.dtl; omega)
 have hxl:=h.x6l
 simp only [ZZ,hT,hO4,hD4,List.length_map]
 refine jn_it (fun i:Nat=>[p.av,Pkt.z.av,.fv s124 ((p.ip6.exts.take i).map Ext.av),.fv s124 (p.ip6.exts.map Ext.av),.int .i64 (p.ip6.exts.length:Nat),.int .i64 (i:Nat)]) (fun i=>p.ip6.exts.length - i)
  (fun _=>[p.av,Pkt.z.av,.fv s124 (p.ip6.exts.map Ext.av)]) (fun i=>i≤p.ip6.exts.length) 0 (by show p.ip6.exts.length - 0<n; omega) (Nat.zero_le _) (fun i K hi hK=>?_) ?_
 ·simp only [ZZ]
  by_cases hi2:i<p.ip6.exts.length
  ·have hs:=h.x6s p.ip6.exts[i] (List.getElem_mem hi2)
   have w:IntKind.wrap .i64 ((i:Int)+1)=((i+1:Nat):Int):=by rw [wrap_id (by omega) (by omega)]; omega
   have hK1:=hK (i+1) (by show p.ip6.exts.length - (i+1)<p.ip6.exts.length - i; omega) (by show i+1≤p.ip6.exts.length; omega)
   rw [List.take_succ_eq_append_getElem hi2,List.map_append] at hK1
   rw [brO_t (by exact decide_eq_true (by omega)),List.length_map,inR_nat hi2,bT,Int.toNat_natCast,getE_map hi2]
   generalize p.ip6.exts[i]=o at hs hK1 ⊢
   obtain ⟨s1,s2,s3⟩:=hs
   simp only [ZZ,a923 n hn o.opts s1 s2,a68v n o.data (by omega),w]
   rw [brO_t (ble_of (by rw [List.length_map,List.length_take]; omega))]
   exact hK1
  ·have:i=p.ip6.exts.length:=by omega
   subst this
   rw [brO_f (by exact decide_eq_false (by omega)),List.take_length]
 ·simp only [ZZ,hD6,hDi,hDu,hOt,hDt]
theorem rest_eq {i r:Int} (h1:0≤i) (h2:i≤65535) (h3:0≤r) (h4:r≤4294967295) :
  IntKind.wrap .i64 (Int.ofNat (BitVec.toNat ((BitVec.ofInt 64 (IntKind.wrap .i64 (i * (Int.ofNat (2 ^ (Min.min (Int.toNat 16) (IntKind.bits .i64))))))) ||| (BitVec.ofInt 64 (IntKind.wrap .i64 (Int.ofNat (BitVec.toNat ((BitVec.ofInt 64 r) &&& (BitVec.ofInt 64 65535)))))))))=i * 65536+r % 65536:=by
 rw [low16 h3 (by omega)]
 have e:(Int.ofNat (2 ^ (Min.min (Int.toNat 16) (IntKind.bits .i64))):Int)=65536:=by decide
 rw [e,wrap_id (x:=i * 65536) (by omega) (by omega)]
 have:=or_add (x:=i * 65536) (y:=r % 65536) 16 (by omega) (by omega) (by omega) (by omega) (by omega) (by omega)
 show IntKind.wrap .i64 (((BitVec.ofInt 64 (i * 65536) ||| BitVec.ofInt 64 (r % 65536)).toNat:Nat):Int)=_
 rw [this,wrap_id (by omega) (by omega)]
theorem a905 (n:Nat) (hn:2 ^ 63<n) (p:Pkt) (x:Tup) (h:p.Sm) (hx1:x.src.Ok) (hx2:x.dst.Ok):A905 n [p.av,x.av]=some [(rewr p x).1.av,.int .i64 (rewr p x).2]:=by
 show run905 A22 A27 A911 A912 n p.av x.av=_
 rw [eq905]
 have e22:=a22 n hn p h
 have e27:=a27 n p
 have e911:=a911 n x hx1 hx2
 have e912:=a912 n hn p h
 unfold rewr
 by_cases c0:(pmade p).2=0
 rotate_left
 ·rw [if_neg (show ¬ May p x from fun m=>c0 m.1)]
  simp only [ZZ,e22,show ((pmade p).2 != 0)=true by simpa using c0]
  rfl
 have c0' : ((pmade p).2 != 0)=false:=by simpa using c0
 by_cases c1:(tuple p).2=true
 rotate_left
 ·have c1' : (tuple p).2=false:=by simpa using c1
  rw [if_neg (show ¬ May p x from fun m=>c1 m.2.1)]
  simp only [ZZ,e22,c0',e27,c1',Bool.not_false]
  rfl
 by_cases c2:isTup x
 rotate_left
 ·rw [if_neg (show ¬ May p x from fun m=>c2 m.2.2.1)]
  simp only [ZZ,e22,c0',e27,c1,Bool.not_true,e911,decide_eq_false c2,Bool.not_false]
  rfl
 by_cases c3:x.proto=(tuple p).1.proto
 rotate_left
 ·rw [if_neg (show ¬ May p x from fun m=>c3 m.2.2.2.1)]
  simp only [ZZ,e22,c0',e27,c1,Bool.not_true,e911,decide_eq_true c2,show (x.proto !=(tuple p).1.proto)=true by simpa using c3]
  rfl
 have c3' : (x.proto !=(tuple p).1.proto)=false:=by simpa using c3
 by_cases c4:x.src.v=(tuple p).1.src.v
 rotate_left
 ·rw [if_neg (show ¬ May p x from fun m=>c4 m.2.2.2.2.1)]
  simp only [ZZ,e22,c0',e27,c1,Bool.not_true,e911,decide_eq_true c2,c3',show (x.src.v !=(tuple p).1.src.v)=true by simpa using c4]
  rfl
 have c4' : (x.src.v !=(tuple p).1.src.v)=false:=by simpa using c4
 obtain ⟨q1,q2,q3,q4,q5⟩:=pmade_ok c0
 obtain ⟨hk,hl,hs,hd⟩:=tuple_has c1
 obtain ⟨i1,i2,i3,i4⟩:=inner_ok (by omega) q3
 obtain ⟨v1,v2,v3,v4,v5⟩:=ends_vld hk i1
 rw [←hs] at v5
 obtain ⟨k1,k2,k3,k4,k5,k6,k7,k8⟩:=setA_k p x.src x.dst
 simp only [ZZ,e22,c0',e27,c1,Bool.not_true,e911,decide_eq_true c2,c3',c4',e912]
 refine jn_c (y:=some (Sum.inl [(setA p x.src x.dst).av,x.av,Pkt.z.av])) ?_ ?_
 ·unfold setA
  by_cases h2:p.kind=2
  ·rw [if_pos h2]
   simp only [ZZ,show ((tuple p).1.src.v == 4)=true by simpa using v5.2 h2]
   rfl
  ·rw [if_neg h2]
   have:(tuple p).1.src.v≠4:=fun h4=>h2 (v5.1 h4)
   simp only [ZZ,show ((tuple p).1.src.v == 4)=false by simpa using this]
   rfl
 ·have hmay:May p x↔(p.l4=1→(if ansT p.icmp.type then x.sport else x.dport)=0):=⟨fun m=>m.2.2.2.2.2,fun m=>⟨c0,c1,c2,c3,c4,m⟩⟩
  obtain ⟨_,_,_,x4,x5,x6,x7⟩:=c2
  unfold setT setP
  rw [k2]
  rcases hl with hl | hl | hl
  ·obtain ⟨a1,a2⟩:=above1 hl
   rw [a2] at i2
   obtain ⟨g1,g2,g3,g4,g5,g6,g7,g8⟩:=icmpCheck_ok i2
   rw [if_neg (show ¬ p.l4=2 by omega),if_neg (show ¬ p.l4=3 by omega),k6]
   simp only [ZZ,k2,k6,show (p.l4 == 2)=false by rw [hl]; rfl,show (p.l4 == 3)=false by rw [hl]; rfl]
   have hid:=rest_eq (i:=if ansT p.icmp.type then x.dport else x.sport) (r:=p.icmp.rest) (by split <;> omega) (by split <;> omega) g6 g7
   by_cases ha:ansT p.icmp.type
   ·rw [if_pos ha] at hmay hid ⊢
    have hb:(p.icmp.type == 0 || p.icmp.type == 129)=true:=by rcases ha with h | h <;> rw [h] <;> rfl
    by_cases hz:x.sport=0
    ·rw [if_pos (hmay.2 fun _=>hz)]
     have hz' : (x.sport != 0)=false:=by simpa using hz
     rcases ha with h | h <;> simp only [ZZ,h,show ((0:Int) == 0)=true from rfl,show ((129:Int) == 0)=false from rfl,show ((129:Int) == 129)=true from rfl,hz',hid,k6] <;> first | rfl | rw [k2]
    ·rw [if_neg (fun m=>hz (hmay.1 m hl))]
     have hz' : (x.sport != 0)=true:=by simpa using hz
     rcases ha with h | h <;> simp only [ZZ,h,show ((0:Int) == 0)=true from rfl,show ((129:Int) == 0)=false from rfl,show ((129:Int) == 129)=true from rfl,hz'] <;> first | rfl | rw [k2]
   ·rw [if_neg ha] at hmay hid ⊢
    have h0:(p.icmp.type == 0)=false:=by simpa using fun h=>ha (.inl h)
    have h1:(p.icmp.type == 129)=false:=by simpa using fun h=>ha (.inr h)
    by_cases hz:x.dport=0
    ·rw [if_pos (hmay.2 fun _=>hz)]
     have hz' : (x.dport != 0)=false:=by simpa using hz
     simp only [ZZ,h0,h1,hz',hid,k6]
     first | rfl | rw [k2]
    ·rw [if_neg (fun m=>hz (hmay.1 m hl))]
     have hz' : (x.dport != 0)=true:=by simpa using hz
     simp only [ZZ,h0,h1,hz']
     first | rfl | rw [k2]
  ·rw [if_pos (hmay.2 fun hx=>by omega),if_pos hl]
   simp only [ZZ,k2,show (p.l4 == 2)=true by rw [hl]; rfl]
  ·rw [if_pos (hmay.2 fun hx=>by omega),if_neg (by omega),if_pos hl]
   simp only [ZZ,k2,show (p.l4 == 2)=false by rw [hl]; rfl,show (p.l4 == 3)=true by rw [hl]; rfl]
theorem keq_tup (a b:Tup):keq a.av b.av=decide (a=b):=by
 obtain ⟨p,⟨v,l⟩,⟨w,m⟩,s,d⟩:=a
 obtain ⟨p',⟨v',l'⟩,⟨w',m'⟩,s',d'⟩:=b
 simp only [Tup.av,Ip.av,keq,keqs]
 rw [Bool.eq_iff_iff]
 simp
theorem z_bz:Pkt.z.Bz:=by
 have h1:∀ o∈([]:List Opt),o.By:=fun o ho=>absurd ho (List.not_mem_nil)
 have h2:∀ x∈([]:List Ext),x.Bz:=fun x hx=>absurd hx (List.not_mem_nil)
 have h3:([]:List Int).length<2 ^ 44:=by decide
 have h4:([]:List Opt).length<2 ^ 44:=by decide
 have h5:([]:List Ext).length<2 ^ 44:=by decide
 have h6:([]:List Tag).length<2 ^ 44:=by decide
 exact ⟨h6,⟨h1,h4,bytes_nil⟩,⟨h2,h5,bytes_nil,h3⟩,bytes_nil,h3,bytes_nil,⟨h1,h4,bytes_nil⟩⟩
theorem setT_sm {p:Pkt} {x:Tup} (h:p.Sm) (h1:x.src.Ok) (h2:x.dst.Ok):(setT p x).Sm:=by
 have hA:(setA p x.src x.dst).Sm:=by
  unfold setA
  split
  ·exact ⟨⟨h1,h2,h.ok.s6,h.ok.d6,h.ok.dst,h.ok.src,h.ok.smac,h.ok.tmac,h.ok.sip,h.ok.tip,h.ok.o4,h.ok.b4,h.ok.x6,h.ok.b6,h.ok.bi,h.ok.bu,h.ok.ot,h.ok.bt⟩,h.tl,h.o4l,h.o4d,h.d4l,h.x6s,h.x6l,h.d6l,h.dil,h.dul,h.otl,h.otd,h.dtl⟩
  ·exact ⟨⟨h.ok.s4,h.ok.d4,h1,h2,h.ok.dst,h.ok.src,h.ok.smac,h.ok.tmac,h.ok.sip,h.ok.tip,h.ok.o4,h.ok.b4,h.ok.x6,h.ok.b6,h.ok.bi,h.ok.bu,h.ok.ot,h.ok.bt⟩,h.tl,h.o4l,h.o4d,h.d4l,h.x6s,h.x6l,h.d6l,h.dil,h.dul,h.otl,h.otd,h.dtl⟩
 unfold setT
 generalize setA p x.src x.dst=q at hA
 have k:=hA.ok
 unfold setP
 split
 ·exact ⟨⟨k.s4,k.d4,k.s6,k.d6,k.dst,k.src,k.smac,k.tmac,k.sip,k.tip,k.o4,k.b4,k.x6,k.b6,k.bi,k.bu,k.ot,k.bt⟩,hA.tl,hA.o4l,hA.o4d,hA.d4l,hA.x6s,hA.x6l,hA.d6l,hA.dil,hA.dul,hA.otl,hA.otd,hA.dtl⟩
 ·split
  ·exact ⟨⟨k.s4,k.d4,k.s6,k.d6,k.dst,k.src,k.smac,k.tmac,k.sip,k.tip,k.o4,k.b4,k.x6,k.b6,k.bi,k.bu,k.ot,k.bt⟩,hA.tl,hA.o4l,hA.o4d,hA.d4l,hA.x6s,hA.x6l,hA.d6l,hA.dil,hA.dul,hA.otl,hA.otd,hA.dtl⟩
  ·exact ⟨⟨k.s4,k.d4,k.s6,k.d6,k.dst,k.src,k.smac,k.tmac,k.sip,k.tip,k.o4,k.b4,k.x6,k.b6,k.bi,k.bu,k.ot,k.bt⟩,hA.tl,hA.o4l,hA.o4d,hA.d4l,hA.x6s,hA.x6l,hA.d6l,hA.dil,hA.dul,hA.otl,hA.otd,hA.dtl⟩
def in4 (d:Int):Ip:=⟨4,[10,0,0,d,0,0,0,0,0,0,0,0,0,0,0,0]⟩
def ask0:Tup:=⟨17,in4 1,⟨4,[198,51,100,7,0,0,0,0,0,0,0,0,0,0,0,0]⟩,5000,53⟩
def q0:Pkt:={ Pkt.z with src:=[2,0,0,0,0,0],kind:=2,ip4:={ Ip4.z with proto:=17,src:=in4 1,dst:=in4 2 },l4:=2,udp:={ Udp.z with sport:=1,dport:=2 } }
theorem may0:May q0 ask0:=by decide +kernel
theorem in4_ok (d:Int) (h:0≤d∧d≤255):(in4 d).Ok:=by
 refine ⟨rfl,fun x hx=>?_⟩
 have hx:x∈[10,0,0,d,0,0,0,0,0,0,0,0,0,0,0,0]:=hx
 simp only [List.mem_cons,List.mem_nil_iff,or_false] at hx
 omega
theorem ask0_ok:ask0.src.Ok∧ask0.dst.Ok:=by
 refine ⟨in4_ok 1 (by decide),rfl,fun x hx=>?_⟩
 have hx:x∈[198,51,100,7,0,0,0,0,0,0,0,0,0,0,0,0]:=hx
 simp only [List.mem_cons,List.mem_nil_iff,or_false] at hx
 omega
theorem q0_sm:q0.Sm:=by
 have hz:∀ o∈([]:List Opt),Bytes o.data:=fun o ho=>by cases ho
 have m2:([2,0,0,0,0,0]:List Int).length=6∧Bytes [2,0,0,0,0,0]:=⟨rfl,fun x hx=>by
  simp only [List.mem_cons,List.mem_nil_iff,or_false] at hx
  omega⟩
 exact ⟨⟨in4_ok 1 (by decide),in4_ok 2 (by decide),ipz_ok,ipz_ok,mz_ok,m2,mz_ok,mz_ok,ipz_ok,ipz_ok,hz,bytes_nil,fun x hx=>(by cases hx),bytes_nil,bytes_nil,bytes_nil,hz,bytes_nil⟩,Nat.zero_le _,Nat.zero_le _,fun o ho=>(by cases ho),Nat.zero_le _,fun x hx=>(by cases hx),Nat.zero_le _,Nat.zero_le _,Nat.zero_le _,Nat.zero_le _,Nat.zero_le _,fun o ho=>(by cases ho),Nat.zero_le _⟩
def May1 (p:Pkt) (x:Tup):Prop:=(pmade p).2=0∧(tuple p).2=true∧isTup x∧x.proto=(tuple p).1.proto∧x.src.v=(tuple p).1.src.v
instance (p:Pkt) (x:Tup):Decidable (May1 p x):=by unfold May1; infer_instance
def asks (p:Pkt):Bool:=decide (p.l4=1) && (p.icmp.type == 8 || p.icmp.type == 128)
theorem asks_ans {p:Pkt} (hl:p.l4=1) (has:(tuple p).2=true):asks p = !decide (ansT p.icmp.type):=by
 obtain ⟨hk,_⟩:=tuple_has has
 rw [tuple_1 hk hl] at has
 by_cases he:isEcho (endsOf p).v p.icmp
 ·unfold asks
  rw [decide_eq_true hl,Bool.true_and]
  obtain ⟨_,he⟩:=he
  split at he
  ·rcases he with h | h <;> rw [h] <;> decide
  ·rcases he with h | h <;> rw [h] <;> decide
 ·rw [if_neg he] at has; cases has
theorem may_iff (p:Pkt) (x:Tup):May p x↔May1 p x∧(p.l4=1→(if ansT p.icmp.type then x.sport else x.dport)=0):=
 ⟨fun m=>⟨⟨m.1,m.2.1,m.2.2.1,m.2.2.2.1,m.2.2.2.2.1⟩,m.2.2.2.2.2⟩,fun m=>⟨m.1.1,m.1.2.1,m.1.2.2.1,m.1.2.2.2.1,m.1.2.2.2.2,m.2⟩⟩
theorem stq {R:Type} {k:Nat} {o:Option (List AV)} {a:List AV} {f:List AV→Option R} {r:Option R} (e:o=some a) (hk:Nat.beq a.length k=true) (h:f a=r):Option.bind o (fun r0=>brO (Nat.beq (List.length r0) k) (f r0) none)=r:=by
 rw [e]
 show brO (Nat.beq a.length k) (f a) none=r
 rw [hk]
 exact h
theorem jn_s {R:Type} {x:Option (Sum (List AV) R)} {d:List AV} {K:List AV→Option R} {r:Option R} (h:x=some (Sum.inl d)) (h2:K d=r):jn x K=r:=by
 rw [h]
 exact h2
theorem b903' (F14 F22 F27 F904 F905 F906 F909:Fun) (n:Nat) (p:Pkt) (x:Tup) (h:p.Sm) (hx1:x.src.Ok) (hx2:x.dst.Ok)
  (h904:∀ d:Int,F904 n [.int .u8 d]=some [(in4 d).av]) (h906:F906 n []=some [ask0.av]) (h27:∀ p:Pkt,F27 n [p.av]=some [(tuple p).1.av,.bool (tuple p).2])
  (h22:∀ p:Pkt,p.Sm→F22 n [p.av]=some [.int .i64 (pmade p).2])
  (h905:∀ (p:Pkt) (x:Tup),p.Sm→x.src.Ok→x.dst.Ok→F905 n [p.av,x.av]=some [(rewr p x).1.av,.int .i64 (rewr p x).2])
  (h909:∀ x:Tup,x.src.Ok→x.dst.Ok→F909 n [x.av]=some [.bool (decide (isTup x))])
  (h14:∀ a b:Pkt,a.Bz→b.Bz→F14 n [a.av,b.av]=some [.bool (decide (a=b))]):run903 F14 F22 F27 F904 F905 F906 F909 n p.av x.av=some [.bool true]:=by
 rw [eq903]
 have w0:rewr q0 ask0=(setT q0 ask0,0):=if_pos may0
 have e0:=h905 q0 ask0 q0_sm ask0_ok.1 ask0_ok.2
 rw [w0] at e0
 have t0:=h27 (setT q0 ask0)
 rw [tuple_setT may0] at t0
 have ek:=keq_tup ask0 ask0
 rw [decide_eq_true rfl] at ek
 have e0' : F905 n [AV.agg [.arr .u8 6 [0,0,0,0,0,0],.arr .u8 6 [2,0,0,0,0,0],.fv s79 [],.int .i64 2,.agg [.int .i64 0,.arr .u8 6 [0,0,0,0,0,0],Ip.z.av,.arr .u8 6 [0,0,0,0,0,0],Ip.z.av],.agg [.int .i64 0,.int .i64 0,.bool false,.bool false,.int .i64 0,.int .i64 0,.int .i64 17,(in4 1).av,(in4 2).av,.fv s93 [],.fs .u8 []],Ip6.z.av,.int .i64 2,Icmp.z.av,.agg [.int .i64 1,.int .i64 2,.bool false,.fs .u8 []],Tcp.z.av],ask0.av]=some [(setT q0 ask0).av,.int .i64 0]:=e0
 generalize setT q0 ask0=w at e0' t0
 refine stq (h904 1) rfl ?_
 refine stq (h904 2) rfl ?_
 refine stq (h906) rfl ?_
 refine stq e0' rfl ?_
 refine stq t0 rfl ?_
 refine jn_s (d:=[p.av,x.av,w.av,ask0.av]) ?_ ?_
 ·refine jn_s (d:=[p.av,x.av,w.av,ask0.av,.bool false]) ?_ ?_
  ·refine (bF _ _).trans ?_
   refine (bF _ _).trans ?_
   refine stq (h906) rfl ?_
   exact congrArg (fun b:Bool=>some (Sum.inl [p.av,x.av,w.av,ask0.av,AV.bool (!b)])) ek
  ·rfl
 ·refine stq (h27 p) rfl ?_
  refine jn_s (d:=[p.av,x.av,w.av,ask0.av,(tuple p).1.av,.bool (decide (May1 p x))]) ?_ ?_
  ·refine stq (h22 p h) rfl ?_
   by_cases c0:(pmade p).2=0
   rotate_left
   ·rw [decide_eq_false (show ¬ May1 p x from fun m=>c0 m.1)]
    exact brO_f (by exact beq_eq_false_iff_ne.2 c0)
   refine (brO_t (by exact beq_iff_eq.2 c0)).trans ?_
   by_cases c1:(tuple p).2=true
   rotate_left
   ·rw [decide_eq_false (show ¬ May1 p x from fun m=>c1 m.2.1)]
    have c1' : (tuple p).2=false:=by simpa using c1
    exact brO_f (by exact c1')
   refine (brO_t c1).trans ?_
   refine stq (h909 x hx1 hx2) rfl ?_
   by_cases c2:isTup x
   rotate_left
   ·rw [decide_eq_false (show ¬ May1 p x from fun m=>c2 m.2.2.1)]
    exact brO_f (decide_eq_false c2)
   refine (brO_t (decide_eq_true c2)).trans ?_
   by_cases c3:x.proto=(tuple p).1.proto
   rotate_left
   ·rw [decide_eq_false (show ¬ May1 p x from fun m=>c3 m.2.2.2.1)]
    exact brO_f (by exact beq_eq_false_iff_ne.2 c3)
   refine (brO_t (by exact beq_iff_eq.2 c3)).trans ?_
   by_cases c4:x.src.v=(tuple p).1.src.v
   ·rw [decide_eq_true (show May1 p x from ⟨c0,c1,c2,c3,c4⟩)]
    exact congrArg (fun b:Bool=>some (Sum.inl [p.av,x.av,w.av,ask0.av,(tuple p).1.av,AV.bool b])) (beq_iff_eq.2 c4)
   ·rw [decide_eq_false (show ¬ May1 p x from fun m=>c4 m.2.2.2.2)]
    exact congrArg (fun b:Bool=>some (Sum.inl [p.av,x.av,w.av,ask0.av,(tuple p).1.av,AV.bool b])) (beq_eq_false_iff_ne.2 c4)
  ·refine jn_s (d:=[p.av,x.av,w.av,ask0.av,(tuple p).1.av,.bool (decide (May1 p x)),.bool (asks p)]) ?_ ?_
   ·unfold asks
    by_cases hl:p.l4=1
    ·rw [decide_eq_true hl,Bool.true_and]
     refine (brO_t (by exact beq_iff_eq.2 hl)).trans ?_
     by_cases t8:p.icmp.type=8
     ·refine (brO_t (by exact beq_iff_eq.2 t8)).trans ?_
      rw [show (p.icmp.type == 8)=true from beq_iff_eq.2 t8,Bool.true_or]
      rfl
     ·refine (brO_f (by exact beq_eq_false_iff_ne.2 t8)).trans ?_
      rw [show (p.icmp.type == 8)=false from beq_eq_false_iff_ne.2 t8,Bool.false_or]
      rfl
    ·rw [decide_eq_false hl,Bool.false_and]
     exact brO_f (by exact beq_eq_false_iff_ne.2 hl)
   ·refine jn_s (d:=[p.av,x.av,w.av,ask0.av,(tuple p).1.av,.bool (decide (May p x))]) ?_ ?_
    ·refine jn_s (d:=[p.av,x.av,w.av,ask0.av,(tuple p).1.av,.bool (decide (May1 p x)),.bool (asks p),.bool (decide (May1 p x) && decide (p.l4=1))]) ?_ ?_
     ·by_cases c1:May1 p x
      ·rw [decide_eq_true c1,Bool.true_and]
       refine (bT _ _).trans ?_
       by_cases hl:p.l4=1
       ·rw [decide_eq_true hl]
        exact congrArg (fun b:Bool=>some (Sum.inl [p.av,x.av,w.av,ask0.av,(tuple p).1.av,AV.bool true,AV.bool (asks p),AV.bool b])) (beq_iff_eq.2 hl)
       ·rw [decide_eq_false hl]
        exact congrArg (fun b:Bool=>some (Sum.inl [p.av,x.av,w.av,ask0.av,(tuple p).1.av,AV.bool true,AV.bool (asks p),AV.bool b])) (beq_eq_false_iff_ne.2 hl)
      ·rw [decide_eq_false c1,Bool.false_and]
       exact bF _ _
     ·by_cases c1:May1 p x
      ·by_cases hl:p.l4=1
       ·rw [decide_eq_true c1,decide_eq_true hl]
        refine (bT _ _).trans ?_
        rw [asks_ans hl c1.2.1]
        by_cases ha:ansT p.icmp.type
        ·rw [decide_eq_true ha]
         refine (bF _ _).trans ?_
         refine (bT _ _).trans ?_
         by_cases hz:x.sport=0
         ·rw [decide_eq_true (show May p x from (may_iff p x).2 ⟨c1,fun _=>by rw [if_pos ha]; exact hz⟩)]
          exact congrArg (fun b:Bool=>some (Sum.inl [p.av,x.av,w.av,ask0.av,(tuple p).1.av,AV.bool b])) (beq_iff_eq.2 hz)
         ·rw [decide_eq_false (show ¬ May p x from fun m=>hz (by have:=((may_iff p x).1 m).2 hl; rw [if_pos ha] at this; exact this))]
          exact congrArg (fun b:Bool=>some (Sum.inl [p.av,x.av,w.av,ask0.av,(tuple p).1.av,AV.bool b])) (beq_eq_false_iff_ne.2 hz)
        ·rw [decide_eq_false ha]
         refine (bT _ _).trans ?_
         by_cases hz:x.dport=0
         ·rw [decide_eq_true (show May p x from (may_iff p x).2 ⟨c1,fun _=>by rw [if_neg ha]; exact hz⟩)]
          exact brO_t (by exact beq_iff_eq.2 hz)
         ·rw [decide_eq_false (show ¬ May p x from fun m=>hz (by have:=((may_iff p x).1 m).2 hl; rw [if_neg ha] at this; exact this))]
          refine (brO_f (by exact beq_eq_false_iff_ne.2 hz)).trans ?_
          exact bF _ _
       ·rw [decide_eq_true c1,decide_eq_false hl,decide_eq_true (show May p x from (may_iff p x).2 ⟨c1,fun h1=>absurd h1 hl⟩)]
        exact bF _ _
      ·rw [decide_eq_false c1,decide_eq_false (show ¬ May p x from fun m=>c1 ((may_iff p x).1 m).1),Bool.false_and]
       exact bF _ _
    ·refine stq (h905 p x h hx1 hx2) rfl ?_
     by_cases m:May p x
     rotate_left
     ·have er:rewr p x=(Pkt.z,176):=if_neg m
      rw [decide_eq_false m,er]
      refine (bT _ _).trans ?_
      refine (bT _ _).trans ?_
      have e14:=h14 Pkt.z Pkt.z z_bz z_bz
      rw [decide_eq_true rfl] at e14
      exact stq e14 rfl rfl
     ·obtain ⟨r1,r2,r3,r4⟩:=rewr_law h.ok hx1 hx2 m
      have er:rewr p x=(setT p x,0):=if_pos m
      rw [er] at r2 r3 r4
      rw [decide_eq_true m,er]
      have hsm:=setT_sm h hx1 hx2
      have own:=own_ok m.1 m.2.1
      obtain ⟨_,_,hs,hd⟩:=tuple_has m.2.1
      have hO:=ends_ok h.ok
      have e27:=h27 (setT p x)
      have e22:=h22 (setT p x) hsm
      have e27p:=h27 p
      have e905:=h905 (setT p x) (tuple p).1 hsm (by rw [hs]; exact hO.1) (by rw [hd]; exact hO.2)
      have e14:=h14 p p h.bz h.bz
      rw [decide_eq_true rfl] at e14
      rw [r2] at e22
      rw [r3] at e27
      rw [m.2.1] at e27p
      dsimp only at r4
      rw [r4] at e905
      generalize setT p x=q at e27 e22 e905
      generalize (tuple p).1=o at e27p e905
      have kx:=keq_tup x x
      rw [decide_eq_true rfl] at kx
      have ko:=keq_tup o o
      rw [decide_eq_true rfl] at ko
      refine (bF _ _).trans ?_
      refine jn_s (d:=[p.av,x.av,q.av,ask0.av,o.av]) ?_ ?_
      ·refine jn_s (d:=[p.av,x.av,q.av,ask0.av,o.av,.bool false]) ?_ ?_
       ·refine (bF _ _).trans ?_
        exact stq e22 rfl rfl
       ·rfl
      ·refine stq e27 rfl ?_
       refine stq e27p rfl ?_
       refine stq e905 rfl ?_
       refine (bT _ _).trans ?_
       refine (brO_t kx).trans ?_
       refine (bT _ _).trans ?_
       refine (brO_t ko).trans ?_
       refine (bT _ _).trans ?_
       exact stq e14 rfl rfl
def N0:Nat:=18446744073709551616
theorem hN0:2 ^ 63<N0:=by unfold N0; decide
theorem a904 (n:Nat) (d:Int):A904 n [.int .u8 d]=some [(in4 d).av]:=by
 show run904 n d=_
 rw [eq904]
 rfl
theorem a906 (n:Nat):A906 n []=some [ask0.av]:=by
 show run906 A904 n=_
 rw [eq906]
 refine stq (a904 n 1) rfl ?_
 rfl
theorem b903 (p:Pkt) (x:Tup) (h:p.Sm) (h1:x.src.Ok) (h2:x.dst.Ok):A903 N0 [p.av,x.av]=some [.bool true]:=by
 show run903 A14 A22 A27 A904 A905 A906 A909 N0 p.av x.av=_
 exact b903' A14 A22 A27 A904 A905 A906 A909 N0 p x h h1 h2 (a904 N0) (a906 N0) (a27 N0) (a22 N0 hN0) (a905 N0 hN0) (a909 N0 hN0) (a14 N0 hN0)
end Go.Proofs.YtlmnjnhmhacgkaaDoor.Am
end
