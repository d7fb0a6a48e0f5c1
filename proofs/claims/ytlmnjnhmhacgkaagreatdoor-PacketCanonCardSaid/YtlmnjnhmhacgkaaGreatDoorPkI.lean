/-
  What the law's functions compute.
-/
import Derived.Test.YtlmnjnhmhacgkaaGreatDoorPkF
import Derived.Test.YtlmnjnhmhacgkaaGreatDoorPkE
import Derived.Test.YtlmnjnhmhacgkaaGreatDoorPkG
section
set_option linter.unusedVariables false
set_option linter.unusedSimpArgs false
set_option maxRecDepth 100000
namespace Go.Proofs.YtlmnjnhmhacgkaaGreatDoor.Am
open Go Go.Am Go.Proofs
theorem zF {α:Type} {f:α->AV} {l:List α} {i:Nat} (h:i<l.length):getE (l.map f) i=f l[i]:=by
 unfold getE;simp [List.getD_eq_getElem?_getD,h]
theorem tP:∀ {l m:List Int},Bytes l->Bytes m->((l.map Go.Am.toU8 == m.map Go.Am.toU8)=decide (l=m))
 | [],[],_,_=>rfl
 | [],y::m,_,_=>rfl
 | x::l,[],_,_=>rfl
 | x::l,y::m,hl,hm=>by
  have h1:=hl x (List.mem_cons_self ..);have h2:=hm y (List.mem_cons_self ..);have ih:=tP (l:=l) (m:=m) (fun z hz=>hl z (List.mem_cons_of_mem _ hz)) (fun z hz=>hm z (List.mem_cons_of_mem _ hz));rw [List.map_cons,List.map_cons]
  show (Go.Am.toU8 x == Go.Am.toU8 y && l.map Go.Am.toU8 == m.map Go.Am.toU8)=_;rw [ih]
  have e:(Go.Am.toU8 x == Go.Am.toU8 y)=decide (x=y):=by
   rw [Bool.eq_iff_iff,beq_iff_eq,decide_eq_true_iff];constructor
   ·intro h;have:=congrArg UInt8.toNat h;unfold Go.Am.toU8 at this;rw [UInt8.toNat_ofNat_of_lt' (by show x.toNat<256; omega),UInt8.toNat_ofNat_of_lt' (by show y.toNat<256; omega)] at this;omega
   ·intro h; rw [h]
  rw [e,Bool.eq_iff_iff];simp
theorem a70 (n:Nat) (l m:List Int) (hl:Bytes l) (hm:Bytes m):A70 n [.fs .u8 l,.fs .u8 m]=some [.bool (decide (l=m))]:=by
 show run70 n l m=_;rw [eq70,tP hl hm]
theorem a74 (n:Nat) (l m:List Int) (hl:Bytes l) (hm:Bytes m):A74 n [.fs .u8 l,.fs .u8 m]=some [.bool (decide (l=m))]:=by
 show run74 n l m=_;rw [eq74,tP hl hm]
theorem a18 (n:Nat) (l m:List Int) (hl:Bytes l) (hm:Bytes m):A18 n [.fs .u8 l,.fs .u8 m]=some [.bool (decide (l=m))]:=by
 show run18 n l m=_;rw [eq18,tP hl hm]
theorem qh (a b:List Int):keq (.arr .u8 6 a) (.arr .u8 6 b)=decide (a=b):=by
 show (IntKind.u8 == IntKind.u8 && (Nat.beq 6 6 && a == b))=_;rw [show (IntKind.u8 == IntKind.u8)=true from rfl,show Nat.beq 6 6=true from rfl,Bool.true_and,Bool.true_and];rw [Bool.eq_iff_iff]; simp
theorem qa (a b:Ip):keq a.av b.av=decide (a=b):=by
 obtain ⟨v,l⟩:=a;obtain ⟨w,m⟩:=b;simp only [Ip.av,keq,cW];rw [Bool.eq_iff_iff];simp
theorem qd (a b:Frag):keq a.av b.av=decide (a=b):=by
 obtain ⟨a1,a2,a3,a4⟩:=a;obtain ⟨b1,b2,b3,b4⟩:=b;simp only [Frag.av,keq,cW];rw [Bool.eq_iff_iff];simp
theorem qc (a b:Tag):keq a.av b.av=decide (a=b):=by
 obtain ⟨a1,a2,a3,a4⟩:=a;obtain ⟨b1,b2,b3,b4⟩:=b;simp only [Tag.av,keq,cW];rw [Bool.eq_iff_iff];simp
theorem qf (a b:Arp):keq a.av b.av=decide (a=b):=by
 obtain ⟨p,s,⟨v,l⟩,t,⟨w,m⟩⟩:=a;obtain ⟨p',s',⟨v',l'⟩,t',⟨w',m'⟩⟩:=b;simp only [Arp.av,Ip.av,keq,cW];rw [Bool.eq_iff_iff];simp
theorem vK {α:Type} {l m:List α} {i:Nat} (hl:i<l.length) (hm:i<m.length):(l.drop i=m.drop i)↔(l[i]=m[i]/\l.drop (i+1)=m.drop (i+1)):=by
 rw [List.drop_eq_getElem_cons hl,List.drop_eq_getElem_cons hm,List.cons.injEq]
def Opt.By (o:Opt):Prop:=Bytes o.data
def Ext.By (x:Ext):Prop:=Bytes x.data/\∀ o∈x.opts,o.By
theorem a113 (n:Nat) (a b:Opt) (ha:a.By) (hb:b.By):A113 n [a.av,b.av]=some [.bool (decide (a=b))]:=by
 show run113 A70 n a.av b.av=_;rw [eq113];have h70:=a70 n a.data b.data ha hb
 by_cases h:a=b
 ·subst h;simp [ZY,qa,qd,qf,qc,qh,h70]
 by_cases c0:a.kind=b.kind
 rotate_left
 ·have hne:a≠b:=fun h=>c0 (by rw [h])
  simp [ZY,qa,qd,qf,qc,qh,h70,c0,hne]
 by_cases c1:a.data=b.data
 rotate_left
 ·have hne:a≠b:=fun h=>c1 (by rw [h])
  rw [decide_eq_false c1] at h70;simp [ZY,qa,qd,qf,qc,qh,h70,c0,hne]
 rw [decide_eq_true c1] at h70
 ·exact absurd (by
   cases a; cases b
   simp_all) h
theorem a112 (n:Nat) (hn:2 ^ 63<n) (l m:List Opt) (hl:∀ o∈l,o.By) (hm:∀ o∈m,o.By) (hll:l.length<2 ^ 44):A112 n [.fv s93 (l.map Opt.av),.fv s93 (m.map Opt.av),.nili]=some [.bool (decide (l=m))]:=by
 show run112 A113 n (l.map Opt.av) (m.map Opt.av)=_;rw [eq112]
 by_cases hlen:l.length=m.length
 rotate_left
 ·have hne:l≠m:=fun h=>hlen (by rw [h])
  have hlen' : ¬ ((l.length:Int)=(m.length:Int)):=by omega
  simp [ZY,hlen',hne]
 simp only [List.length_map,Int.ofNat_eq_natCast];rw [qi (by simp; omega)];refine wZ (fun i:Nat=>[.fv s93 (m.map Opt.av),.fv s93 (l.map Opt.av),.int .i64 (l.length:Nat),.int .i64 (i:Nat)]) (fun i=>l.length - i) (fun i=>if l.drop i=m.drop i then .inl [] else .inr [.bool false]) (fun i=>i<=l.length) 0 (by show l.length - 0<n; omega) (Nat.zero_le _) (fun i K hi hK=>?_) ?_
 ·simp only [ZZ,List.length_map]
  by_cases hi2:i<l.length
  ·have hw:IntKind.wrap .i64 ((i:Int)+1)=((i+1:Nat):Int):=by rw [qv (by omega) (by omega)]; omega
   have hK1:=hK (i+1) (by show l.length - (i+1)<l.length - i; omega) (by show i+1<=l.length; omega);have hc:=a113 n l[i] m[i] (hl _ (List.getElem_mem hi2)) (hm _ (List.getElem_mem (by omega)));rw [qp (by simpa using hi2),ql hi2,ql (show i<m.length by omega)];simp only [ZZ,Int.toNat_natCast,zF hi2,zF (show i<m.length by omega),hc,hw]
   by_cases he:l[i]=m[i]
   ·have e:(l.drop i=m.drop i)=(l.drop (i+1)=m.drop (i+1)):=propext ((vK hi2 (by omega)).trans ⟨fun h=>h.2,fun h=>⟨he,h⟩⟩);have e2:(if l.drop i=m.drop i then (Sum.inl []:Sum (List AV) (List AV)) else .inr [.bool false])=(if l.drop (i+1)=m.drop (i+1) then (Sum.inl []:Sum (List AV) (List AV)) else .inr [.bool false]):=by simp only [e]
    rw [e2,decide_eq_true he];exact hK1
   ·rw [if_neg (fun h=>he ((vK hi2 (by omega)).1 h).1),decide_eq_false he];rfl
  ·have:i=l.length:=by have:i<=l.length:=hi; omega
   subst this;rw [qi (by simp),if_pos (by rw [List.drop_length,hlen,List.drop_length])]
 ·rw [List.drop_zero,List.drop_zero]
  by_cases h:l=m
  ·rw [if_pos h,decide_eq_true h]; rfl
  ·rw [if_neg h,decide_eq_false h]; rfl
theorem a69 (n:Nat) (hn:2 ^ 63<n) (l m:List Opt) (hl:∀ o∈l,o.By) (hm:∀ o∈m,o.By) (hll:l.length<2 ^ 44):A69 n [.fv s93 (l.map Opt.av),.fv s93 (m.map Opt.av)]=some [.bool (decide (l=m))]:=by
 show run69 A112 n (l.map Opt.av) (m.map Opt.av)=_;rw [eq69];simp only [ZZ,a112 n hn l m hl hm hll]
def Ext.Bz (x:Ext):Prop:=x.By/\x.opts.length<2 ^ 44
theorem a72 (n:Nat) (hn:2 ^ 63<n) (a b:Ext) (ha:a.Bz) (hb:b.Bz):A72 n [a.av,b.av]=some [.bool (decide (a=b))]:=by
 show run72 A69 A70 n a.av b.av=_;rw [eq72];have h69:=a69 n hn a.opts b.opts ha.1.2 hb.1.2 ha.2;have h70:=a70 n a.data b.data ha.1.1 hb.1.1
 by_cases h:a=b
 ·subst h;simp [ZY,qa,qd,qf,qc,qh,h69,h70]
 by_cases c0:a.kind=b.kind
 rotate_left
 ·have hne:a≠b:=fun h=>c0 (by rw [h])
  simp [ZY,qa,qd,qf,qc,qh,h69,h70,c0,hne]
 by_cases c1:a.opts=b.opts
 rotate_left
 ·have hne:a≠b:=fun h=>c1 (by rw [h])
  rw [decide_eq_false c1] at h69;simp [ZY,qa,qd,qf,qc,qh,h69,h70,c0,hne]
 rw [decide_eq_true c1] at h69
 by_cases c2:a.data=b.data
 rotate_left
 ·have hne:a≠b:=fun h=>c2 (by rw [h])
  rw [decide_eq_false c2] at h70;simp [ZY,qa,qd,qf,qc,qh,h69,h70,c0,hne]
 rw [decide_eq_true c2] at h70
 ·exact absurd (by
   cases a; cases b
   simp_all) h
theorem a71 (n:Nat) (hn:2 ^ 63<n) (l m:List Ext) (hl:∀ o∈l,o.Bz) (hm:∀ o∈m,o.Bz) (hll:l.length<2 ^ 44):A71 n [.fv s124 (l.map Ext.av),.fv s124 (m.map Ext.av),.nili]=some [.bool (decide (l=m))]:=by
 show run71 A72 n (l.map Ext.av) (m.map Ext.av)=_;rw [eq71]
 by_cases hlen:l.length=m.length
 rotate_left
 ·have hne:l≠m:=fun h=>hlen (by rw [h])
  have hlen' : ¬ ((l.length:Int)=(m.length:Int)):=by omega
  simp [ZY,hlen',hne]
 simp only [List.length_map,Int.ofNat_eq_natCast];rw [qi (by simp; omega)];refine wZ (fun i:Nat=>[.fv s124 (m.map Ext.av),.fv s124 (l.map Ext.av),.int .i64 (l.length:Nat),.int .i64 (i:Nat)]) (fun i=>l.length - i) (fun i=>if l.drop i=m.drop i then .inl [] else .inr [.bool false]) (fun i=>i<=l.length) 0 (by show l.length - 0<n; omega) (Nat.zero_le _) (fun i K hi hK=>?_) ?_
 ·simp only [ZZ,List.length_map]
  by_cases hi2:i<l.length
  ·have hw:IntKind.wrap .i64 ((i:Int)+1)=((i+1:Nat):Int):=by rw [qv (by omega) (by omega)]; omega
   have hK1:=hK (i+1) (by show l.length - (i+1)<l.length - i; omega) (by show i+1<=l.length; omega);have hc:=a72 n hn l[i] m[i] (hl _ (List.getElem_mem hi2)) (hm _ (List.getElem_mem (by omega)));rw [qp (by simpa using hi2),ql hi2,ql (show i<m.length by omega)];simp only [ZZ,Int.toNat_natCast,zF hi2,zF (show i<m.length by omega),hc,hw]
   by_cases he:l[i]=m[i]
   ·have e:(l.drop i=m.drop i)=(l.drop (i+1)=m.drop (i+1)):=propext ((vK hi2 (by omega)).trans ⟨fun h=>h.2,fun h=>⟨he,h⟩⟩);have e2:(if l.drop i=m.drop i then (Sum.inl []:Sum (List AV) (List AV)) else .inr [.bool false])=(if l.drop (i+1)=m.drop (i+1) then (Sum.inl []:Sum (List AV) (List AV)) else .inr [.bool false]):=by simp only [e]
    rw [e2,decide_eq_true he];exact hK1
   ·rw [if_neg (fun h=>he ((vK hi2 (by omega)).1 h).1),decide_eq_false he];rfl
  ·have:i=l.length:=by have:i<=l.length:=hi; omega
   subst this;rw [qi (by simp),if_pos (by rw [List.drop_length,hlen,List.drop_length])]
 ·rw [List.drop_zero,List.drop_zero]
  by_cases h:l=m
  ·rw [if_pos h,decide_eq_true h]; rfl
  ·rw [if_neg h,decide_eq_false h]; rfl
theorem a34 (n:Nat) (hn:2 ^ 63<n) (l m:List Tag) (hll:l.length<2 ^ 44):A34 n [.fv s79 (l.map Tag.av),.fv s79 (m.map Tag.av)]=some [.bool (decide (l=m))]:=by
 show run34 n (l.map Tag.av) (m.map Tag.av)=_;rw [eq34]
 by_cases hlen:l.length=m.length
 rotate_left
 ·have hne:l≠m:=fun h=>hlen (by rw [h])
  have hlen' : ¬ ((l.length:Int)=(m.length:Int)):=by omega
  simp [ZY,hlen',hne]
 simp only [List.length_map,Int.ofNat_eq_natCast];rw [qi (by simp; omega)];refine wZ (fun i:Nat=>[.fv s79 (l.map Tag.av),.fv s79 (m.map Tag.av),.int .i64 (l.length:Nat),.int .i64 (i:Nat)]) (fun i=>l.length - i) (fun i=>if l.drop i=m.drop i then .inl [] else .inr [.bool false]) (fun i=>i<=l.length) 0 (by show l.length - 0<n; omega) (Nat.zero_le _) (fun i K hi hK=>?_) ?_
 ·simp only [ZZ,List.length_map]
  by_cases hi2:i<l.length
  ·have hw:IntKind.wrap .i64 ((i:Int)+1)=((i+1:Nat):Int):=by rw [qv (by omega) (by omega)]; omega
   have hK1:=hK (i+1) (by show l.length - (i+1)<l.length - i; omega) (by show i+1<=l.length; omega);rw [qp (by simpa using hi2),ql hi2,ql (show i<m.length by omega)];simp only [ZZ,Int.toNat_natCast,zF hi2,zF (show i<m.length by omega),qc,hw]
   by_cases he:l[i]=m[i]
   ·have e:(l.drop i=m.drop i)=(l.drop (i+1)=m.drop (i+1)):=propext ((vK hi2 (by omega)).trans ⟨fun h=>h.2,fun h=>⟨he,h⟩⟩);have e2:(if l.drop i=m.drop i then (Sum.inl []:Sum (List AV) (List AV)) else .inr [.bool false])=(if l.drop (i+1)=m.drop (i+1) then (Sum.inl []:Sum (List AV) (List AV)) else .inr [.bool false]):=by simp only [e]
    rw [e2,decide_eq_true he];exact hK1
   ·rw [if_neg (fun h=>he ((vK hi2 (by omega)).1 h).1),decide_eq_false he];rfl
  ·have:i=l.length:=by have:i<=l.length:=hi; omega
   subst this;rw [qi (by simp),if_pos (by rw [List.drop_length,hlen,List.drop_length])]
 ·rw [List.drop_zero,List.drop_zero]
  by_cases h:l=m
  ·rw [if_pos h,decide_eq_true h]; rfl
  ·rw [if_neg h,decide_eq_false h]; rfl
structure Ip4.Bz (h:Ip4):Prop where
 o:∀ o∈h.opts,o.By
 l:h.opts.length<2 ^ 44
 d:Bytes h.data
structure Ip6.Bz (h:Ip6):Prop where
 x:∀ x∈h.exts,x.Bz
 l:h.exts.length<2 ^ 44
 d:Bytes h.data
 dl:h.data.length<2 ^ 44
structure Tcp.Bz (h:Tcp):Prop where
 o:∀ o∈h.opts,o.By
 l:h.opts.length<2 ^ 44
 d:Bytes h.data
structure Pkt.Bz (p:Pkt):Prop where
 t:p.tags.length<2 ^ 44
 i4:p.ip4.Bz
 i6:p.ip6.Bz
 ic:Bytes p.icmp.data
 icl:p.icmp.data.length<2 ^ 44
 u:Bytes p.udp.data
 tc:p.tcp.Bz
theorem a35 (n:Nat) (hn:2 ^ 63<n) (a b:Ip4) (ha:a.Bz) (hb:b.Bz):A35 n [a.av,b.av]=some [.bool (decide (a=b))]:=by
 show run35 A69 A70 n a.av b.av=_;rw [eq35];have h69:=a69 n hn a.opts b.opts ha.o hb.o ha.l;have h70:=a70 n a.data b.data ha.d hb.d
 by_cases h:a=b
 ·subst h;simp [ZY,qa,qd,qf,qc,qh,h69,h70]
 by_cases c0:a.tos=b.tos
 rotate_left
 ·have hne:a≠b:=fun h=>c0 (by rw [h])
  simp [ZY,qa,qd,qf,qc,qh,h69,h70,c0,hne]
 by_cases c1:a.id=b.id
 rotate_left
 ·have hne:a≠b:=fun h=>c1 (by rw [h])
  simp [ZY,qa,qd,qf,qc,qh,h69,h70,c0,c1,hne]
 by_cases c2:a.df=b.df
 rotate_left
 ·have hne:a≠b:=fun h=>c2 (by rw [h])
  simp [ZY,qa,qd,qf,qc,qh,h69,h70,c0,c1,c2,hne]
 by_cases c3:a.mf=b.mf
 rotate_left
 ·have hne:a≠b:=fun h=>c3 (by rw [h])
  simp [ZY,qa,qd,qf,qc,qh,h69,h70,c0,c1,c2,c3,hne]
 by_cases c4:a.off=b.off
 rotate_left
 ·have hne:a≠b:=fun h=>c4 (by rw [h])
  simp [ZY,qa,qd,qf,qc,qh,h69,h70,c0,c1,c2,c3,c4,hne]
 by_cases c5:a.ttl=b.ttl
 rotate_left
 ·have hne:a≠b:=fun h=>c5 (by rw [h])
  simp [ZY,qa,qd,qf,qc,qh,h69,h70,c0,c1,c2,c3,c4,c5,hne]
 by_cases c6:a.proto=b.proto
 rotate_left
 ·have hne:a≠b:=fun h=>c6 (by rw [h])
  simp [ZY,qa,qd,qf,qc,qh,h69,h70,c0,c1,c2,c3,c4,c5,c6,hne]
 by_cases c7:a.src=b.src
 rotate_left
 ·have hne:a≠b:=fun h=>c7 (by rw [h])
  simp [ZY,qa,qd,qf,qc,qh,h69,h70,c0,c1,c2,c3,c4,c5,c6,c7,hne]
 by_cases c8:a.dst=b.dst
 rotate_left
 ·have hne:a≠b:=fun h=>c8 (by rw [h])
  simp [ZY,qa,qd,qf,qc,qh,h69,h70,c0,c1,c2,c3,c4,c5,c6,c7,c8,hne]
 by_cases c9:a.opts=b.opts
 rotate_left
 ·have hne:a≠b:=fun h=>c9 (by rw [h])
  rw [decide_eq_false c9] at h69;simp [ZY,qa,qd,qf,qc,qh,h69,h70,c0,c1,c2,c3,c4,c5,c6,c7,c8,hne]
 rw [decide_eq_true c9] at h69
 by_cases c10:a.data=b.data
 rotate_left
 ·have hne:a≠b:=fun h=>c10 (by rw [h])
  rw [decide_eq_false c10] at h70;simp [ZY,qa,qd,qf,qc,qh,h69,h70,c0,c1,c2,c3,c4,c5,c6,c7,c8,hne]
 rw [decide_eq_true c10] at h70
 ·exact absurd (by
   cases a; cases b
   simp_all) h
theorem a36 (n:Nat) (hn:2 ^ 63<n) (a b:Ip6) (ha:a.Bz) (hb:b.Bz):A36 n [a.av,b.av]=some [.bool (decide (a=b))]:=by
 show run36 A70 A71 n a.av b.av=_;rw [eq36];have h71:=a71 n hn a.exts b.exts ha.x hb.x ha.l;have h70:=a70 n a.data b.data ha.d hb.d
 by_cases h:a=b
 ·subst h;simp [ZY,qa,qd,qf,qc,qh,h71,h70]
 by_cases c0:a.cls=b.cls
 rotate_left
 ·have hne:a≠b:=fun h=>c0 (by rw [h])
  simp [ZY,qa,qd,qf,qc,qh,h71,h70,c0,hne]
 by_cases c1:a.flow=b.flow
 rotate_left
 ·have hne:a≠b:=fun h=>c1 (by rw [h])
  simp [ZY,qa,qd,qf,qc,qh,h71,h70,c0,c1,hne]
 by_cases c2:a.hop=b.hop
 rotate_left
 ·have hne:a≠b:=fun h=>c2 (by rw [h])
  simp [ZY,qa,qd,qf,qc,qh,h71,h70,c0,c1,c2,hne]
 by_cases c3:a.next=b.next
 rotate_left
 ·have hne:a≠b:=fun h=>c3 (by rw [h])
  simp [ZY,qa,qd,qf,qc,qh,h71,h70,c0,c1,c2,c3,hne]
 by_cases c4:a.src=b.src
 rotate_left
 ·have hne:a≠b:=fun h=>c4 (by rw [h])
  simp [ZY,qa,qd,qf,qc,qh,h71,h70,c0,c1,c2,c3,c4,hne]
 by_cases c5:a.dst=b.dst
 rotate_left
 ·have hne:a≠b:=fun h=>c5 (by rw [h])
  simp [ZY,qa,qd,qf,qc,qh,h71,h70,c0,c1,c2,c3,c4,c5,hne]
 by_cases c6:a.frag=b.frag
 rotate_left
 ·have hne:a≠b:=fun h=>c6 (by rw [h])
  simp [ZY,qa,qd,qf,qc,qh,h71,h70,c0,c1,c2,c3,c4,c5,c6,hne]
 by_cases c7:a.exts=b.exts
 rotate_left
 ·have hne:a≠b:=fun h=>c7 (by rw [h])
  rw [decide_eq_false c7] at h71;simp [ZY,qa,qd,qf,qc,qh,h71,h70,c0,c1,c2,c3,c4,c5,c6,hne]
 rw [decide_eq_true c7] at h71
 by_cases c8:a.data=b.data
 rotate_left
 ·have hne:a≠b:=fun h=>c8 (by rw [h])
  rw [decide_eq_false c8] at h70;simp [ZY,qa,qd,qf,qc,qh,h71,h70,c0,c1,c2,c3,c4,c5,c6,hne]
 rw [decide_eq_true c8] at h70
 ·exact absurd (by
   cases a; cases b
   simp_all) h
def upE (a b:Pkt):Prop:=a.icmp=b.icmp/\a.udp=b.udp/\a.tcp=b.tcp
instance (a b:Pkt):Decidable (upE a b):=by unfold upE; infer_instance
theorem lx (a b:Icmp):a=b↔a.v=b.v/\a.type=b.type/\a.code=b.code/\a.rest=b.rest/\a.data=b.data:=by
 cases a; cases b; simp
theorem Wy (a b:Udp):a=b↔a.sport=b.sport/\a.dport=b.dport/\a.nosum=b.nosum/\a.data=b.data:=by
 cases a; cases b; simp
theorem Zb (a b:Tcp):a=b↔a.sport=b.sport/\a.dport=b.dport/\a.seq=b.seq/\a.ack=b.ack/\a.flags=b.flags/\a.win=b.win/\a.urg=b.urg/\a.opts=b.opts/\a.data=b.data:=by
 cases a; cases b; simp
theorem a37 (n:Nat) (hn:2 ^ 63<n) (a b:Pkt) (ha:a.Bz) (hb:b.Bz):A37 n [a.av,b.av]=some [.bool (decide (upE a b))]:=by
 show run37 A69 A70 n a.av b.av=_;rw [eq37];have h69:=a69 n hn a.tcp.opts b.tcp.opts ha.tc.o hb.tc.o ha.tc.l;have h70i:=a70 n a.icmp.data b.icmp.data ha.ic hb.ic;have h70u:=a70 n a.udp.data b.udp.data ha.u hb.u;have h70t:=a70 n a.tcp.data b.tcp.data ha.tc.d hb.tc.d
 have k1:∀ (K:List AV->Option (List AV)),jn (brO (a.icmp.v == b.icmp.v) (brO (a.icmp.type == b.icmp.type) (brO (a.icmp.code == b.icmp.code) (brO (a.icmp.rest == b.icmp.rest) (some (Sum.inl [a.av,b.av,.bool (decide (a.icmp.data=b.icmp.data))])) (some (Sum.inl [a.av,b.av,.bool false]))) (some (Sum.inl [a.av,b.av,.bool false]))) (some (Sum.inl [a.av,b.av,.bool false]))) (some (Sum.inl [a.av,b.av,.bool false]))) K=K [a.av,b.av,.bool (decide (a.icmp=b.icmp))]:=by
  intro K;have e:=lx a.icmp b.icmp
  by_cases h:a.icmp=b.icmp
  ·rw [decide_eq_true h];obtain ⟨e1,e2,e3,e4,e5⟩:=e.1 h;simp [ZY,e1,e2,e3,e4,e5]
  ·rw [decide_eq_false h]
   by_cases c1:a.icmp.v=b.icmp.v
   ·by_cases c2:a.icmp.type=b.icmp.type
    ·by_cases c3:a.icmp.code=b.icmp.code
     ·by_cases c4:a.icmp.rest=b.icmp.rest
      ·have c5:¬ a.icmp.data=b.icmp.data:=fun c5=>h (e.2 ⟨c1,c2,c3,c4,c5⟩)
       simp [ZY,c1,c2,c3,c4,c5]
      ·simp [ZY,c1,c2,c3,c4]
     ·simp [ZY,c1,c2,c3]
    ·simp [ZY,c1,c2]
   ·simp [ZY,c1]
 simp only [ZZ,h70i];refine Eq.trans (k1 _) ?_
 have k2:∀ (c:Bool) (K:List AV->Option (List AV)),jn (brO (a.udp.sport == b.udp.sport) (brO (a.udp.dport == b.udp.dport) (brO (a.udp.nosum == b.udp.nosum) (some (Sum.inl [a.av,b.av,.bool c,.bool (decide (a.udp.data=b.udp.data))])) (some (Sum.inl [a.av,b.av,.bool c,.bool false]))) (some (Sum.inl [a.av,b.av,.bool c,.bool false]))) (some (Sum.inl [a.av,b.av,.bool c,.bool false]))) K=K [a.av,b.av,.bool c,.bool (decide (a.udp=b.udp))]:=by
  intro c K;have e:=Wy a.udp b.udp
  by_cases h:a.udp=b.udp
  ·rw [decide_eq_true h];obtain ⟨e1,e2,e3,e4⟩:=e.1 h;simp [ZY,e1,e2,e3,e4]
  ·rw [decide_eq_false h]
   by_cases c1:a.udp.sport=b.udp.sport
   ·by_cases c2:a.udp.dport=b.udp.dport
    ·by_cases c3:a.udp.nosum=b.udp.nosum
     ·have c4:¬ a.udp.data=b.udp.data:=fun c4=>h (e.2 ⟨c1,c2,c3,c4⟩)
      simp [ZY,c1,c2,c3,c4]
     ·simp [ZY,c1,c2,c3]
    ·simp [ZY,c1,c2]
   ·simp [ZY,c1]
 simp only [ZZ,h70u];refine Eq.trans (k2 _ _) ?_;have e:=Zb a.tcp b.tcp;unfold upE
 by_cases h:a.tcp=b.tcp
 ·obtain ⟨e1,e2,e3,e4,e5,e6,e7,e8,e9⟩:=e.1 h
  by_cases hi:a.icmp=b.icmp
  ·by_cases hu:a.udp=b.udp
   ·rw [decide_eq_true e8] at h69;rw [decide_eq_true e9] at h70t;rw [decide_eq_true hi,decide_eq_true hu,decide_eq_true (show a.icmp=b.icmp/\a.udp=b.udp/\a.tcp=b.tcp from ⟨hi,hu,h⟩)];simp [ZY,h69,h70t,e1,e2,e3,e4,e5,e6,e7]
   ·rw [decide_eq_true hi,decide_eq_false hu,decide_eq_false (show ¬ (a.icmp=b.icmp/\a.udp=b.udp/\a.tcp=b.tcp) from fun hx=>hu hx.2.1)];simp [ZY,e1,e2,e3,e4,e5,e6,e7]
  ·rw [decide_eq_false hi,decide_eq_false (show ¬ (a.icmp=b.icmp/\a.udp=b.udp/\a.tcp=b.tcp) from fun hx=>hi hx.1)];simp [ZY,e1,e2,e3,e4,e5,e6,e7]
 ·by_cases hi:a.icmp=b.icmp
  ·by_cases hu:a.udp=b.udp
   ·rw [decide_eq_true hi,decide_eq_true hu,decide_eq_false (show ¬ (a.icmp=b.icmp/\a.udp=b.udp/\a.tcp=b.tcp) from fun hx=>h hx.2.2)]
    by_cases c1:a.tcp.sport=b.tcp.sport
    rotate_left
    ·simp [ZY,c1]
    by_cases c2:a.tcp.dport=b.tcp.dport
    rotate_left
    ·simp [ZY,c1,c2]
    by_cases c3:a.tcp.seq=b.tcp.seq
    rotate_left
    ·simp [ZY,c1,c2,c3]
    by_cases c4:a.tcp.ack=b.tcp.ack
    rotate_left
    ·simp [ZY,c1,c2,c3,c4]
    by_cases c5:a.tcp.flags=b.tcp.flags
    rotate_left
    ·simp [ZY,c1,c2,c3,c4,c5]
    by_cases c6:a.tcp.win=b.tcp.win
    rotate_left
    ·simp [ZY,c1,c2,c3,c4,c5,c6]
    by_cases c7:a.tcp.urg=b.tcp.urg
    rotate_left
    ·simp [ZY,c1,c2,c3,c4,c5,c6,c7]
    by_cases c8:a.tcp.opts=b.tcp.opts
    rotate_left
    ·rw [decide_eq_false c8] at h69;simp [ZY,h69,h70t,c1,c2,c3,c4,c5,c6,c7]
    ·rw [decide_eq_true c8] at h69;have c9:¬ a.tcp.data=b.tcp.data:=fun c9=>h (e.2 ⟨c1,c2,c3,c4,c5,c6,c7,c8,c9⟩)
     rw [decide_eq_false c9] at h70t;simp [ZY,h69,h70t,c1,c2,c3,c4,c5,c6,c7]
   ·rw [decide_eq_true hi,decide_eq_false hu,decide_eq_false (show ¬ (a.icmp=b.icmp/\a.udp=b.udp/\a.tcp=b.tcp) from fun hx=>hu hx.2.1)]
    by_cases c1:a.tcp.sport=b.tcp.sport <;> by_cases c2:a.tcp.dport=b.tcp.dport <;> by_cases c3:a.tcp.seq=b.tcp.seq <;> by_cases c4:a.tcp.ack=b.tcp.ack <;> by_cases c5:a.tcp.flags=b.tcp.flags <;> by_cases c6:a.tcp.win=b.tcp.win <;> simp [ZY,c1,c2,c3,c4,c5,c6]
  ·rw [decide_eq_false hi,decide_eq_false (show ¬ (a.icmp=b.icmp/\a.udp=b.udp/\a.tcp=b.tcp) from fun hx=>hi hx.1)]
   by_cases c1:a.tcp.sport=b.tcp.sport <;> by_cases c2:a.tcp.dport=b.tcp.dport <;> by_cases c3:a.tcp.seq=b.tcp.seq <;> by_cases c4:a.tcp.ack=b.tcp.ack <;> by_cases c5:a.tcp.flags=b.tcp.flags <;> by_cases c6:a.tcp.win=b.tcp.win <;> simp [ZY,c1,c2,c3,c4,c5,c6]
theorem eM (a b:Pkt):a=b↔a.dst=b.dst/\a.src=b.src/\a.kind=b.kind/\a.l4=b.l4/\a.arp=b.arp/\a.tags=b.tags/\a.ip4=b.ip4/\a.ip6=b.ip6/\upE a b:=by
 constructor
 ·intro h;subst h;exact ⟨rfl,rfl,rfl,rfl,rfl,rfl,rfl,rfl,rfl,rfl,rfl⟩
 ·intro h;unfold upE at h
  cases a; cases b
  simp_all
theorem a14 (n:Nat) (hn:2 ^ 63<n) (a b:Pkt) (ha:a.Bz) (hb:b.Bz):A14 n [a.av,b.av]=some [.bool (decide (a=b))]:=by
 show run14 A34 A35 A36 A37 n a.av b.av=_;rw [eq14];have h34:=a34 n hn a.tags b.tags ha.t;have h35:=a35 n hn a.ip4 b.ip4 ha.i4 hb.i4;have h36:=a36 n hn a.ip6 b.ip6 ha.i6 hb.i6;have h37:=a37 n hn a b ha hb;have e:=eM a b
 by_cases h:a=b
 ·obtain ⟨e1,e2,e3,e4,e5,e6,e7,e8,e9⟩:=e.1 h;rw [decide_eq_true h];rw [decide_eq_true e6] at h34;rw [decide_eq_true e7] at h35;rw [decide_eq_true e8] at h36;rw [decide_eq_true e9] at h37;simp [ZY,qh,qf,h34,h35,h36,h37,e1,e2,e3,e4,e5]
 ·rw [decide_eq_false h]
  by_cases c1:a.dst=b.dst
  rotate_left
  ·simp [ZY,qh,c1]
  by_cases c2:a.src=b.src
  rotate_left
  ·simp [ZY,qh,c1,c2]
  by_cases c3:a.kind=b.kind
  rotate_left
  ·simp [ZY,qh,c1,c2,c3]
  by_cases c4:a.l4=b.l4
  rotate_left
  ·simp [ZY,qh,c1,c2,c3,c4]
  by_cases c5:a.arp=b.arp
  rotate_left
  ·simp [ZY,qh,qf,c1,c2,c3,c4,c5]
  by_cases c6:a.tags=b.tags
  rotate_left
  ·rw [decide_eq_false c6] at h34;simp [ZY,qh,qf,h34,c1,c2,c3,c4,c5]
  rw [decide_eq_true c6] at h34
  by_cases c7:a.ip4=b.ip4
  rotate_left
  ·rw [decide_eq_false c7] at h35;simp [ZY,qh,qf,h34,h35,c1,c2,c3,c4,c5]
  rw [decide_eq_true c7] at h35
  by_cases c8:a.ip6=b.ip6
  rotate_left
  ·rw [decide_eq_false c8] at h36;simp [ZY,qh,qf,h34,h35,h36,c1,c2,c3,c4,c5]
  rw [decide_eq_true c8] at h36
  ·have c9:¬ upE a b:=fun c9=>h (e.2 ⟨c1,c2,c3,c4,c5,c6,c7,c8,c9⟩)
   rw [decide_eq_false c9] at h37;simp [ZY,qh,qf,h34,h35,h36,h37,c1,c2,c3,c4,c5]
structure Pkt.Sm (p:Pkt):Prop where
 ok:p.Ok
 tl:p.tags.length<=2 ^ 20
 o4l:p.ip4.opts.length<=2 ^ 20
 o4d:∀ o∈p.ip4.opts,o.data.length<=2 ^ 20
 d4l:p.ip4.data.length<=2 ^ 20
 x6s:∀ x∈p.ip6.exts,x.Sm
 x6l:p.ip6.exts.length<=2 ^ 20
 d6l:p.ip6.data.length<=2 ^ 20
 dil:p.icmp.data.length<=2 ^ 20
 dul:p.udp.data.length<=2 ^ 20
 otl:p.tcp.opts.length<=2 ^ 20
 otd:∀ o∈p.tcp.opts,o.data.length<=2 ^ 20
 dtl:p.tcp.data.length<=2 ^ 20
theorem Pkt.Sm.bz {p:Pkt} (h:p.Sm):p.Bz where
 t:=by have:=h.tl; omega
 i4:=⟨h.ok.o4,by have:=h.o4l; omega,h.ok.b4⟩
 i6:=⟨fun x hx=>⟨h.ok.x6 x hx,by have:=(h.x6s x hx).1; omega⟩,by have:=h.x6l; omega,h.ok.b6,by have:=h.d6l; omega⟩
 ic:=h.ok.bi
 icl:=by have:=h.dil; omega
 u:=h.ok.bu
 tc:=⟨h.ok.ot,by have:=h.otl; omega,h.ok.bt⟩
theorem Pkt.Sm.i6 {p:Pkt} (h:p.Sm):p.ip6.Sm:=⟨h.ok.s6,h.ok.d6,h.x6s,h.x6l,h.ok.x6,h.d6l,h.ok.b6⟩
theorem kr:Ip.z.Ok:=⟨rfl,fun x hx=>by
 have:x∈List.replicate 16 (0:Int):=hx
 rw [List.eq_of_mem_replicate this]; decide⟩
theorem im:([0,0,0,0,0,0]:List Int).length=6/\Bytes [0,0,0,0,0,0]:=⟨rfl,fun x hx=>by
 have:x∈List.replicate 6 (0:Int):=hx
 rw [List.eq_of_mem_replicate this]; decide⟩
theorem Pkt.Sm.alone {p:Pkt} (h:p.Sm):(alone p).Sm:=by
 have hz:∀ o∈([]:List Opt),Bytes o.data:=fun o ho=>by cases ho
 refine ⟨⟨?_,?_,?_,?_,h.ok.dst,h.ok.src,?_,?_,?_,?_,?_,?_,?_,?_,?_,?_,?_,?_⟩,h.tl,?_,?_,?_,?_,?_,?_,?_,?_,?_,?_,?_⟩
 ·show (if p.kind=2 then p.ip4 else Ip4.z).src.Ok; split; exact h.ok.s4; exact kr
 ·show (if p.kind=2 then p.ip4 else Ip4.z).dst.Ok; split; exact h.ok.d4; exact kr
 ·show (if p.kind=3 then p.ip6 else Ip6.z).src.Ok; split; exact h.ok.s6; exact kr
 ·show (if p.kind=3 then p.ip6 else Ip6.z).dst.Ok; split; exact h.ok.d6; exact kr
 ·show (if p.kind=1 then p.arp else Arp.z).smac.length=6/\Bytes (if p.kind=1 then p.arp else Arp.z).smac; split; exact h.ok.smac; exact im
 ·show (if p.kind=1 then p.arp else Arp.z).tmac.length=6/\Bytes (if p.kind=1 then p.arp else Arp.z).tmac; split; exact h.ok.tmac; exact im
 ·show (if p.kind=1 then p.arp else Arp.z).sip.Ok; split; exact h.ok.sip; exact kr
 ·show (if p.kind=1 then p.arp else Arp.z).tip.Ok; split; exact h.ok.tip; exact kr
 ·show ∀ o∈(if p.kind=2 then p.ip4 else Ip4.z).opts,Bytes o.data; split; exact h.ok.o4; exact hz
 ·show Bytes (if p.kind=2 then p.ip4 else Ip4.z).data; split; exact h.ok.b4; exact qg
 ·show ∀ x∈(if p.kind=3 then p.ip6 else Ip6.z).exts,Bytes x.data/\∀ o∈x.opts,Bytes o.data; split; exact h.ok.x6; exact fun x hx=>by cases hx
 ·show Bytes (if p.kind=3 then p.ip6 else Ip6.z).data; split; exact h.ok.b6; exact qg
 ·show Bytes (if p.l4=1 then p.icmp else Icmp.z).data; split; exact h.ok.bi; exact qg
 ·show Bytes (if p.l4=2 then p.udp else Udp.z).data; split; exact h.ok.bu; exact qg
 ·show ∀ o∈(if p.l4=3 then p.tcp else Tcp.z).opts,Bytes o.data; split; exact h.ok.ot; exact hz
 ·show Bytes (if p.l4=3 then p.tcp else Tcp.z).data; split; exact h.ok.bt; exact qg
 ·show (if p.kind=2 then p.ip4 else Ip4.z).opts.length<=2 ^ 20; split; exact h.o4l; exact by decide
 ·show ∀ o∈(if p.kind=2 then p.ip4 else Ip4.z).opts,o.data.length<=2 ^ 20; split; exact h.o4d; exact fun x hx=>by cases hx
 ·show (if p.kind=2 then p.ip4 else Ip4.z).data.length<=2 ^ 20; split; exact h.d4l; exact by decide
 ·show ∀ x∈(if p.kind=3 then p.ip6 else Ip6.z).exts,x.Sm; split; exact h.x6s; exact fun x hx=>by cases hx
 ·show (if p.kind=3 then p.ip6 else Ip6.z).exts.length<=2 ^ 20; split; exact h.x6l; exact by decide
 ·show (if p.kind=3 then p.ip6 else Ip6.z).data.length<=2 ^ 20; split; exact h.d6l; exact by decide
 ·show (if p.l4=1 then p.icmp else Icmp.z).data.length<=2 ^ 20; split; exact h.dil; exact by decide
 ·show (if p.l4=2 then p.udp else Udp.z).data.length<=2 ^ 20; split; exact h.dul; exact by decide
 ·show (if p.l4=3 then p.tcp else Tcp.z).opts.length<=2 ^ 20; split; exact h.otl; exact by decide
 ·show ∀ o∈(if p.l4=3 then p.tcp else Tcp.z).opts,o.data.length<=2 ^ 20; split; exact h.otd; exact fun x hx=>by cases hx
 ·show (if p.l4=3 then p.tcp else Tcp.z).data.length<=2 ^ 20; split; exact h.dtl; exact by decide
theorem a64 (n:Nat) (hn:2 ^ 63<n) (p:Pkt) (h:p.Sm):A64 n [p.av]=some [.bool (decide (mixed p))]:=by
 show run64 A14 A55 A56 A57 n p.av=_;rw [eq64];have h14:=a14 n hn p (alone p) h.bz h.alone.bz
 by_cases k:p.kind<1\/p.kind > 3\/p.l4<0\/p.l4 > 3
 ·rw [decide_eq_true (show mixed p from .inl k)]
  by_cases k1:p.kind<1
  ·simp [ZY,k1]
  by_cases k2:p.kind > 3
  ·simp [ZY,k1,k2]
  by_cases k3:p.l4<0
  ·simp [ZY,k1,k2,k3]
  ·have k4:p.l4 > 3:=by omega
   simp [ZY,k1,k2,k3,k4]
 have k1:¬ p.kind<1:=by omega
 have k2:¬ p.kind > 3:=by omega
 have k3:¬ p.l4<0:=by omega
 have k4:¬ p.l4 > 3:=by omega
 have hK:p.kind=1\/p.kind=2\/p.kind=3:=by omega
 have hL:p.l4=0\/p.l4=1\/p.l4=2\/p.l4=3:=by omega
 have hd:((qB p).length > 0)↔qB p≠[]:=by
  constructor
  ·intro hx hy; rw [hy] at hx; simp at hx
  ·intro hx; exact List.length_pos_iff.2 hx
 have tail:∀ (e:Bool),e=decide (p=alone p)->(jn (jn (brO (!e) (some (Sum.inl [p.av,.bool true])) (some (Sum.inl [p.av,.bool (p.l4 != zN p)]))) (fun d6=>brO (AV.toBool (getE d6 1)) (some (Sum.inr [AV.bool true])) (some (Sum.inl [eta s46 (getE d6 0)])))) (fun d7=>
   brO (AV.toInt (AV.item (getE d7 0) 7) == 0) (some [.bool false]) ((A56 n [eta s46 (getE d7 0)]).bind fun r8=>brO (Nat.beq (List.length r8) 1) (brO (decide ((List.length (AV.qq (getE r8 0)):Int) > 0)) (some [.bool true])
    (brO (AV.toInt (AV.item (getE d7 0) 7) == 1) ((A55 n [eta s46 (getE d7 0)]).bind fun r9=>brO (Nat.beq (List.length r9) 1) (some [.bool (AV.toInt (AV.item (AV.item (getE d7 0) 8) 0) != AV.toInt (AV.item (getE r9 0) 2))]) none) (some [.bool false]))) none)):Option (List AV))=some [.bool (decide (mixed p))]:=by
  intro e he;subst he
  by_cases m1:p=alone p
  ·by_cases m2:p.l4=zN p
   ·by_cases m3:p.l4=0
    ·have:¬ mixed p:=fun hx=>by
      unfold mixed at hx
      rcases hx with hx | hx | hx | hx
      ·exact k hx
      ·exact hx m1
      ·exact hx m2
      ·exact hx.1 m3
     rw [decide_eq_true m1,decide_eq_false this];rw [m3] at m2;have m2' : ((0:Int) != zN p)=false:=by simp; exact m2
     simp only [ZZ,Bool.not_true,m3,m2',show ((0:Int) == 0)=true from rfl]
    ·have m3' : (p.l4 == 0)=false:=by simpa using m3
     have m2' : (p.l4 != zN p)=false:=by simpa using m2
     by_cases m4:qB p=[]
     ·by_cases m5:p.l4=1
      ·by_cases m6:p.icmp.v=(qm p).v
       ·have:¬ mixed p:=fun hx=>by
         unfold mixed at hx
         rcases hx with hx | hx | hx | hx
         ·exact k hx
         ·exact hx m1
         ·exact hx m2
         ·rcases hx.2 with hy | hy
          ·exact hy m4
          ·exact hy.2 m6
        have m5' : (p.l4 == 1)=true:=by simpa using m5
        have m6' : (p.icmp.v !=(qm p).v)=false:=by simpa using m6
        rw [decide_eq_true m1,decide_eq_false this];simp only [ZZ,Bool.not_true,m2',m3',a56,a55,m4,List.length_nil,m5',m6'];rfl
       ·have:mixed p:=.inr (.inr (.inr ⟨m3,.inr ⟨m5,m6⟩⟩));have m5' : (p.l4 == 1)=true:=by simpa using m5
        have m6' : (p.icmp.v !=(qm p).v)=true:=by simpa using m6
        rw [decide_eq_true m1,decide_eq_true this];simp only [ZZ,Bool.not_true,m2',m3',a56,a55,m4,List.length_nil,m5',m6'];rfl
      ·have:¬ mixed p:=fun hx=>by
        unfold mixed at hx
        rcases hx with hx | hx | hx | hx
        ·exact k hx
        ·exact hx m1
        ·exact hx m2
        ·rcases hx.2 with hy | hy
         ·exact hy m4
         ·exact m5 hy.1
       have m5' : (p.l4 == 1)=false:=by simpa using m5
       rw [decide_eq_true m1,decide_eq_false this];simp only [ZZ,Bool.not_true,m2',m3',a56,a55,m4,List.length_nil,m5'];rfl
     ·have:mixed p:=.inr (.inr (.inr ⟨m3,.inl m4⟩));have m4' : ((qB p).length:Int) > 0:=by have:=hd.2 m4; omega
      rw [decide_eq_true m1,decide_eq_true this];simp only [ZZ,Bool.not_true,m2',m3',a56,m4',decide_true]
   ·have:mixed p:=.inr (.inr (.inl m2));have m2' : (p.l4 != zN p)=true:=by simpa using m2
    rw [decide_eq_true m1,decide_eq_true this];simp only [ZZ,Bool.not_true,m2']
  ·have:mixed p:=.inr (.inl m1);rw [decide_eq_false m1,decide_eq_true this];simp only [ZZ,Bool.not_false]
 rcases hK with hk | hk | hk <;> rcases hL with hl | hl | hl | hl
 ·
  have hk1:(p.kind == 1)=true:=by simpa using hk
  have hk2:(p.kind == 2)=false:=by simp; omega
  have hk3:(p.kind == 3)=false:=by simp; omega
  have hl1:(p.l4 == 1)=false:=by simp; omega
  have hl2:(p.l4 == 2)=false:=by simp; omega
  have hl3:(p.l4 == 3)=false:=by simp; omega
  have ea:alone p=⟨p.dst,p.src,p.tags,p.kind,p.arp,Ip4.z,Ip6.z,p.l4,Icmp.z,Udp.z,Tcp.z⟩:=by
   unfold alone;simp [hk,hl]
  rw [ea] at h14 tail;simp only [Arp.z,Ip4.z,Ip6.z,Ip.z,Frag.z,Icmp.z,Udp.z,Tcp.z] at h14;simp only [ZZ,k1,k2,k3,k4,decide_false,hk1,hk2,hk3,hl1,hl2,hl3,h14,a57,Int.ofNat_eq_natCast];exact tail _ rfl
 ·
  have hk1:(p.kind == 1)=true:=by simpa using hk
  have hk2:(p.kind == 2)=false:=by simp; omega
  have hk3:(p.kind == 3)=false:=by simp; omega
  have hl1:(p.l4 == 1)=true:=by simpa using hl
  have hl2:(p.l4 == 2)=false:=by simp; omega
  have hl3:(p.l4 == 3)=false:=by simp; omega
  have ea:alone p=⟨p.dst,p.src,p.tags,p.kind,p.arp,Ip4.z,Ip6.z,p.l4,p.icmp,Udp.z,Tcp.z⟩:=by
   unfold alone;simp [hk,hl]
  rw [ea] at h14 tail;simp only [Arp.z,Ip4.z,Ip6.z,Ip.z,Frag.z,Icmp.z,Udp.z,Tcp.z] at h14;simp only [ZZ,k1,k2,k3,k4,decide_false,hk1,hk2,hk3,hl1,hl2,hl3,h14,a57,Int.ofNat_eq_natCast];exact tail _ rfl
 ·
  have hk1:(p.kind == 1)=true:=by simpa using hk
  have hk2:(p.kind == 2)=false:=by simp; omega
  have hk3:(p.kind == 3)=false:=by simp; omega
  have hl1:(p.l4 == 1)=false:=by simp; omega
  have hl2:(p.l4 == 2)=true:=by simpa using hl
  have hl3:(p.l4 == 3)=false:=by simp; omega
  have ea:alone p=⟨p.dst,p.src,p.tags,p.kind,p.arp,Ip4.z,Ip6.z,p.l4,Icmp.z,p.udp,Tcp.z⟩:=by
   unfold alone;simp [hk,hl]
  rw [ea] at h14 tail;simp only [Arp.z,Ip4.z,Ip6.z,Ip.z,Frag.z,Icmp.z,Udp.z,Tcp.z] at h14;simp only [ZZ,k1,k2,k3,k4,decide_false,hk1,hk2,hk3,hl1,hl2,hl3,h14,a57,Int.ofNat_eq_natCast];exact tail _ rfl
 ·
  have hk1:(p.kind == 1)=true:=by simpa using hk
  have hk2:(p.kind == 2)=false:=by simp; omega
  have hk3:(p.kind == 3)=false:=by simp; omega
  have hl1:(p.l4 == 1)=false:=by simp; omega
  have hl2:(p.l4 == 2)=false:=by simp; omega
  have hl3:(p.l4 == 3)=true:=by simpa using hl
  have ea:alone p=⟨p.dst,p.src,p.tags,p.kind,p.arp,Ip4.z,Ip6.z,p.l4,Icmp.z,Udp.z,p.tcp⟩:=by
   unfold alone;simp [hk,hl]
  rw [ea] at h14 tail;simp only [Arp.z,Ip4.z,Ip6.z,Ip.z,Frag.z,Icmp.z,Udp.z,Tcp.z] at h14;simp only [ZZ,k1,k2,k3,k4,decide_false,hk1,hk2,hk3,hl1,hl2,hl3,h14,a57,Int.ofNat_eq_natCast];exact tail _ rfl
 ·
  have hk1:(p.kind == 1)=false:=by simp; omega
  have hk2:(p.kind == 2)=true:=by simpa using hk
  have hk3:(p.kind == 3)=false:=by simp; omega
  have hl1:(p.l4 == 1)=false:=by simp; omega
  have hl2:(p.l4 == 2)=false:=by simp; omega
  have hl3:(p.l4 == 3)=false:=by simp; omega
  have ea:alone p=⟨p.dst,p.src,p.tags,p.kind,Arp.z,p.ip4,Ip6.z,p.l4,Icmp.z,Udp.z,Tcp.z⟩:=by
   unfold alone;simp [hk,hl]
  rw [ea] at h14 tail;simp only [Arp.z,Ip4.z,Ip6.z,Ip.z,Frag.z,Icmp.z,Udp.z,Tcp.z] at h14;simp only [ZZ,k1,k2,k3,k4,decide_false,hk1,hk2,hk3,hl1,hl2,hl3,h14,a57,Int.ofNat_eq_natCast];exact tail _ rfl
 ·
  have hk1:(p.kind == 1)=false:=by simp; omega
  have hk2:(p.kind == 2)=true:=by simpa using hk
  have hk3:(p.kind == 3)=false:=by simp; omega
  have hl1:(p.l4 == 1)=true:=by simpa using hl
  have hl2:(p.l4 == 2)=false:=by simp; omega
  have hl3:(p.l4 == 3)=false:=by simp; omega
  have ea:alone p=⟨p.dst,p.src,p.tags,p.kind,Arp.z,p.ip4,Ip6.z,p.l4,p.icmp,Udp.z,Tcp.z⟩:=by
   unfold alone;simp [hk,hl]
  rw [ea] at h14 tail;simp only [Arp.z,Ip4.z,Ip6.z,Ip.z,Frag.z,Icmp.z,Udp.z,Tcp.z] at h14;simp only [ZZ,k1,k2,k3,k4,decide_false,hk1,hk2,hk3,hl1,hl2,hl3,h14,a57,Int.ofNat_eq_natCast];exact tail _ rfl
 ·
  have hk1:(p.kind == 1)=false:=by simp; omega
  have hk2:(p.kind == 2)=true:=by simpa using hk
  have hk3:(p.kind == 3)=false:=by simp; omega
  have hl1:(p.l4 == 1)=false:=by simp; omega
  have hl2:(p.l4 == 2)=true:=by simpa using hl
  have hl3:(p.l4 == 3)=false:=by simp; omega
  have ea:alone p=⟨p.dst,p.src,p.tags,p.kind,Arp.z,p.ip4,Ip6.z,p.l4,Icmp.z,p.udp,Tcp.z⟩:=by
   unfold alone;simp [hk,hl]
  rw [ea] at h14 tail;simp only [Arp.z,Ip4.z,Ip6.z,Ip.z,Frag.z,Icmp.z,Udp.z,Tcp.z] at h14;simp only [ZZ,k1,k2,k3,k4,decide_false,hk1,hk2,hk3,hl1,hl2,hl3,h14,a57,Int.ofNat_eq_natCast];exact tail _ rfl
 ·
  have hk1:(p.kind == 1)=false:=by simp; omega
  have hk2:(p.kind == 2)=true:=by simpa using hk
  have hk3:(p.kind == 3)=false:=by simp; omega
  have hl1:(p.l4 == 1)=false:=by simp; omega
  have hl2:(p.l4 == 2)=false:=by simp; omega
  have hl3:(p.l4 == 3)=true:=by simpa using hl
  have ea:alone p=⟨p.dst,p.src,p.tags,p.kind,Arp.z,p.ip4,Ip6.z,p.l4,Icmp.z,Udp.z,p.tcp⟩:=by
   unfold alone;simp [hk,hl]
  rw [ea] at h14 tail;simp only [Arp.z,Ip4.z,Ip6.z,Ip.z,Frag.z,Icmp.z,Udp.z,Tcp.z] at h14;simp only [ZZ,k1,k2,k3,k4,decide_false,hk1,hk2,hk3,hl1,hl2,hl3,h14,a57,Int.ofNat_eq_natCast];exact tail _ rfl
 ·
  have hk1:(p.kind == 1)=false:=by simp; omega
  have hk2:(p.kind == 2)=false:=by simp; omega
  have hk3:(p.kind == 3)=true:=by simpa using hk
  have hl1:(p.l4 == 1)=false:=by simp; omega
  have hl2:(p.l4 == 2)=false:=by simp; omega
  have hl3:(p.l4 == 3)=false:=by simp; omega
  have ea:alone p=⟨p.dst,p.src,p.tags,p.kind,Arp.z,Ip4.z,p.ip6,p.l4,Icmp.z,Udp.z,Tcp.z⟩:=by
   unfold alone;simp [hk,hl]
  rw [ea] at h14 tail;simp only [Arp.z,Ip4.z,Ip6.z,Ip.z,Frag.z,Icmp.z,Udp.z,Tcp.z] at h14;simp only [ZZ,k1,k2,k3,k4,decide_false,hk1,hk2,hk3,hl1,hl2,hl3,h14,a57,Int.ofNat_eq_natCast];exact tail _ rfl
 ·
  have hk1:(p.kind == 1)=false:=by simp; omega
  have hk2:(p.kind == 2)=false:=by simp; omega
  have hk3:(p.kind == 3)=true:=by simpa using hk
  have hl1:(p.l4 == 1)=true:=by simpa using hl
  have hl2:(p.l4 == 2)=false:=by simp; omega
  have hl3:(p.l4 == 3)=false:=by simp; omega
  have ea:alone p=⟨p.dst,p.src,p.tags,p.kind,Arp.z,Ip4.z,p.ip6,p.l4,p.icmp,Udp.z,Tcp.z⟩:=by
   unfold alone;simp [hk,hl]
  rw [ea] at h14 tail;simp only [Arp.z,Ip4.z,Ip6.z,Ip.z,Frag.z,Icmp.z,Udp.z,Tcp.z] at h14;simp only [ZZ,k1,k2,k3,k4,decide_false,hk1,hk2,hk3,hl1,hl2,hl3,h14,a57,Int.ofNat_eq_natCast];exact tail _ rfl
 ·
  have hk1:(p.kind == 1)=false:=by simp; omega
  have hk2:(p.kind == 2)=false:=by simp; omega
  have hk3:(p.kind == 3)=true:=by simpa using hk
  have hl1:(p.l4 == 1)=false:=by simp; omega
  have hl2:(p.l4 == 2)=true:=by simpa using hl
  have hl3:(p.l4 == 3)=false:=by simp; omega
  have ea:alone p=⟨p.dst,p.src,p.tags,p.kind,Arp.z,Ip4.z,p.ip6,p.l4,Icmp.z,p.udp,Tcp.z⟩:=by
   unfold alone;simp [hk,hl]
  rw [ea] at h14 tail;simp only [Arp.z,Ip4.z,Ip6.z,Ip.z,Frag.z,Icmp.z,Udp.z,Tcp.z] at h14;simp only [ZZ,k1,k2,k3,k4,decide_false,hk1,hk2,hk3,hl1,hl2,hl3,h14,a57,Int.ofNat_eq_natCast];exact tail _ rfl
 ·
  have hk1:(p.kind == 1)=false:=by simp; omega
  have hk2:(p.kind == 2)=false:=by simp; omega
  have hk3:(p.kind == 3)=true:=by simpa using hk
  have hl1:(p.l4 == 1)=false:=by simp; omega
  have hl2:(p.l4 == 2)=false:=by simp; omega
  have hl3:(p.l4 == 3)=true:=by simpa using hl
  have ea:alone p=⟨p.dst,p.src,p.tags,p.kind,Arp.z,Ip4.z,p.ip6,p.l4,Icmp.z,Udp.z,p.tcp⟩:=by
   unfold alone;simp [hk,hl]
  rw [ea] at h14 tail;simp only [Arp.z,Ip4.z,Ip6.z,Ip.z,Frag.z,Icmp.z,Udp.z,Tcp.z] at h14;simp only [ZZ,k1,k2,k3,k4,decide_false,hk1,hk2,hk3,hl1,hl2,hl3,h14,a57,Int.ofNat_eq_natCast];exact tail _ rfl
theorem sb (src dst:Ip) (m:Icmp) (h:m.data.length<=2 ^ 20):(vS src dst m).1.length<=65535:=by
 unfold vS
 split
 ·simp
 ·rename_i hx;have:=ju (Decidable.not_not.1 hx)
  split
  ·simp
  ·show (ki src dst m).length<=_;rw [xN]; simp; omega
theorem iG (src dst:Ip) (u:Udp):(kc src dst u).1.length<=65535:=by
 unfold kc
 split
 ·simp
 ·split
  ·simp
  ·rename_i hx;have:=yv (Decidable.not_not.1 hx)
   show (su src dst u).length<=_;rw [nF]
   split <;>(rw [rc]; omega)
theorem ah (src dst:Ip) (t:Tcp):(ku src dst t).1.length<=65535:=by
 unfold ku
 split
 ·simp
 ·split
  ·simp
  ·rename_i hx;have:=gq (Decidable.not_not.1 hx)
   show (yq src dst t).length<=_;rw [cw]; omega
theorem dO {src dst:Ip} {m:Icmp} (h:Bytes m.data):Bytes (vS src dst m).1:=by
 unfold vS
 split
 ·exact qg
 ·split
  ·exact qg
  ·show Bytes (ki src dst m);unfold ki;exact (fM (go m).1 2 _).app h
theorem tG {src dst:Ip} {u:Udp} (h:Bytes u.data):Bytes (kc src dst u).1:=by
 unfold kc
 split
 ·exact qg
 ·split
  ·exact qg
  ·show Bytes (su src dst u);rw [nF]
   split
   ·exact nJ u h (by decide) (by decide)
   ·exact nJ u h (by omega) (by omega)
theorem nG {src dst:Ip} {t:Tcp} (h:Bytes t.data) (ho:∀ o∈t.opts,Bytes o.data):Bytes (ku src dst t).1:=by
 unfold ku
 split
 ·exact qg
 ·split
  ·exact qg
  ·exact fM (pj h ho) 16 _
theorem iC {p:Pkt} (h:p.Sm):(qB p).length<=2 ^ 20:=by unfold qB; split; exact h.d4l; exact h.d6l
theorem nY {p:Pkt} (h:p.Sm):Bytes (qB p):=by unfold qB; split; exact h.ok.b4; exact h.ok.b6
theorem lP {p:Pkt} (h:p.Sm):(qK p).1.length<=2 ^ 20:=by
 unfold qK
 split
 ·have:=sb (qm p).src (qm p).dst p.icmp h.dil; omega
 ·split
  ·have:=iG (qm p).src (qm p).dst p.udp; omega
  ·split
   ·have:=ah (qm p).src (qm p).dst p.tcp; omega
   ·exact iC h
theorem mQ {p:Pkt} (h:p.Sm):Bytes (qK p).1:=by
 unfold qK
 split
 ·exact dO h.ok.bi
 ·split
  ·exact tG h.ok.bu
  ·split
   ·exact nG h.ok.bt h.ok.ot
   ·exact nY h
theorem a107 (n:Nat) (hn:2 ^ 63<n) (p:Pkt) (h:p.Sm):A107 n [p.av]=some [.int .i64 (yc p)]:=by
 show run107 A155 A156 n p.av=_;rw [eq107];unfold yc;have h155:=a155 n hn p.ip4 h.ok.s4 h.ok.d4 (by have:=h.o4l; omega) (fun o ho=>by have:=h.o4d o ho; omega) (by have:=h.d4l; omega);have h156:=a156 n hn p.ip6 h.i6
 by_cases hk:p.kind=2
 ·simp [ZY,hk,h155]
 ·simp [ZY,hk,h156]
theorem a108 (n:Nat) (hn:2 ^ 63<n) (p:Pkt) (h:p.Sm):A108 n [p.av]=some [.int .i64 (vt p)]:=by
 show run108 A55 A135 A138 A140 n p.av=_;rw [eq108];unfold vt;have h135:=a135 n p.icmp (by have:=h.dil; omega);have h140:=a140 n hn p.tcp (by have:=h.otl; omega) (fun o ho=>by have:=h.otd o ho; omega) (by have:=h.dtl; omega)
 by_cases h1:p.l4=1
 ·simp [ZY,h1,h135]
 by_cases h2:p.l4=2
 ·simp [ZY,h1,h2,a55,a138]
 by_cases h3:p.l4=3
 ·simp [ZY,h1,h2,h3,h140]
 ·simp [ZY,h1,h2,h3]
theorem a53 (n:Nat) (hn:2 ^ 63<n) (p:Pkt) (h:p.Sm):A53 n [p.av]=some [.fs .u8 (qK p).1,.int .i64 (qK p).2]:=by
 show run53 A55 A56 A91 A92 A93 n p.av=_;rw [eq53];unfold qK;have he:=ny h.ok;have h91:=a91 n hn (qm p).src (qm p).dst he.1 he.2 p.icmp h.ok.bi (by have:=h.dil; omega);have h92:=a92 n hn (qm p).src (qm p).dst he.1 he.2 p.udp h.ok.bu (by have:=h.dul; omega);have h93:=a93 n hn (qm p).src (qm p).dst he.1 he.2 p.tcp h.ok.bt h.ok.ot (by have:=h.otl; omega) (fun o ho=>by have:=h.otd o ho; omega) (by have:=h.dtl; omega)
 by_cases h1:p.l4=1
 ·simp [ZY,h1,a55,h91]
 by_cases h2:p.l4=2
 ·simp [ZY,h1,h2,a55,h92]
 by_cases h3:p.l4=3
 ·simp [ZY,h1,h2,h3,a55,h93]
 ·simp [ZY,h1,h2,h3,a55,a56]
theorem a65 (n:Nat) (hn:2 ^ 63<n) (p:Pkt) (h:p.Sm):A65 n [p.av]=some [.fs .u8 (wh p).1,.int .i64 (wh p).2]:=by
 show run65 A53 A54 A106 A107 A108 A109 A110 n p.av=_;rw [eq65];unfold wh;have h106:=a106 n hn p.arp h.ok.smac h.ok.tmac.1 h.ok.sip h.ok.tip;have h107:=a107 n hn p h;have h108:=a108 n hn p h;have h53:=a53 n hn p h;have h54:=a54 n p (qK p).1;have hal:=lP h;have hab:=mQ h;have hkw:(qD p (qK p).1).kind=p.kind:=bg p _
 by_cases h1:p.kind=1
 ·simp [ZY,h1,h106]
 by_cases h2:yc p=0
 ·by_cases h3:vt p=0
  ·by_cases h4:(qK p).2=0
   ·by_cases hk:p.kind=2
    ·have e4:(qD p (qK p).1).ip4={ p.ip4 with data:=(qK p).1 }:=by unfold qD; rw [if_pos hk]
     have h109:=a109 n hn (qD p (qK p).1).ip4 (by rw [e4]; exact h.ok.s4) (by rw [e4]; exact h.ok.d4) (by rw [e4]; exact h.ok.o4) (by rw [e4]; have:=h.o4l; show p.ip4.opts.length<_; omega) (by rw [e4]; exact fun o ho=>by have:=h.o4d o ho; omega) (by rw [e4]; show (qK p).1.length<_; omega);have hkb:(p.kind == 1)=false:=by simpa using h1
     have h2b:(yc p != 0)=false:=by simpa using h2
     have h3b:(vt p != 0)=false:=by simpa using h3
     have h4b:((qK p).2 != 0)=false:=by simpa using h4
     have hkw' : ((qD p (qK p).1).kind == 2)=true:=by rw [hkw]; simpa using hk
     rw [if_neg h1,if_neg (by simpa using h2),if_neg (by simpa using h3),if_neg (by simpa using h4),if_pos hk];simp only [ZZ,hkb,h107,h2b,h108,h3b,h53,h4b,h54,hkw',h109]
    ·have e4:(qD p (qK p).1).ip6={ p.ip6 with data:=(qK p).1 }:=by unfold qD; rw [if_neg hk]
     have h110:=a110 n hn (qD p (qK p).1).ip6 (by rw [e4]; exact ⟨h.ok.s6,h.ok.d6,h.x6s,h.x6l,h.ok.x6,hal,hab⟩);have hkb:(p.kind == 1)=false:=by simpa using h1
     have h2b:(yc p != 0)=false:=by simpa using h2
     have h3b:(vt p != 0)=false:=by simpa using h3
     have h4b:((qK p).2 != 0)=false:=by simpa using h4
     have hkw' : ((qD p (qK p).1).kind == 2)=false:=by rw [hkw]; simpa using hk
     rw [if_neg h1,if_neg (by simpa using h2),if_neg (by simpa using h3),if_neg (by simpa using h4),if_neg hk];simp only [ZZ,hkb,h107,h2b,h108,h3b,h53,h4b,h54,hkw',h110]
   ·simp [ZY,h1,h107,h2,h108,h3,h53,h4]
  ·simp [ZY,h1,h107,h2,h108,h3]
 ·simp [ZY,h1,h107,h2]
theorem Zf {p:Pkt} (h:p.Sm):(wh p).1.length<=65535:=by
 unfold wh
 split
 ·unfold vF
  split
  ·simp
  ·split
   ·simp
   ·have:=h.ok.smac.1; have:=h.ok.tmac.1; have:=h.ok.sip.1; have:=h.ok.tip.1;simp [wP,kj]; omega
 ·split
  ·simp
  ·split
   ·simp
   ·split
    ·simp
    ·split
     ·rename_i hk;have e4:(qD p (qK p).1).ip4={ p.ip4 with data:=(qK p).1 }:=by unfold qD; rw [if_pos hk]
      rw [e4];unfold jq
      split
      ·simp
      ·rename_i hx;have:=(gf (Decidable.not_not.1 hx)).2.2.1;have e:=gy (h:={ p.ip4 with data:=(qK p).1 }) h.ok.s4 h.ok.d4
       show (WY _).length<=_;unfold WY;rw [List.length_append,e];exact this
     ·rename_i hk;have e4:(qD p (qK p).1).ip6={ p.ip6 with data:=(qK p).1 }:=by unfold qD; rw [if_neg hk]
      rw [e4];unfold zL
      split
      ·simp
      ·split
       ·simp
       ·split
        ·simp
        ·split
         ·simp
         ·rename_i hx;have l1:=h.ok.s6.1;have l2:=h.ok.d6.1
          show (kz _).length<=_;unfold kz;simp only [List.length_append,qR,l1,l2] at hx ⊢;omega
theorem a32 (n:Nat) (hn:2 ^ 63<n) (p:Pkt) (h:p.Sm):A32 n [p.av]=some [.fs .u8 (zX p).1,.int .i64 (zX p).2]:=by
 show run32 A63 A64 A65 A66 A67 n p.av=_;rw [eq32];unfold zX;have htl:=h.tl;have hil:=Zf h;have h63:A63 n [(zr p 2048 []).av]=_:=a63 n hn (zr p 2048 []) h.ok.src.2 (by show ([]:List Int).length<_; simp) (by show p.tags.length<_; omega);have h64:=a64 n hn p h;have h65:=a65 n hn p h;have h67:A67 n [(zr p (vX p.kind) (wh p).1).av]=_:=a67 n hn (zr p (vX p.kind) (wh p).1) h.ok.src h.ok.dst.1 (by show (wh p).1.length<_; omega) (by show p.tags.length<_; omega);simp only [zr] at h63 h67
 by_cases c1:zW (zr p 2048 [])=0
 ·have c1' : (zW (zr p 2048 []) != 0)=false:=by simpa using c1
  by_cases c2:mixed p
  ·rw [if_neg (by simpa using c1),if_pos c2];simp only [zr] at c1';simp only [ZZ,h63,c1',h64,c2,decide_true]
  ·by_cases c3:(wh p).2=0
   ·have c3' : ((wh p).2 != 0)=false:=by simpa using c3
    rw [if_neg (by simpa using c1),if_neg c2,if_neg (by simpa using c3)];simp only [zr] at c1';simp only [ZZ,h63,c1',h64,c2,decide_false,h65,c3',a66,h67,zr]
   ·have c3' : ((wh p).2 != 0)=true:=by simpa using c3
    rw [if_neg (by simpa using c1),if_neg c2,if_pos c3];simp only [zr] at c1';simp only [ZZ,h63,c1',h64,c2,decide_false,h65,c3']
 ·have c1' : (zW (zr p 2048 []) != 0)=true:=by simpa using c1
  rw [if_pos c1];simp only [zr] at c1';simp only [ZZ,h63,c1',zr]
theorem a22 (n:Nat) (hn:2 ^ 63<n) (p:Pkt) (h:p.Sm):A22 n [p.av]=some [.int .i64 (zX p).2]:=by
 show run22 A32 n p.av=_;rw [eq22];simp only [ZZ,a32 n hn p h]
theorem bP {p:Pkt} (h:p.Sm) (hm:(zX p).2=0):14<=(zX p).1.length/\(zX p).1.length<=65535:=by
 obtain ⟨q1,q2,q3,q4,q5⟩:=xB hm;rw [q5,bK _ h.ok.src.1 h.ok.dst.1];have:=(kQ q4).2.2.2.2;omega
theorem a13 (n:Nat) (hn:2 ^ 63<n) (p:Pkt) (h:p.Sm):A13 n [p.av]=some [.fs .u8 (xc p).1,.int .i64 (xc p).2]:=by
 show run13 A32 A33 n p.av=_;rw [eq13];unfold xc;have h32:=a32 n hn p h
 by_cases c:(zX p).2=0
 ·have c' : ((zX p).2 != 0)=false:=by simpa using c
  have hl:=bP h c;have h33:=a33 n (zX p).1 (fun hx=>by rw [hx] at hl; simp at hl) (by omega);rw [if_neg (by simpa using c)];simp only [ZZ,h32,c',h33]
 ·have c' : ((zX p).2 != 0)=true:=by simpa using c
  rw [if_pos c];simp only [ZZ,h32,c']
theorem Zo (p:Pkt):zN p=0\/zN p=1\/zN p=2\/zN p=3:=by
 unfold zN ef
 split
 ·exact .inl rfl
 ·split
  ·exact .inr (.inr (.inr rfl))
  ·split
   ·exact .inr (.inr (.inl rfl))
   ·split
    ·exact .inr (.inl rfl)
    ·exact .inl rfl
theorem ZO (p:Pkt) (l:Int) (m:Icmp) (b:List Int):qD { p with l4:=l,icmp:=m } b={ qD p b with l4:=l,icmp:=m }:=by
 unfold qD
 by_cases h:p.kind=2
 ·simp [h]
 ·simp [h]
theorem Zd (p:Pkt) (l:Int) (m:Udp) (b:List Int):qD { p with l4:=l,udp:=m } b={ qD p b with l4:=l,udp:=m }:=by
 unfold qD
 by_cases h:p.kind=2
 ·simp [h]
 ·simp [h]
theorem Wj (p:Pkt) (l:Int) (m:Tcp) (b:List Int):qD { p with l4:=l,tcp:=m } b={ qD p b with l4:=l,tcp:=m }:=by
 unfold qD
 by_cases h:p.kind=2
 ·simp [h]
 ·simp [h]
theorem a26 (n:Nat) (hn:2 ^ 63<n) (p:Pkt) (ok:p.Ok) (hb:Bytes (qB p)) (hl:(qB p).length<2 ^ 44):A26 n [p.av]=some [(jW p).1.av,.int .i64 (jW p).2]:=by
 show run26 A54 A55 A56 A57 A58 A59 A60 n p.av=_;rw [eq26];unfold jW;have he:=ny ok;have h58:=a58 n hn (qm p).v (qm p).src (qm p).dst he.1 he.2 (qB p) hb hl;have h59:=a59 n hn (qm p).src (qm p).dst he.1 he.2 (qB p) hb hl;have h60:=a60 n hn (qm p).src (qm p).dst he.1 he.2 (qB p) hb hl;have hz:(⟨[0,0,0,0,0,0],[0,0,0,0,0,0],[],0,⟨0,[0,0,0,0,0,0],⟨0,[0,0,0,0,0,0,0,0,0,0,0,0,0,0,0,0]⟩,[0,0,0,0,0,0],⟨0,[0,0,0,0,0,0,0,0,0,0,0,0,0,0,0,0]⟩⟩,Ip4.z,Ip6.z,0,Icmp.z,Udp.z,Tcp.z⟩ : Pkt)=Pkt.z:=rfl
 by_cases c:(p.kind≠2/\p.kind≠3)\/p.l4≠0
 ·rw [if_pos c]
  by_cases k2:p.kind=2
  ·have l0:p.l4≠0:=by omega
   have k2' : (p.kind != 2)=false:=by simpa using k2
   have l0' : (p.l4 != 0)=true:=by simpa using l0
   simp only [ZZ,k2',l0']
  ·have k2' : (p.kind != 2)=true:=by simpa using k2
   by_cases k3:p.kind=3
   ·have l0:p.l4≠0:=by omega
    have k3' : (p.kind != 3)=false:=by simpa using k3
    have l0' : (p.l4 != 0)=true:=by simpa using l0
    simp only [ZZ,k2',k3',l0']
   ·have k3' : (p.kind != 3)=true:=by simpa using k3
    simp only [ZZ,k2',k3']
 ·rw [if_neg c];have l0' : (p.l4 != 0)=false:=by simp; omega
  have key:∀ (z:AV) (K:List AV->Option (List AV)),jn (jn (brO (p.kind != 2) (brO (p.kind != 3) (some (Sum.inl [p.av,z,.bool true])) (some (Sum.inl [p.av,z,.bool false]))) (some (Sum.inl [p.av,z,.bool false]))) (fun d0=>brO (AV.toBool (getE d0 2)) (some (Sum.inr [eta s46 (getE d0 0),AV.int .i64 0])) (some (Sum.inl [eta s46 (getE d0 0),eta s46 (getE d0 1)])))) K=K [p.av,eta s46 z]:=by
   intro z K
   by_cases k2:p.kind=2
   ·have k2' : (p.kind != 2)=false:=by simpa using k2
    simp only [k2',ZZ]
   ·have k2' : (p.kind != 2)=true:=by simpa using k2
    have k3' : (p.kind != 3)=false:=by simp; omega
    simp only [k2',k3',ZZ]
  simp only [ZZ,l0'];refine Eq.trans (key _ _) ?_;simp only [ZZ,a55,a56,a57]
  rcases Zo p with hl | hl | hl | hl
  ·have b0:(zN p == 0)=true:=by rw [hl]; rfl
   rw [if_neg (by omega),if_neg (by omega),if_neg (by omega)];simp only [ZZ,b0]
  ·have b0:(zN p == 0)=false:=by rw [hl]; rfl
   have b1:(zN p == 1)=true:=by rw [hl]; rfl
   rw [if_pos hl];simp only [ZZ,b0,b1,h58]
   by_cases e:(wv (qm p).v (qm p).src (qm p).dst (qB p)).2=0
   ·have e' : ((wv (qm p).v (qm p).src (qm p).dst (qB p)).2 != 0)=false:=by simpa using e
    rw [if_neg (by simpa using e)];simp only [ZZ,e',a54,hl];exact congrArg (fun q:Pkt=>some [q.av,AV.int .i64 0]) (ZO p 1 _ [])
   ·have e' : ((wv (qm p).v (qm p).src (qm p).dst (qB p)).2 != 0)=true:=by simpa using e
    rw [if_pos e];simp only [ZZ,e'];rfl
  ·have b0:(zN p == 0)=false:=by rw [hl]; rfl
   have b1:(zN p == 1)=false:=by rw [hl]; rfl
   have b2:(zN p == 2)=true:=by rw [hl]; rfl
   rw [if_neg (by omega),if_pos hl];simp only [ZZ,b0,b1,b2,h59]
   by_cases e:(wa (qm p).src (qm p).dst (qB p)).2=0
   ·have e' : ((wa (qm p).src (qm p).dst (qB p)).2 != 0)=false:=by simpa using e
    rw [if_neg (by simpa using e)];simp only [ZZ,e',a54,hl];exact congrArg (fun q:Pkt=>some [q.av,AV.int .i64 0]) (Zd p 2 _ [])
   ·have e' : ((wa (qm p).src (qm p).dst (qB p)).2 != 0)=true:=by simpa using e
    rw [if_pos e];simp only [ZZ,e'];rfl
  ·have b0:(zN p == 0)=false:=by rw [hl]; rfl
   have b1:(zN p == 1)=false:=by rw [hl]; rfl
   have b2:(zN p == 2)=false:=by rw [hl]; rfl
   have b3:(zN p == 3)=true:=by rw [hl]; rfl
   rw [if_neg (by omega),if_neg (by omega),if_pos hl];simp only [ZZ,b0,b1,b2,b3,h60]
   by_cases e:(wN (qm p).src (qm p).dst (qB p)).2=0
   ·have e' : ((wN (qm p).src (qm p).dst (qB p)).2 != 0)=false:=by simpa using e
    rw [if_neg (by simpa using e)];simp only [ZZ,e',a54,hl];exact congrArg (fun q:Pkt=>some [q.av,AV.int .i64 0]) (Wj p 3 _ [])
   ·have e' : ((wN (qm p).src (qm p).dst (qB p)).2 != 0)=true:=by simpa using e
    rw [if_pos e];simp only [ZZ,e'];rfl
theorem a73 (n:Nat) (hn:2 ^ 63<n) (l m:List Opt) (hl:∀ o∈l,o.By) (hm:∀ o∈m,o.By) (hll:l.length<2 ^ 44):A73 n [.fv s93 (l.map Opt.av),.fv s93 (m.map Opt.av)]=some [.bool (decide (l=m))]:=by
 show run73 A74 n (l.map Opt.av) (m.map Opt.av)=_;rw [eq73]
 by_cases hlen:l.length=m.length
 rotate_left
 ·have hne:l≠m:=fun h=>hlen (by rw [h])
  have hlen' : ¬ ((l.length:Int)=(m.length:Int)):=by omega
  simp [ZY,hlen',hne]
 simp only [List.length_map,Int.ofNat_eq_natCast];rw [qi (by simp; omega)];refine wZ (fun i:Nat=>[.fv s93 (l.map Opt.av),.fv s93 (m.map Opt.av),.int .i64 (i:Nat)]) (fun i=>l.length - i) (fun i=>if l.drop i=m.drop i then .inl [] else .inr [.bool false]) (fun i=>i<=l.length) 0 (by show l.length - 0<n; omega) (Nat.zero_le _) (fun i K hi hK=>?_) ?_
 ·simp only [ZZ,List.length_map]
  by_cases hi2:i<l.length
  ·have hw:IntKind.wrap .i64 ((i:Int)+1)=((i+1:Nat):Int):=by rw [qv (by omega) (by omega)]; omega
   have hK1:=hK (i+1) (by show l.length - (i+1)<l.length - i; omega) (by show i+1<=l.length; omega);have ho:=hl _ (List.getElem_mem hi2);have hp:=hm _ (List.getElem_mem (show i<m.length by omega));refine (qp (by simpa using hi2)).trans ?_;simp only [ZZ,ql hi2,ql (show i<m.length by omega),Int.toNat_natCast,zF hi2,zF (show i<m.length by omega)];have e:(l.drop i=m.drop i)=(l[i]=m[i]/\l.drop (i+1)=m.drop (i+1)):=propext (vK hi2 (by omega));have e2:(if l.drop i=m.drop i then (Sum.inl []:Sum (List AV) (List AV)) else .inr [.bool false])=(if l[i]=m[i]/\l.drop (i+1)=m.drop (i+1) then (Sum.inl []:Sum (List AV) (List AV)) else .inr [.bool false]):=by simp only [e]
   rw [e2]
   clear e e2 hK
   generalize l[i]=o at *;generalize m[i]=p at *;have hf:=a74 n o.data p.data ho hp
   by_cases c1:o.kind=p.kind
   ·have c1' : (o.kind != p.kind)=false:=by simpa using c1
    by_cases c2:o.data=p.data
    ·have he:o=p:=by cases o; cases p; simp_all
     rw [decide_eq_true c2] at hf;have e3:(if o=p/\l.drop (i+1)=m.drop (i+1) then (Sum.inl []:Sum (List AV) (List AV)) else .inr [.bool false])=(if l.drop (i+1)=m.drop (i+1) then (Sum.inl []:Sum (List AV) (List AV)) else .inr [.bool false]):=by simp only [he,true_and]
     rw [e3];simp only [ZZ,hf,c1',Bool.not_true,hw];exact hK1
    ·rw [decide_eq_false c2] at hf;rw [if_neg (fun h=>c2 (by rw [h.1]))];simp only [ZZ,hf,c1',Bool.not_false]
   ·have c1' : (o.kind != p.kind)=true:=by simpa using c1
    rw [if_neg (fun h=>c1 (by rw [h.1]))];simp only [ZZ,hf,c1']
  ·have:i=l.length:=by have:i<=l.length:=hi; omega
   subst this;refine (qi (by simp)).trans ?_;rw [if_pos (by rw [List.drop_length,hlen,List.drop_length])]
 ·rw [List.drop_zero,List.drop_zero]
  by_cases h:l=m
  ·rw [if_pos h,decide_eq_true h]; rfl
  ·rw [if_neg h,decide_eq_false h]; rfl
theorem a114 (n:Nat) (hn:2 ^ 63<n) (l m:List Opt) (hl:∀ o∈l,o.By) (hm:∀ o∈m,o.By) (hll:l.length<2 ^ 44):A114 n [.fv s93 (l.map Opt.av),.fv s93 (m.map Opt.av)]=some [.bool (decide (l=m))]:=by
 show run114 A18 n (l.map Opt.av) (m.map Opt.av)=_;rw [eq114]
 by_cases hlen:l.length=m.length
 rotate_left
 ·have hne:l≠m:=fun h=>hlen (by rw [h])
  have hlen' : ¬ ((l.length:Int)=(m.length:Int)):=by omega
  simp [ZY,hlen',hne]
 simp only [List.length_map,Int.ofNat_eq_natCast];rw [qi (by simp; omega)];refine wZ (fun i:Nat=>[.fv s93 (l.map Opt.av),.fv s93 (m.map Opt.av),.int .i64 (i:Nat)]) (fun i=>l.length - i) (fun i=>if l.drop i=m.drop i then .inl [] else .inr [.bool false]) (fun i=>i<=l.length) 0 (by show l.length - 0<n; omega) (Nat.zero_le _) (fun i K hi hK=>?_) ?_
 ·simp only [ZZ,List.length_map]
  by_cases hi2:i<l.length
  ·have hw:IntKind.wrap .i64 ((i:Int)+1)=((i+1:Nat):Int):=by rw [qv (by omega) (by omega)]; omega
   have hK1:=hK (i+1) (by show l.length - (i+1)<l.length - i; omega) (by show i+1<=l.length; omega);have ho:=hl _ (List.getElem_mem hi2);have hp:=hm _ (List.getElem_mem (show i<m.length by omega));refine (qp (by simpa using hi2)).trans ?_;simp only [ZZ,ql hi2,ql (show i<m.length by omega),Int.toNat_natCast,zF hi2,zF (show i<m.length by omega)];have e:(l.drop i=m.drop i)=(l[i]=m[i]/\l.drop (i+1)=m.drop (i+1)):=propext (vK hi2 (by omega));have e2:(if l.drop i=m.drop i then (Sum.inl []:Sum (List AV) (List AV)) else .inr [.bool false])=(if l[i]=m[i]/\l.drop (i+1)=m.drop (i+1) then (Sum.inl []:Sum (List AV) (List AV)) else .inr [.bool false]):=by simp only [e]
   rw [e2]
   clear e e2 hK
   generalize l[i]=o at *;generalize m[i]=p at *;have hf:=a18 n o.data p.data ho hp
   by_cases c1:o.kind=p.kind
   ·have c1' : (o.kind != p.kind)=false:=by simpa using c1
    by_cases c2:o.data=p.data
    ·have he:o=p:=by cases o; cases p; simp_all
     rw [decide_eq_true c2] at hf;have e3:(if o=p/\l.drop (i+1)=m.drop (i+1) then (Sum.inl []:Sum (List AV) (List AV)) else .inr [.bool false])=(if l.drop (i+1)=m.drop (i+1) then (Sum.inl []:Sum (List AV) (List AV)) else .inr [.bool false]):=by simp only [he,true_and]
     rw [e3];simp only [ZZ,hf,c1',Bool.not_true,hw];exact hK1
    ·rw [decide_eq_false c2] at hf;rw [if_neg (fun h=>c2 (by rw [h.1]))];simp only [ZZ,hf,c1',Bool.not_false]
   ·have c1' : (o.kind != p.kind)=true:=by simpa using c1
    rw [if_neg (fun h=>c1 (by rw [h.1]))];simp only [ZZ,hf,c1']
  ·have:i=l.length:=by have:i<=l.length:=hi; omega
   subst this;refine (qi (by simp)).trans ?_;rw [if_pos (by rw [List.drop_length,hlen,List.drop_length])]
 ·rw [List.drop_zero,List.drop_zero]
  by_cases h:l=m
  ·rw [if_pos h,decide_eq_true h]; rfl
  ·rw [if_neg h,decide_eq_false h]; rfl
theorem a75 (n:Nat) (hn:2 ^ 63<n) (l m:List Ext) (hl:∀ o∈l,o.Bz) (hm:∀ o∈m,o.Bz) (hll:l.length<2 ^ 44):A75 n [.fv s124 (l.map Ext.av),.fv s124 (m.map Ext.av)]=some [.bool (decide (l=m))]:=by
 show run75 A18 A114 n (l.map Ext.av) (m.map Ext.av)=_;rw [eq75]
 by_cases hlen:l.length=m.length
 rotate_left
 ·have hne:l≠m:=fun h=>hlen (by rw [h])
  have hlen' : ¬ ((l.length:Int)=(m.length:Int)):=by omega
  simp [ZY,hlen',hne]
 simp only [List.length_map,Int.ofNat_eq_natCast];rw [qi (by simp; omega)];refine wZ (fun i:Nat=>[.fv s124 (l.map Ext.av),.fv s124 (m.map Ext.av),.int .i64 (i:Nat)]) (fun i=>l.length - i) (fun i=>if l.drop i=m.drop i then .inl [] else .inr [.bool false]) (fun i=>i<=l.length) 0 (by show l.length - 0<n; omega) (Nat.zero_le _) (fun i K hi hK=>?_) ?_
 ·simp only [ZZ,List.length_map]
  by_cases hi2:i<l.length
  ·have hw:IntKind.wrap .i64 ((i:Int)+1)=((i+1:Nat):Int):=by rw [qv (by omega) (by omega)]; omega
   have hK1:=hK (i+1) (by show l.length - (i+1)<l.length - i; omega) (by show i+1<=l.length; omega);have ho:=hl _ (List.getElem_mem hi2);have hp:=hm _ (List.getElem_mem (show i<m.length by omega));refine (qp (by simpa using hi2)).trans ?_;simp only [ZZ,ql hi2,ql (show i<m.length by omega),Int.toNat_natCast,zF hi2,zF (show i<m.length by omega)];have e:(l.drop i=m.drop i)=(l[i]=m[i]/\l.drop (i+1)=m.drop (i+1)):=propext (vK hi2 (by omega));have e2:(if l.drop i=m.drop i then (Sum.inl []:Sum (List AV) (List AV)) else .inr [.bool false])=(if l[i]=m[i]/\l.drop (i+1)=m.drop (i+1) then (Sum.inl []:Sum (List AV) (List AV)) else .inr [.bool false]):=by simp only [e]
   rw [e2]
   clear e e2 hK
   generalize l[i]=o at *;generalize m[i]=p at *;have hf:=a18 n o.data p.data ho.1.1 hp.1.1;have hg:=a114 n hn o.opts p.opts ho.1.2 hp.1.2 ho.2
   by_cases c1:o.kind=p.kind
   ·have c1' : (o.kind != p.kind)=false:=by simpa using c1
    by_cases c2:o.data=p.data
    ·rw [decide_eq_true c2] at hf
     by_cases c3:o.opts=p.opts
     ·have he:o=p:=by cases o; cases p; simp_all
      rw [decide_eq_true c3] at hg;have e3:(if o=p/\l.drop (i+1)=m.drop (i+1) then (Sum.inl []:Sum (List AV) (List AV)) else .inr [.bool false])=(if l.drop (i+1)=m.drop (i+1) then (Sum.inl []:Sum (List AV) (List AV)) else .inr [.bool false]):=by simp only [he,true_and]
      rw [e3];simp only [ZZ,hf,hg,c1',Bool.not_true,hw];exact hK1
     ·rw [decide_eq_false c3] at hg;rw [if_neg (fun h=>c3 (by rw [h.1]))];simp only [ZZ,hf,hg,c1',Bool.not_false,Bool.not_true]
    ·rw [decide_eq_false c2] at hf;rw [if_neg (fun h=>c2 (by rw [h.1]))];simp only [ZZ,hf,c1',Bool.not_false]
   ·have c1' : (o.kind != p.kind)=true:=by simpa using c1
    rw [if_neg (fun h=>c1 (by rw [h.1]))];simp only [ZZ,c1']
  ·have:i=l.length:=by have:i<=l.length:=hi; omega
   subst this;refine (qi (by simp)).trans ?_;rw [if_pos (by rw [List.drop_length,hlen,List.drop_length])]
 ·rw [List.drop_zero,List.drop_zero]
  by_cases h:l=m
  ·rw [if_pos h,decide_eq_true h]; rfl
  ·rw [if_neg h,decide_eq_false h]; rfl
theorem a39 (n:Nat) (hn:2 ^ 63<n) (a b:Ip4) (ha:a.Bz) (hb:b.Bz):A39 n [a.av,b.av]=some [.bool (decide (a=b))]:=by
 show run39 A73 A74 n a.av b.av=_;rw [eq39];have h73:=a73 n hn a.opts b.opts ha.o hb.o ha.l;have h74:=a74 n a.data b.data ha.d hb.d
 by_cases h:a=b
 ·subst h;simp [ZY,qa,qd,qf,qc,qh,h73,h74]
 by_cases c0:a.tos=b.tos
 rotate_left
 ·have hne:a≠b:=fun h=>c0 (by rw [h])
  simp [ZY,qa,qd,qf,qc,qh,h73,h74,c0,hne]
 by_cases c1:a.id=b.id
 rotate_left
 ·have hne:a≠b:=fun h=>c1 (by rw [h])
  simp [ZY,qa,qd,qf,qc,qh,h73,h74,c0,c1,hne]
 by_cases c2:a.df=b.df
 rotate_left
 ·have hne:a≠b:=fun h=>c2 (by rw [h])
  simp [ZY,qa,qd,qf,qc,qh,h73,h74,c0,c1,c2,hne]
 by_cases c3:a.mf=b.mf
 rotate_left
 ·have hne:a≠b:=fun h=>c3 (by rw [h])
  simp [ZY,qa,qd,qf,qc,qh,h73,h74,c0,c1,c2,c3,hne]
 by_cases c4:a.off=b.off
 rotate_left
 ·have hne:a≠b:=fun h=>c4 (by rw [h])
  simp [ZY,qa,qd,qf,qc,qh,h73,h74,c0,c1,c2,c3,c4,hne]
 by_cases c5:a.ttl=b.ttl
 rotate_left
 ·have hne:a≠b:=fun h=>c5 (by rw [h])
  simp [ZY,qa,qd,qf,qc,qh,h73,h74,c0,c1,c2,c3,c4,c5,hne]
 by_cases c6:a.proto=b.proto
 rotate_left
 ·have hne:a≠b:=fun h=>c6 (by rw [h])
  simp [ZY,qa,qd,qf,qc,qh,h73,h74,c0,c1,c2,c3,c4,c5,c6,hne]
 by_cases c7:a.src=b.src
 rotate_left
 ·have hne:a≠b:=fun h=>c7 (by rw [h])
  simp [ZY,qa,qd,qf,qc,qh,h73,h74,c0,c1,c2,c3,c4,c5,c6,c7,hne]
 by_cases c8:a.dst=b.dst
 rotate_left
 ·have hne:a≠b:=fun h=>c8 (by rw [h])
  simp [ZY,qa,qd,qf,qc,qh,h73,h74,c0,c1,c2,c3,c4,c5,c6,c7,c8,hne]
 by_cases c9:a.opts=b.opts
 rotate_left
 ·have hne:a≠b:=fun h=>c9 (by rw [h])
  rw [decide_eq_false c9] at h73;simp [ZY,qa,qd,qf,qc,qh,h73,h74,c0,c1,c2,c3,c4,c5,c6,c7,c8,hne]
 rw [decide_eq_true c9] at h73
 by_cases c10:a.data=b.data
 rotate_left
 ·have hne:a≠b:=fun h=>c10 (by rw [h])
  rw [decide_eq_false c10] at h74;simp [ZY,qa,qd,qf,qc,qh,h73,h74,c0,c1,c2,c3,c4,c5,c6,c7,c8,hne]
 rw [decide_eq_true c10] at h74
 ·exact absurd (by
   cases a; cases b
   simp_all) h
theorem a40 (n:Nat) (hn:2 ^ 63<n) (a b:Ip6) (ha:a.Bz) (hb:b.Bz):A40 n [a.av,b.av]=some [.bool (decide (a=b))]:=by
 show run40 A18 A75 n a.av b.av=_;rw [eq40];have h75:=a75 n hn a.exts b.exts ha.x hb.x ha.l;have h18:=a18 n a.data b.data ha.d hb.d
 by_cases h:a=b
 ·subst h;simp [ZY,qa,qd,qf,qc,qh,h75,h18]
 by_cases c0:a.cls=b.cls
 rotate_left
 ·have hne:a≠b:=fun h=>c0 (by rw [h])
  simp [ZY,qa,qd,qf,qc,qh,h75,h18,c0,hne]
 by_cases c1:a.flow=b.flow
 rotate_left
 ·have hne:a≠b:=fun h=>c1 (by rw [h])
  simp [ZY,qa,qd,qf,qc,qh,h75,h18,c0,c1,hne]
 by_cases c2:a.hop=b.hop
 rotate_left
 ·have hne:a≠b:=fun h=>c2 (by rw [h])
  simp [ZY,qa,qd,qf,qc,qh,h75,h18,c0,c1,c2,hne]
 by_cases c3:a.src=b.src
 rotate_left
 ·have hne:a≠b:=fun h=>c3 (by rw [h])
  simp [ZY,qa,qd,qf,qc,qh,h75,h18,c0,c1,c2,c3,hne]
 by_cases c4:a.dst=b.dst
 rotate_left
 ·have hne:a≠b:=fun h=>c4 (by rw [h])
  simp [ZY,qa,qd,qf,qc,qh,h75,h18,c0,c1,c2,c3,c4,hne]
 by_cases c5:a.frag=b.frag
 rotate_left
 ·have hne:a≠b:=fun h=>c5 (by rw [h])
  simp [ZY,qa,qd,qf,qc,qh,h75,h18,c0,c1,c2,c3,c4,c5,hne]
 by_cases c6:a.next=b.next
 rotate_left
 ·have hne:a≠b:=fun h=>c6 (by rw [h])
  simp [ZY,qa,qd,qf,qc,qh,h75,h18,c0,c1,c2,c3,c4,c5,c6,hne]
 by_cases c7:a.exts=b.exts
 rotate_left
 ·have hne:a≠b:=fun h=>c7 (by rw [h])
  rw [decide_eq_false c7] at h75;simp [ZY,qa,qd,qf,qc,qh,h75,h18,c0,c1,c2,c3,c4,c5,c6,hne]
 rw [decide_eq_true c7] at h75
 by_cases c8:a.data=b.data
 rotate_left
 ·have hne:a≠b:=fun h=>c8 (by rw [h])
  rw [decide_eq_false c8] at h18;simp [ZY,qa,qd,qf,qc,qh,h75,h18,c0,c1,c2,c3,c4,c5,c6,hne]
 rw [decide_eq_true c8] at h18
 ·exact absurd (by
   cases a; cases b
   simp_all) h
theorem a42 (n:Nat) (a b:Udp) (ha:Bytes a.data) (hb:Bytes b.data):A42 n [a.av,b.av]=some [.bool (decide (a=b))]:=by
 show run42 A74 n a.av b.av=_;rw [eq42];have h74:=a74 n a.data b.data ha hb
 by_cases h:a=b
 ·subst h;simp [ZY,qa,qd,qf,qc,qh,h74]
 by_cases c0:a.sport=b.sport
 rotate_left
 ·have hne:a≠b:=fun h=>c0 (by rw [h])
  simp [ZY,qa,qd,qf,qc,qh,h74,c0,hne]
 by_cases c1:a.dport=b.dport
 rotate_left
 ·have hne:a≠b:=fun h=>c1 (by rw [h])
  simp [ZY,qa,qd,qf,qc,qh,h74,c0,c1,hne]
 by_cases c2:a.nosum=b.nosum
 rotate_left
 ·have hne:a≠b:=fun h=>c2 (by rw [h])
  simp [ZY,qa,qd,qf,qc,qh,h74,c0,c1,c2,hne]
 by_cases c3:a.data=b.data
 rotate_left
 ·have hne:a≠b:=fun h=>c3 (by rw [h])
  rw [decide_eq_false c3] at h74;simp [ZY,qa,qd,qf,qc,qh,h74,c0,c1,c2,hne]
 rw [decide_eq_true c3] at h74
 ·exact absurd (by
   cases a; cases b
   simp_all) h
theorem a43 (n:Nat) (hn:2 ^ 63<n) (a b:Tcp) (ha:a.Bz) (hb:b.Bz):A43 n [a.av,b.av]=some [.bool (decide (a=b))]:=by
 show run43 A73 A74 n a.av b.av=_;rw [eq43];have h73:=a73 n hn a.opts b.opts ha.o hb.o ha.l;have h74:=a74 n a.data b.data ha.d hb.d
 by_cases h:a=b
 ·subst h;simp [ZY,qa,qd,qf,qc,qh,h73,h74]
 by_cases c0:a.sport=b.sport
 rotate_left
 ·have hne:a≠b:=fun h=>c0 (by rw [h])
  simp [ZY,qa,qd,qf,qc,qh,h73,h74,c0,hne]
 by_cases c1:a.dport=b.dport
 rotate_left
 ·have hne:a≠b:=fun h=>c1 (by rw [h])
  simp [ZY,qa,qd,qf,qc,qh,h73,h74,c0,c1,hne]
 by_cases c2:a.seq=b.seq
 rotate_left
 ·have hne:a≠b:=fun h=>c2 (by rw [h])
  simp [ZY,qa,qd,qf,qc,qh,h73,h74,c0,c1,c2,hne]
 by_cases c3:a.ack=b.ack
 rotate_left
 ·have hne:a≠b:=fun h=>c3 (by rw [h])
  simp [ZY,qa,qd,qf,qc,qh,h73,h74,c0,c1,c2,c3,hne]
 by_cases c4:a.flags=b.flags
 rotate_left
 ·have hne:a≠b:=fun h=>c4 (by rw [h])
  simp [ZY,qa,qd,qf,qc,qh,h73,h74,c0,c1,c2,c3,c4,hne]
 by_cases c5:a.win=b.win
 rotate_left
 ·have hne:a≠b:=fun h=>c5 (by rw [h])
  simp [ZY,qa,qd,qf,qc,qh,h73,h74,c0,c1,c2,c3,c4,c5,hne]
 by_cases c6:a.urg=b.urg
 rotate_left
 ·have hne:a≠b:=fun h=>c6 (by rw [h])
  simp [ZY,qa,qd,qf,qc,qh,h73,h74,c0,c1,c2,c3,c4,c5,c6,hne]
 by_cases c7:a.opts=b.opts
 rotate_left
 ·have hne:a≠b:=fun h=>c7 (by rw [h])
  rw [decide_eq_false c7] at h73;simp [ZY,qa,qd,qf,qc,qh,h73,h74,c0,c1,c2,c3,c4,c5,c6,hne]
 rw [decide_eq_true c7] at h73
 by_cases c8:a.data=b.data
 rotate_left
 ·have hne:a≠b:=fun h=>c8 (by rw [h])
  rw [decide_eq_false c8] at h74;simp [ZY,qa,qd,qf,qc,qh,h73,h74,c0,c1,c2,c3,c4,c5,c6,hne]
 rw [decide_eq_true c8] at h74
 ·exact absurd (by
   cases a; cases b
   simp_all) h
theorem nS {l:List Int} {t:Nat} (h:t<l.length):qk l t=l[t]:=by
 unfold qk;simp [List.getD_eq_getElem?_getD,h]
theorem a41 (n:Nat) (hn:2 ^ 63<n) (a b:Icmp) (hl:a.data.length<2 ^ 44):A41 n [a.av,b.av]=some [.bool (decide (a=b))]:=by
 show run41 n a.av b.av=_;rw [eq41];have e:=lx a b
 by_cases c1:a.v=b.v
 rotate_left
 ·rw [decide_eq_false (fun h=>c1 (e.1 h).1)];simp [ZY,c1]
 by_cases c2:a.type=b.type
 rotate_left
 ·rw [decide_eq_false (fun h=>c2 (e.1 h).2.1)];simp [ZY,c1,c2]
 by_cases c3:a.code=b.code
 rotate_left
 ·rw [decide_eq_false (fun h=>c3 (e.1 h).2.2.1)];simp [ZY,c1,c2,c3]
 by_cases c4:a.rest=b.rest
 rotate_left
 ·rw [decide_eq_false (fun h=>c4 (e.1 h).2.2.2.1)];simp [ZY,c1,c2,c3,c4]
 by_cases hlen:a.data.length=b.data.length
 rotate_left
 ·have hlen' : ¬ ((a.data.length:Int)=(b.data.length:Int)):=by omega
  rw [decide_eq_false (fun h=>hlen (by rw [h]))];simp [ZY,c1,c2,c3,c4,hlen']
 have d1:(a.v != b.v)=false:=by simpa using c1
 have d2:(a.type != b.type)=false:=by simpa using c2
 have d3:(a.code != b.code)=false:=by simpa using c3
 have d4:(a.rest != b.rest)=false:=by simpa using c4
 have d5:((a.data.length:Int) !=(b.data.length:Int))=false:=by simp; omega
 simp only [ZZ,Int.ofNat_eq_natCast,d1,d2,d3,d4,d5];refine wZ (fun i:Nat=>[a.av,b.av,.int .i64 (i:Nat)]) (fun i=>a.data.length - i) (fun i=>if a.data.drop i=b.data.drop i then .inl [] else .inr [.bool false]) (fun i=>i<=a.data.length) 0 (by show a.data.length - 0<n; omega) (Nat.zero_le _) (fun i K hi hK=>?_) ?_
 ·simp only [ZZ]
  by_cases hi2:i<a.data.length
  ·have hw:IntKind.wrap .i64 ((i:Int)+1)=((i+1:Nat):Int):=by rw [qv (by omega) (by omega)]; omega
   have hK1:=hK (i+1) (by show a.data.length - (i+1)<a.data.length - i; omega) (by show i+1<=a.data.length; omega);refine (qp (by simpa using hi2)).trans ?_;simp only [ql hi2,ql (show i<b.data.length by omega),Int.toNat_natCast,nS hi2,nS (show i<b.data.length by omega),bT,hw]
   by_cases he:a.data[i]=b.data[i]
   ·have e1:(a.data.drop i=b.data.drop i)=(a.data.drop (i+1)=b.data.drop (i+1)):=propext ((vK hi2 (by omega)).trans ⟨fun h=>h.2,fun h=>⟨he,h⟩⟩);have e2:(if a.data.drop i=b.data.drop i then (Sum.inl []:Sum (List AV) (List AV)) else .inr [.bool false])=(if a.data.drop (i+1)=b.data.drop (i+1) then (Sum.inl []:Sum (List AV) (List AV)) else .inr [.bool false]):=by simp only [e1]
    have he' : (a.data[i] != b.data[i])=false:=by simpa using he
    rw [e2,he',bF];exact hK1
   ·have he' : (a.data[i] != b.data[i])=true:=by simpa using he
    rw [if_neg (fun h=>he ((vK hi2 (by omega)).1 h).1),he',bT]
  ·have:i=a.data.length:=by have:i<=a.data.length:=hi; omega
   subst this;refine (qi (by simp)).trans ?_;rw [if_pos (by rw [List.drop_length,hlen,List.drop_length])]
 ·rw [List.drop_zero,List.drop_zero]
  by_cases h:a.data=b.data
  ·rw [if_pos h,decide_eq_true (e.2 ⟨c1,c2,c3,c4,h⟩)]; rfl
  ·rw [if_neg h,decide_eq_false (fun hx=>h (e.1 hx).2.2.2.2)]; rfl
theorem a38 (n:Nat) (hn:2 ^ 63<n) (d s d' s' : List Int) (t t' : List Tag) (hl:t.length<2 ^ 44):A38 n [Frm.av ⟨d,s,t,0,[]⟩,Frm.av ⟨d',s',t',0,[]⟩]=some [.bool (decide (d=d'/\s=s'/\t=t'))]:=by
 show run38 n (Frm.av ⟨d,s,t,0,[]⟩) (Frm.av ⟨d',s',t',0,[]⟩)=_;rw [eq38]
 by_cases c1:d=d'
 rotate_left
 ·rw [decide_eq_false (fun h=>c1 h.1)];simp [ZY,qh,c1]
 by_cases c2:s=s'
 rotate_left
 ·rw [decide_eq_false (fun h=>c2 h.2.1)];simp [ZY,qh,c1,c2]
 by_cases hlen:t.length=t'.length
 rotate_left
 ·have hlen' : ¬ ((t.length:Int)=(t'.length:Int)):=by omega
  rw [decide_eq_false (fun h=>hlen (by rw [h.2.2]))];simp [ZY,qh,c1,c2,hlen']
 have d5:((t.length:Int) !=(t'.length:Int))=false:=by simp; omega
 simp only [ZZ,qh,c1,c2,decide_true,Bool.not_true,List.length_map,Int.ofNat_eq_natCast,d5,List.length_nil,show ((0:Int) != 0)=false from rfl,show (((0:Nat):Int) !=((0:Nat):Int))=false from rfl];refine wZ (fun i:Nat=>[Frm.av ⟨d',s',t,0,[]⟩,Frm.av ⟨d',s',t',0,[]⟩,.int .i64 (i:Nat)]) (fun i=>t.length - i) (fun i=>if t.drop i=t'.drop i then .inl [Frm.av ⟨d',s',t,0,[]⟩,Frm.av ⟨d',s',t',0,[]⟩] else .inr [.bool false]) (fun i=>i<=t.length) 0 (by show t.length - 0<n; omega) (Nat.zero_le _) (fun i K hi hK=>?_) ?_
 ·simp only [ZZ,List.length_map]
  by_cases hi2:i<t.length
  ·have hw:IntKind.wrap .i64 ((i:Int)+1)=((i+1:Nat):Int):=by rw [qv (by omega) (by omega)]; omega
   have hK1:=hK (i+1) (by show t.length - (i+1)<t.length - i; omega) (by show i+1<=t.length; omega);refine (qp (by simpa using hi2)).trans ?_;simp only [ql hi2,ql (show i<t'.length by omega),Int.toNat_natCast,zF hi2,zF (show i<t'.length by omega),bT,hw,ZZ,qc]
   by_cases he:t[i]=t'[i]
   ·have e1:(t.drop i=t'.drop i)=(t.drop (i+1)=t'.drop (i+1)):=propext ((vK hi2 (by omega)).trans ⟨fun h=>h.2,fun h=>⟨he,h⟩⟩);have e2:(if t.drop i=t'.drop i then (Sum.inl [Frm.av ⟨d',s',t,0,[]⟩,Frm.av ⟨d',s',t',0,[]⟩]:Sum (List AV) (List AV)) else .inr [.bool false])=(if t.drop (i+1)=t'.drop (i+1) then (Sum.inl [Frm.av ⟨d',s',t,0,[]⟩,Frm.av ⟨d',s',t',0,[]⟩]:Sum (List AV) (List AV)) else .inr [.bool false]):=by simp only [e1]
    rw [e2,decide_eq_true he,Bool.not_true,bF];exact hK1
   ·rw [if_neg (fun h=>he ((vK hi2 (by omega)).1 h).1),decide_eq_false he,Bool.not_false,bT]
  ·have:i=t.length:=by have:i<=t.length:=hi; omega
   subst this;refine (qi (by simp)).trans ?_;rw [if_pos (by rw [List.drop_length,hlen,List.drop_length])]
 ·rw [List.drop_zero,List.drop_zero]
  by_cases h:t=t'
  ·rw [if_pos h,decide_eq_true ⟨trivial,trivial,h⟩];simp only [ZZ];refine wZ (fun i:Nat=>[Frm.av ⟨d',s',t,0,[]⟩,Frm.av ⟨d',s',t',0,[]⟩,.int .i64 (i:Nat)]) (fun i=>0) (fun i=>.inl []) (fun i=>i=0) 0 (by omega) rfl (fun i K hi hK=>?_) ?_
   ·have hi:i=0:=hi;subst hi;simp only [ZZ];exact qi (by rfl)
   ·rfl
  ·rw [if_neg h,decide_eq_false (fun hx=>h hx.2.2)];simp only [ZZ]
theorem a15 (n:Nat) (hn:2 ^ 63<n) (a b:Pkt) (ha:a.Bz) (hb:b.Bz):A15 n [a.av,b.av]=some [.bool (decide (a=b))]:=by
 show run15 A38 A39 A40 A41 A42 A43 n a.av b.av=_;rw [eq15];have h38:=a38 n hn a.dst a.src b.dst b.src a.tags b.tags ha.t;have h39:=a39 n hn a.ip4 b.ip4 ha.i4 hb.i4;have h40:=a40 n hn a.ip6 b.ip6 ha.i6 hb.i6;have h41:=a41 n hn a.icmp b.icmp ha.icl;have h42:=a42 n a.udp b.udp ha.u hb.u;have h43:=a43 n hn a.tcp b.tcp ha.tc hb.tc;have e:=eM a b;unfold upE at e
 by_cases c1:a.kind=b.kind
 rotate_left
 ·rw [decide_eq_false (fun h=>c1 (by rw [h]))];simp [ZY,c1]
 by_cases c2:a.l4=b.l4
 rotate_left
 ·rw [decide_eq_false (fun h=>c2 (by rw [h]))];simp [ZY,c1,c2]
 by_cases c3:a.arp=b.arp
 rotate_left
 ·rw [decide_eq_false (fun h=>c3 (by rw [h]))];simp [ZY,qf,c1,c2,c3]
 by_cases c4:a.dst=b.dst/\a.src=b.src/\a.tags=b.tags
 rotate_left
 ·rw [decide_eq_false (fun h=>c4 ⟨by rw [h],by rw [h],by rw [h]⟩)];rw [decide_eq_false c4] at h38;simp [ZY,qf,h38,c1,c2,c3]
 rw [decide_eq_true c4] at h38
 by_cases c5:a.ip4=b.ip4
 rotate_left
 ·rw [decide_eq_false (fun h=>c5 (by rw [h]))];rw [decide_eq_false c5] at h39;simp [ZY,qf,h38,h39,c1,c2,c3]
 rw [decide_eq_true c5] at h39
 by_cases c6:a.ip6=b.ip6
 rotate_left
 ·rw [decide_eq_false (fun h=>c6 (by rw [h]))];rw [decide_eq_false c6] at h40;simp [ZY,qf,h38,h39,h40,c1,c2,c3]
 rw [decide_eq_true c6] at h40
 by_cases c7:a.icmp=b.icmp
 rotate_left
 ·rw [decide_eq_false (fun h=>c7 (by rw [h]))];rw [decide_eq_false c7] at h41;simp [ZY,qf,h38,h39,h40,h41,c1,c2,c3]
 rw [decide_eq_true c7] at h41
 by_cases c8:a.udp=b.udp
 rotate_left
 ·rw [decide_eq_false (fun h=>c8 (by rw [h]))];rw [decide_eq_false c8] at h42;simp [ZY,qf,h38,h39,h40,h41,h42,c1,c2,c3]
 rw [decide_eq_true c8] at h42
 by_cases c9:a.tcp=b.tcp
 ·rw [decide_eq_true (e.2 ⟨c4.1,c4.2.1,c1,c2,c3,c4.2.2,c5,c6,c7,c8,c9⟩)];rw [decide_eq_true c9] at h43;simp [ZY,qf,h38,h39,h40,h41,h42,h43,c1,c2,c3]
 ·rw [decide_eq_false (fun h=>c9 (by rw [h]))];rw [decide_eq_false c9] at h43;simp [ZY,qf,h38,h39,h40,h41,h42,h43,c1,c2,c3]
end Go.Proofs.YtlmnjnhmhacgkaaGreatDoor.Am
end
section
set_option linter.unusedVariables false
set_option linter.unusedSimpArgs false
set_option maxRecDepth 100000
namespace Go.Proofs.YtlmnjnhmhacgkaaGreatDoor.Am
open Go Go.Am Go.Proofs
noncomputable section
theorem KD:Pkt.z.Bz:=by
 have h1:∀ o∈([]:List Opt),o.By:=fun o ho=>absurd ho (List.not_mem_nil)
 have h2:∀ x∈([]:List Ext),x.Bz:=fun x hx=>absurd hx (List.not_mem_nil)
 have h3:([]:List Int).length<2 ^ 44:=by decide
 have h4:([]:List Opt).length<2 ^ 44:=by decide
 have h5:([]:List Ext).length<2 ^ 44:=by decide
 have h6:([]:List Tag).length<2 ^ 44:=by decide
 exact ⟨h6,⟨h1,h4,qg⟩,⟨h2,h5,qg,h3⟩,qg,h3,qg,⟨h1,h4,qg⟩⟩
theorem xj (x:Int):Bytes (kj x):=qQ (by omega) (by omega) (qQ (by omega) (by omega) qg)
theorem lW {f:Frm} (h1:Bytes f.dst) (h2:Bytes f.src) (h3:Bytes f.data):Bytes (yj f):=by
 unfold yj;refine (((h1.app h2).app (fun x hx=>?_)).app (xj _)).app h3;obtain ⟨t,_,hx⟩:=List.mem_flatMap.1 hx;exact ((xj _).app (xj _)) x hx
theorem lG {p:Pkt} (h:p.Sm):Bytes (wh p).1:=by
 unfold wh
 split
 ·unfold vF
  split
  ·exact qg
  ·split
   ·exact qg
   ·have hf:Bytes wP:=fun x hx=>by
     unfold wP at hx;simp at hx;omega
    exact ((((hf.app (xj _)).app h.ok.smac.2).app (h.ok.sip.2.take _)).app h.ok.tmac.2).app (h.ok.tip.2.take _)
 ·split
  ·exact qg
  ·split
   ·exact qg
   ·split
    ·exact qg
    ·split
     ·rename_i hk;have e4:(qD p (qK p).1).ip4={ p.ip4 with data:=(qK p).1 }:=by unfold qD; rw [if_pos hk]
      rw [e4];unfold jq
      split
      ·exact qg
      ·exact (lE (h:={ p.ip4 with data:=(qK p).1 }) h.ok.s4 h.ok.d4 h.ok.o4).app (mQ h)
     ·rename_i hk;have e4:(qD p (qK p).1).ip6={ p.ip6 with data:=(qK p).1 }:=by unfold qD; rw [if_neg hk]
      rw [e4];unfold zL
      split
      ·exact qg
      ·split
       ·exact qg
       ·split
        ·exact qg
        ·split
         ·exact qg
         ·have hsm:({ p.ip6 with data:=(qK p).1 }:Ip6).Sm:=⟨h.ok.s6,h.ok.d6,h.x6s,h.x6l,h.ok.x6,lP h,mQ h⟩
          show Bytes (kz _);unfold kz;exact (jM (vI _) 8).app (h.ok.s6.2.app (h.ok.d6.2.app (((pS _ hsm).app (uj _)).app (mQ h))))
theorem sj {p:Pkt} (h:p.Sm):Bytes (xc p).1:=by
 unfold xc
 split
 ·exact qg
 ·rename_i hm;have hm:(zX p).2=0:=Decidable.not_not.1 hm
  show Bytes (nQ (zX p).1);rw [(xB hm).2.2.2.2];unfold nQ;refine (lW h.ok.dst.2 h.ok.src.2 (lG h)).app (fun x hx=>?_);rw [List.eq_of_mem_replicate hx]; decide
theorem hN0:2 ^ 63<N0:=by unfold N0; decide
end
end Go.Proofs.YtlmnjnhmhacgkaaGreatDoor.Am
end
