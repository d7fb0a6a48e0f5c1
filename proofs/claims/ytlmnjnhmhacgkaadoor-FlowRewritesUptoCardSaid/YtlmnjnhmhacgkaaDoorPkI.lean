/-
  What the law's functions compute.
-/
import Derived.Test.YtlmnjnhmhacgkaaDoorPkF
import Derived.Test.YtlmnjnhmhacgkaaDoorPkE
import Derived.Test.YtlmnjnhmhacgkaaDoorPkG
section
set_option linter.unusedVariables false
set_option linter.unusedSimpArgs false
set_option maxRecDepth 100000
namespace Go.Proofs.YtlmnjnhmhacgkaaDoor.Am
open Go Go.Am Go.Proofs
theorem getE_map' {α:Type} {f:α→AV} {l:List α} {i:Nat} (h:i<l.length):getE (l.map f) i=f l[i]:=by
 unfold getE
 simp [List.getD_eq_getElem?_getD,h]
theorem u8_inj:∀ {l m:List Int},Bytes l→Bytes m→((l.map Go.Am.toU8 == m.map Go.Am.toU8)=decide (l=m))
 | [],[],_,_=>rfl
 | [],y::m,_,_=>rfl
 | x::l,[],_,_=>rfl
 | x::l,y::m,hl,hm=>by
  have h1:=hl x (List.mem_cons_self ..)
  have h2:=hm y (List.mem_cons_self ..)
  have ih:=u8_inj (l:=l) (m:=m) (fun z hz=>hl z (List.mem_cons_of_mem _ hz)) (fun z hz=>hm z (List.mem_cons_of_mem _ hz))
  rw [List.map_cons,List.map_cons]
  show (Go.Am.toU8 x == Go.Am.toU8 y && l.map Go.Am.toU8 == m.map Go.Am.toU8)=_
  rw [ih]
  have e:(Go.Am.toU8 x == Go.Am.toU8 y)=decide (x=y):=by
   rw [Bool.eq_iff_iff,beq_iff_eq,decide_eq_true_iff]
   constructor
   ·intro h
    have:=congrArg UInt8.toNat h
    unfold Go.Am.toU8 at this
    rw [UInt8.toNat_ofNat_of_lt' (by show x.toNat<256; omega),UInt8.toNat_ofNat_of_lt' (by show y.toNat<256; omega)] at this
    omega
   ·intro h; rw [h]
  rw [e,Bool.eq_iff_iff]
  simp
theorem a70 (n:Nat) (l m:List Int) (hl:Bytes l) (hm:Bytes m):A70 n [.fs .u8 l,.fs .u8 m]=some [.bool (decide (l=m))]:=by
 show run70 n l m=_
 rw [eq70,u8_inj hl hm]
theorem keq_a6 (a b:List Int):keq (.arr .u8 6 a) (.arr .u8 6 b)=decide (a=b):=by
 show (IntKind.u8 == IntKind.u8 && (Nat.beq 6 6 && a == b))=_
 rw [show (IntKind.u8 == IntKind.u8)=true from rfl,show Nat.beq 6 6=true from rfl,Bool.true_and,Bool.true_and]
 rw [Bool.eq_iff_iff]; simp
theorem keq_ip (a b:Ip):keq a.av b.av=decide (a=b):=by
 obtain ⟨v,l⟩:=a
 obtain ⟨w,m⟩:=b
 simp only [Ip.av,keq,keqs]
 rw [Bool.eq_iff_iff]
 simp
theorem keq_frg (a b:Frag):keq a.av b.av=decide (a=b):=by
 obtain ⟨a1,a2,a3,a4⟩:=a
 obtain ⟨b1,b2,b3,b4⟩:=b
 simp only [Frag.av,keq,keqs]
 rw [Bool.eq_iff_iff]
 simp
theorem keq_tag (a b:Tag):keq a.av b.av=decide (a=b):=by
 obtain ⟨a1,a2,a3,a4⟩:=a
 obtain ⟨b1,b2,b3,b4⟩:=b
 simp only [Tag.av,keq,keqs]
 rw [Bool.eq_iff_iff]
 simp
theorem keq_arp (a b:Arp):keq a.av b.av=decide (a=b):=by
 obtain ⟨p,s,⟨v,l⟩,t,⟨w,m⟩⟩:=a
 obtain ⟨p',s',⟨v',l'⟩,t',⟨w',m'⟩⟩:=b
 simp only [Arp.av,Ip.av,keq,keqs]
 rw [Bool.eq_iff_iff]
 simp
theorem drop_eq {α:Type} {l m:List α} {i:Nat} (hl:i<l.length) (hm:i<m.length):(l.drop i=m.drop i)↔(l[i]=m[i]∧l.drop (i+1)=m.drop (i+1)):=by
 rw [List.drop_eq_getElem_cons hl,List.drop_eq_getElem_cons hm,List.cons.injEq]
def Opt.By (o:Opt):Prop:=Bytes o.data
def Ext.By (x:Ext):Prop:=Bytes x.data∧∀ o∈x.opts,o.By
theorem a113 (n:Nat) (a b:Opt) (ha:a.By) (hb:b.By):A113 n [a.av,b.av]=some [.bool (decide (a=b))]:=by
 show run113 A70 n a.av b.av=_
 rw [eq113]
 have h70:=a70 n a.data b.data ha hb
 by_cases h:a=b
 ·subst h
  simp [ZY,keq_ip,keq_frg,keq_arp,keq_tag,keq_a6,h70]
 by_cases c0:a.kind=b.kind
 rotate_left
 ·have hne:a≠b:=fun h=>c0 (by rw [h])
  simp [ZY,keq_ip,keq_frg,keq_arp,keq_tag,keq_a6,h70,c0,hne]
 by_cases c1:a.data=b.data
 rotate_left
 ·have hne:a≠b:=fun h=>c1 (by rw [h])
  rw [decide_eq_false c1] at h70
  simp [ZY,keq_ip,keq_frg,keq_arp,keq_tag,keq_a6,h70,c0,hne]
 rw [decide_eq_true c1] at h70
 ·exact absurd (by
   cases a; cases b
   simp_all) h
theorem a112 (n:Nat) (hn:2 ^ 63<n) (l m:List Opt) (hl:∀ o∈l,o.By) (hm:∀ o∈m,o.By) (hll:l.length<2 ^ 44):A112 n [.fv s93 (l.map Opt.av),.fv s93 (m.map Opt.av),.nili]=some [.bool (decide (l=m))]:=by
 show run112 A113 n (l.map Opt.av) (m.map Opt.av)=_
 rw [eq112]
 by_cases hlen:l.length=m.length
 rotate_left
 ·have hne:l≠m:=fun h=>hlen (by rw [h])
  have hlen' : ¬ ((l.length:Int)=(m.length:Int)):=by omega
  simp [ZY,hlen',hne]
 simp only [List.length_map,Int.ofNat_eq_natCast]
 rw [brO_f (by simp; omega)]
 refine jn_it' (fun i:Nat=>[.fv s93 (m.map Opt.av),.fv s93 (l.map Opt.av),.int .i64 (l.length:Nat),.int .i64 (i:Nat)]) (fun i=>l.length - i) (fun i=>if l.drop i=m.drop i then .inl [] else .inr [.bool false]) (fun i=>i≤l.length) 0 (by show l.length - 0<n; omega) (Nat.zero_le _) (fun i K hi hK=>?_) ?_
 ·simp only [ZZ,List.length_map]
  by_cases hi2:i<l.length
  ·have hw:IntKind.wrap .i64 ((i:Int)+1)=((i+1:Nat):Int):=by rw [wrap_id (by omega) (by omega)]; omega
   have hK1:=hK (i+1) (by show l.length - (i+1)<l.length - i; omega) (by show i+1≤l.length; omega)
   have hc:=a113 n l[i] m[i] (hl _ (List.getElem_mem hi2)) (hm _ (List.getElem_mem (by omega)))
   rw [brO_t (by simpa using hi2),inR_nat hi2,inR_nat (show i<m.length by omega)]
   simp only [ZZ,Int.toNat_natCast,getE_map' hi2,getE_map' (show i<m.length by omega),hc,hw]
   by_cases he:l[i]=m[i]
   ·have e:(l.drop i=m.drop i)=(l.drop (i+1)=m.drop (i+1)):=propext ((drop_eq hi2 (by omega)).trans ⟨fun h=>h.2,fun h=>⟨he,h⟩⟩)
    have e2:(if l.drop i=m.drop i then (Sum.inl []:Sum (List AV) (List AV)) else .inr [.bool false])=(if l.drop (i+1)=m.drop (i+1) then (Sum.inl []:Sum (List AV) (List AV)) else .inr [.bool false]):=by simp only [e]
    rw [e2,decide_eq_true he]
    exact hK1
   ·rw [if_neg (fun h=>he ((drop_eq hi2 (by omega)).1 h).1),decide_eq_false he]
    rfl
  ·have:i=l.length:=by have:i≤l.length:=hi; omega
   subst this
   rw [brO_f (by simp),if_pos (by rw [List.drop_length,hlen,List.drop_length])]
 ·rw [List.drop_zero,List.drop_zero]
  by_cases h:l=m
  ·rw [if_pos h,decide_eq_true h]; rfl
  ·rw [if_neg h,decide_eq_false h]; rfl
theorem a69 (n:Nat) (hn:2 ^ 63<n) (l m:List Opt) (hl:∀ o∈l,o.By) (hm:∀ o∈m,o.By) (hll:l.length<2 ^ 44):A69 n [.fv s93 (l.map Opt.av),.fv s93 (m.map Opt.av)]=some [.bool (decide (l=m))]:=by
 show run69 A112 n (l.map Opt.av) (m.map Opt.av)=_
 rw [eq69]
 simp only [ZZ,a112 n hn l m hl hm hll]
def Ext.Bz (x:Ext):Prop:=x.By∧x.opts.length<2 ^ 44
theorem a72 (n:Nat) (hn:2 ^ 63<n) (a b:Ext) (ha:a.Bz) (hb:b.Bz):A72 n [a.av,b.av]=some [.bool (decide (a=b))]:=by
 show run72 A69 A70 n a.av b.av=_
 rw [eq72]
 have h69:=a69 n hn a.opts b.opts ha.1.2 hb.1.2 ha.2
 have h70:=a70 n a.data b.data ha.1.1 hb.1.1
 by_cases h:a=b
 ·subst h
  simp [ZY,keq_ip,keq_frg,keq_arp,keq_tag,keq_a6,h69,h70]
 by_cases c0:a.kind=b.kind
 rotate_left
 ·have hne:a≠b:=fun h=>c0 (by rw [h])
  simp [ZY,keq_ip,keq_frg,keq_arp,keq_tag,keq_a6,h69,h70,c0,hne]
 by_cases c1:a.opts=b.opts
 rotate_left
 ·have hne:a≠b:=fun h=>c1 (by rw [h])
  rw [decide_eq_false c1] at h69
  simp [ZY,keq_ip,keq_frg,keq_arp,keq_tag,keq_a6,h69,h70,c0,hne]
 rw [decide_eq_true c1] at h69
 by_cases c2:a.data=b.data
 rotate_left
 ·have hne:a≠b:=fun h=>c2 (by rw [h])
  rw [decide_eq_false c2] at h70
  simp [ZY,keq_ip,keq_frg,keq_arp,keq_tag,keq_a6,h69,h70,c0,hne]
 rw [decide_eq_true c2] at h70
 ·exact absurd (by
   cases a; cases b
   simp_all) h
theorem a71 (n:Nat) (hn:2 ^ 63<n) (l m:List Ext) (hl:∀ o∈l,o.Bz) (hm:∀ o∈m,o.Bz) (hll:l.length<2 ^ 44):A71 n [.fv s124 (l.map Ext.av),.fv s124 (m.map Ext.av),.nili]=some [.bool (decide (l=m))]:=by
 show run71 A72 n (l.map Ext.av) (m.map Ext.av)=_
 rw [eq71]
 by_cases hlen:l.length=m.length
 rotate_left
 ·have hne:l≠m:=fun h=>hlen (by rw [h])
  have hlen' : ¬ ((l.length:Int)=(m.length:Int)):=by omega
  simp [ZY,hlen',hne]
 simp only [List.length_map,Int.ofNat_eq_natCast]
 rw [brO_f (by simp; omega)]
 refine jn_it' (fun i:Nat=>[.fv s124 (m.map Ext.av),.fv s124 (l.map Ext.av),.int .i64 (l.length:Nat),.int .i64 (i:Nat)]) (fun i=>l.length - i) (fun i=>if l.drop i=m.drop i then .inl [] else .inr [.bool false]) (fun i=>i≤l.length) 0 (by show l.length - 0<n; omega) (Nat.zero_le _) (fun i K hi hK=>?_) ?_
 ·simp only [ZZ,List.length_map]
  by_cases hi2:i<l.length
  ·have hw:IntKind.wrap .i64 ((i:Int)+1)=((i+1:Nat):Int):=by rw [wrap_id (by omega) (by omega)]; omega
   have hK1:=hK (i+1) (by show l.length - (i+1)<l.length - i; omega) (by show i+1≤l.length; omega)
   have hc:=a72 n hn l[i] m[i] (hl _ (List.getElem_mem hi2)) (hm _ (List.getElem_mem (by omega)))
   rw [brO_t (by simpa using hi2),inR_nat hi2,inR_nat (show i<m.length by omega)]
   simp only [ZZ,Int.toNat_natCast,getE_map' hi2,getE_map' (show i<m.length by omega),hc,hw]
   by_cases he:l[i]=m[i]
   ·have e:(l.drop i=m.drop i)=(l.drop (i+1)=m.drop (i+1)):=propext ((drop_eq hi2 (by omega)).trans ⟨fun h=>h.2,fun h=>⟨he,h⟩⟩)
    have e2:(if l.drop i=m.drop i then (Sum.inl []:Sum (List AV) (List AV)) else .inr [.bool false])=(if l.drop (i+1)=m.drop (i+1) then (Sum.inl []:Sum (List AV) (List AV)) else .inr [.bool false]):=by simp only [e]
    rw [e2,decide_eq_true he]
    exact hK1
   ·rw [if_neg (fun h=>he ((drop_eq hi2 (by omega)).1 h).1),decide_eq_false he]
    rfl
  ·have:i=l.length:=by have:i≤l.length:=hi; omega
   subst this
   rw [brO_f (by simp),if_pos (by rw [List.drop_length,hlen,List.drop_length])]
 ·rw [List.drop_zero,List.drop_zero]
  by_cases h:l=m
  ·rw [if_pos h,decide_eq_true h]; rfl
  ·rw [if_neg h,decide_eq_false h]; rfl
theorem a34 (n:Nat) (hn:2 ^ 63<n) (l m:List Tag) (hll:l.length<2 ^ 44):A34 n [.fv s79 (l.map Tag.av),.fv s79 (m.map Tag.av)]=some [.bool (decide (l=m))]:=by
 show run34 n (l.map Tag.av) (m.map Tag.av)=_
 rw [eq34]
 by_cases hlen:l.length=m.length
 rotate_left
 ·have hne:l≠m:=fun h=>hlen (by rw [h])
  have hlen' : ¬ ((l.length:Int)=(m.length:Int)):=by omega
  simp [ZY,hlen',hne]
 simp only [List.length_map,Int.ofNat_eq_natCast]
 rw [brO_f (by simp; omega)]
 refine jn_it' (fun i:Nat=>[.fv s79 (l.map Tag.av),.fv s79 (m.map Tag.av),.int .i64 (l.length:Nat),.int .i64 (i:Nat)]) (fun i=>l.length - i) (fun i=>if l.drop i=m.drop i then .inl [] else .inr [.bool false]) (fun i=>i≤l.length) 0 (by show l.length - 0<n; omega) (Nat.zero_le _) (fun i K hi hK=>?_) ?_
 ·simp only [ZZ,List.length_map]
  by_cases hi2:i<l.length
  ·have hw:IntKind.wrap .i64 ((i:Int)+1)=((i+1:Nat):Int):=by rw [wrap_id (by omega) (by omega)]; omega
   have hK1:=hK (i+1) (by show l.length - (i+1)<l.length - i; omega) (by show i+1≤l.length; omega)
   rw [brO_t (by simpa using hi2),inR_nat hi2,inR_nat (show i<m.length by omega)]
   simp only [ZZ,Int.toNat_natCast,getE_map' hi2,getE_map' (show i<m.length by omega),keq_tag,hw]
   by_cases he:l[i]=m[i]
   ·have e:(l.drop i=m.drop i)=(l.drop (i+1)=m.drop (i+1)):=propext ((drop_eq hi2 (by omega)).trans ⟨fun h=>h.2,fun h=>⟨he,h⟩⟩)
    have e2:(if l.drop i=m.drop i then (Sum.inl []:Sum (List AV) (List AV)) else .inr [.bool false])=(if l.drop (i+1)=m.drop (i+1) then (Sum.inl []:Sum (List AV) (List AV)) else .inr [.bool false]):=by simp only [e]
    rw [e2,decide_eq_true he]
    exact hK1
   ·rw [if_neg (fun h=>he ((drop_eq hi2 (by omega)).1 h).1),decide_eq_false he]
    rfl
  ·have:i=l.length:=by have:i≤l.length:=hi; omega
   subst this
   rw [brO_f (by simp),if_pos (by rw [List.drop_length,hlen,List.drop_length])]
 ·rw [List.drop_zero,List.drop_zero]
  by_cases h:l=m
  ·rw [if_pos h,decide_eq_true h]; rfl
  ·rw [if_neg h,decide_eq_false h]; rfl
structure Ip4.Bz (h:Ip4):Prop where
 o:∀ o∈h.opts,o.By
 l:h.opts.length<2 ^ 44
 d:Bytes h.data
structure Ip6.Bz (h:Ip6):Prop where
 x:∀ x∈h.exts,x.Bz
 l:h.exts.length<2 ^ 44
 d:Bytes h.data
 dl:h.data.length<2 ^ 44
structure Tcp.Bz (h:Tcp):Prop where
 o:∀ o∈h.opts,o.By
 l:h.opts.length<2 ^ 44
 d:Bytes h.data
structure Pkt.Bz (p:Pkt):Prop where
 t:p.tags.length<2 ^ 44
 i4:p.ip4.Bz
 i6:p.ip6.Bz
 ic:Bytes p.icmp.data
 icl:p.icmp.data.length<2 ^ 44
 u:Bytes p.udp.data
 tc:p.tcp.Bz
theorem a35 (n:Nat) (hn:2 ^ 63<n) (a b:Ip4) (ha:a.Bz) (hb:b.Bz):A35 n [a.av,b.av]=some [.bool (decide (a=b))]:=by
 show run35 A69 A70 n a.av b.av=_
 rw [eq35]
 have h69:=a69 n hn a.opts b.opts ha.o hb.o ha.l
 have h70:=a70 n a.data b.data ha.d hb.d
 by_cases h:a=b
 ·subst h
  simp [ZY,keq_ip,keq_frg,keq_arp,keq_tag,keq_a6,h69,h70]
 by_cases c0:a.tos=b.tos
 rotate_left
 ·have hne:a≠b:=fun h=>c0 (by rw [h])
  simp [ZY,keq_ip,keq_frg,keq_arp,keq_tag,keq_a6,h69,h70,c0,hne]
 by_cases c1:a.id=b.id
 rotate_left
 ·have hne:a≠b:=fun h=>c1 (by rw [h])
  simp [ZY,keq_ip,keq_frg,keq_arp,keq_tag,keq_a6,h69,h70,c0,c1,hne]
 by_cases c2:a.df=b.df
 rotate_left
 ·have hne:a≠b:=fun h=>c2 (by rw [h])
  simp [ZY,keq_ip,keq_frg,keq_arp,keq_tag,keq_a6,h69,h70,c0,c1,c2,hne]
 by_cases c3:a.mf=b.mf
 rotate_left
 ·have hne:a≠b:=fun h=>c3 (by rw [h])
  simp [ZY,keq_ip,keq_frg,keq_arp,keq_tag,keq_a6,h69,h70,c0,c1,c2,c3,hne]
 by_cases c4:a.off=b.off
 rotate_left
 ·have hne:a≠b:=fun h=>c4 (by rw [h])
  simp [ZY,keq_ip,keq_frg,keq_arp,keq_tag,keq_a6,h69,h70,c0,c1,c2,c3,c4,hne]
 by_cases c5:a.ttl=b.ttl
 rotate_left
 ·have hne:a≠b:=fun h=>c5 (by rw [h])
  simp [ZY,keq_ip,keq_frg,keq_arp,keq_tag,keq_a6,h69,h70,c0,c1,c2,c3,c4,c5,hne]
 by_cases c6:a.proto=b.proto
 rotate_left
 ·have hne:a≠b:=fun h=>c6 (by rw [h])
  simp [ZY,keq_ip,keq_frg,keq_arp,keq_tag,keq_a6,h69,h70,c0,c1,c2,c3,c4,c5,c6,hne]
 by_cases c7:a.src=b.src
 rotate_left
 ·have hne:a≠b:=fun h=>c7 (by rw [h])
  simp [ZY,keq_ip,keq_frg,keq_arp,keq_tag,keq_a6,h69,h70,c0,c1,c2,c3,c4,c5,c6,c7,hne]
 by_cases c8:a.dst=b.dst
 rotate_left
 ·have hne:a≠b:=fun h=>c8 (by rw [h])
  simp [ZY,keq_ip,keq_frg,keq_arp,keq_tag,keq_a6,h69,h70,c0,c1,c2,c3,c4,c5,c6,c7,c8,hne]
 by_cases c9:a.opts=b.opts
 rotate_left
 ·have hne:a≠b:=fun h=>c9 (by rw [h])
  rw [decide_eq_false c9] at h69
  simp [ZY,keq_ip,keq_frg,keq_arp,keq_tag,keq_a6,h69,h70,c0,c1,c2,c3,c4,c5,c6,c7,c8,hne]
 rw [decide_eq_true c9] at h69
 by_cases c10:a.data=b.data
 rotate_left
 ·have hne:a≠b:=fun h=>c10 (by rw [h])
  rw [decide_eq_false c10] at h70
  simp [ZY,keq_ip,keq_frg,keq_arp,keq_tag,keq_a6,h69,h70,c0,c1,c2,c3,c4,c5,c6,c7,c8,hne]
 rw [decide_eq_true c10] at h70
 ·exact absurd (by
   cases a; cases b
   simp_all) h
theorem a36 (n:Nat) (hn:2 ^ 63<n) (a b:Ip6) (ha:a.Bz) (hb:b.Bz):A36 n [a.av,b.av]=some [.bool (decide (a=b))]:=by
 show run36 A70 A71 n a.av b.av=_
 rw [eq36]
 have h71:=a71 n hn a.exts b.exts ha.x hb.x ha.l
 have h70:=a70 n a.data b.data ha.d hb.d
 by_cases h:a=b
 ·subst h
  simp [ZY,keq_ip,keq_frg,keq_arp,keq_tag,keq_a6,h71,h70]
 by_cases c0:a.cls=b.cls
 rotate_left
 ·have hne:a≠b:=fun h=>c0 (by rw [h])
  simp [ZY,keq_ip,keq_frg,keq_arp,keq_tag,keq_a6,h71,h70,c0,hne]
 by_cases c1:a.flow=b.flow
 rotate_left
 ·have hne:a≠b:=fun h=>c1 (by rw [h])
  simp [ZY,keq_ip,keq_frg,keq_arp,keq_tag,keq_a6,h71,h70,c0,c1,hne]
 by_cases c2:a.hop=b.hop
 rotate_left
 ·have hne:a≠b:=fun h=>c2 (by rw [h])
  simp [ZY,keq_ip,keq_frg,keq_arp,keq_tag,keq_a6,h71,h70,c0,c1,c2,hne]
 by_cases c3:a.next=b.next
 rotate_left
 ·have hne:a≠b:=fun h=>c3 (by rw [h])
  simp [ZY,keq_ip,keq_frg,keq_arp,keq_tag,keq_a6,h71,h70,c0,c1,c2,c3,hne]
 by_cases c4:a.src=b.src
 rotate_left
 ·have hne:a≠b:=fun h=>c4 (by rw [h])
  simp [ZY,keq_ip,keq_frg,keq_arp,keq_tag,keq_a6,h71,h70,c0,c1,c2,c3,c4,hne]
 by_cases c5:a.dst=b.dst
 rotate_left
 ·have hne:a≠b:=fun h=>c5 (by rw [h])
  simp [ZY,keq_ip,keq_frg,keq_arp,keq_tag,keq_a6,h71,h70,c0,c1,c2,c3,c4,c5,hne]
 by_cases c6:a.frag=b.frag
 rotate_left
 ·have hne:a≠b:=fun h=>c6 (by rw [h])
  simp [ZY,keq_ip,keq_frg,keq_arp,keq_tag,keq_a6,h71,h70,c0,c1,c2,c3,c4,c5,c6,hne]
 by_cases c7:a.exts=b.exts
 rotate_left
 ·have hne:a≠b:=fun h=>c7 (by rw [h])
  rw [decide_eq_false c7] at h71
  simp [ZY,keq_ip,keq_frg,keq_arp,keq_tag,keq_a6,h71,h70,c0,c1,c2,c3,c4,c5,c6,hne]
 rw [decide_eq_true c7] at h71
 by_cases c8:a.data=b.data
 rotate_left
 ·have hne:a≠b:=fun h=>c8 (by rw [h])
  rw [decide_eq_false c8] at h70
  simp [ZY,keq_ip,keq_frg,keq_arp,keq_tag,keq_a6,h71,h70,c0,c1,c2,c3,c4,c5,c6,hne]
 rw [decide_eq_true c8] at h70
 ·exact absurd (by
   cases a; cases b
   simp_all) h
def upE (a b:Pkt):Prop:=a.icmp=b.icmp∧a.udp=b.udp∧a.tcp=b.tcp
instance (a b:Pkt):Decidable (upE a b):=by unfold upE; infer_instance
theorem icmp_ext (a b:Icmp):a=b↔a.v=b.v∧a.type=b.type∧a.code=b.code∧a.rest=b.rest∧a.data=b.data:=by
 cases a; cases b; simp
theorem udp_ext (a b:Udp):a=b↔a.sport=b.sport∧a.dport=b.dport∧a.nosum=b.nosum∧a.data=b.data:=by
 cases a; cases b; simp
theorem tcp_ext (a b:Tcp):a=b↔a.sport=b.sport∧a.dport=b.dport∧a.seq=b.seq∧a.ack=b.ack∧a.flags=b.flags∧a.win=b.win∧a.urg=b.urg∧a.opts=b.opts∧a.data=b.data:=by
 cases a; cases b; simp
theorem a37 (n:Nat) (hn:2 ^ 63<n) (a b:Pkt) (ha:a.Bz) (hb:b.Bz):A37 n [a.av,b.av]=some [.bool (decide (upE a b))]:=by
 show run37 A69 A70 n a.av b.av=_
 rw [eq37]
 have h69:=a69 n hn a.tcp.opts b.tcp.opts ha.tc.o hb.tc.o ha.tc.l
 have h70i:=a70 n a.icmp.data b.icmp.data ha.ic hb.ic
 have h70u:=a70 n a.udp.data b.udp.data ha.u hb.u
 have h70t:=a70 n a.tcp.data b.tcp.data ha.tc.d hb.tc.d
 have k1:∀ (K:List AV→Option (List AV)),jn (brO (a.icmp.v == b.icmp.v) (brO (a.icmp.type == b.icmp.type) (brO (a.icmp.code == b.icmp.code) (brO (a.icmp.rest == b.icmp.rest) (some (Sum.inl [a.av,b.av,.bool (decide (a.icmp.data=b.icmp.data))])) (some (Sum.inl [a.av,b.av,.bool false]))) (some (Sum.inl [a.av,b.av,.bool false]))) (some (Sum.inl [a.av,b.av,.bool false]))) (some (Sum.inl [a.av,b.av,.bool false]))) K=K [a.av,b.av,.bool (decide (a.icmp=b.icmp))]:=by
  intro K
  have e:=icmp_ext a.icmp b.icmp
  by_cases h:a.icmp=b.icmp
  ·rw [decide_eq_true h]
   obtain ⟨e1,e2,e3,e4,e5⟩:=e.1 h
   simp [ZY,e1,e2,e3,e4,e5]
  ·rw [decide_eq_false h]
   by_cases c1:a.icmp.v=b.icmp.v
   ·by_cases c2:a.icmp.type=b.icmp.type
    ·by_cases c3:a.icmp.code=b.icmp.code
     ·by_cases c4:a.icmp.rest=b.icmp.rest
      ·have c5:¬ a.icmp.data=b.icmp.data:=fun c5=>h (e.2 ⟨c1,c2,c3,c4,c5⟩)
       simp [ZY,c1,c2,c3,c4,c5]
      ·simp [ZY,c1,c2,c3,c4]
     ·simp [ZY,c1,c2,c3]
    ·simp [ZY,c1,c2]
   ·simp [ZY,c1]
 simp only [ZZ,h70i]
 refine Eq.trans (k1 _) ?_
 have k2:∀ (c:Bool) (K:List AV→Option (List AV)),jn (brO (a.udp.sport == b.udp.sport) (brO (a.udp.dport == b.udp.dport) (brO (a.udp.nosum == b.udp.nosum) (some (Sum.inl [a.av,b.av,.bool c,.bool (decide (a.udp.data=b.udp.data))])) (some (Sum.inl [a.av,b.av,.bool c,.bool false]))) (some (Sum.inl [a.av,b.av,.bool c,.bool false]))) (some (Sum.inl [a.av,b.av,.bool c,.bool false]))) K=K [a.av,b.av,.bool c,.bool (decide (a.udp=b.udp))]:=by
  intro c K
  have e:=udp_ext a.udp b.udp
  by_cases h:a.udp=b.udp
  ·rw [decide_eq_true h]
   obtain ⟨e1,e2,e3,e4⟩:=e.1 h
   simp [ZY,e1,e2,e3,e4]
  ·rw [decide_eq_false h]
   by_cases c1:a.udp.sport=b.udp.sport
   ·by_cases c2:a.udp.dport=b.udp.dport
    ·by_cases c3:a.udp.nosum=b.udp.nosum
     ·have c4:¬ a.udp.data=b.udp.data:=fun c4=>h (e.2 ⟨c1,c2,c3,c4⟩)
      simp [ZY,c1,c2,c3,c4]
     ·simp [ZY,c1,c2,c3]
    ·simp [ZY,c1,c2]
   ·simp [ZY,c1]
 simp only [ZZ,h70u]
 refine Eq.trans (k2 _ _) ?_
 have e:=tcp_ext a.tcp b.tcp
 unfold upE
 by_cases h:a.tcp=b.tcp
 ·obtain ⟨e1,e2,e3,e4,e5,e6,e7,e8,e9⟩:=e.1 h
  by_cases hi:a.icmp=b.icmp
  ·by_cases hu:a.udp=b.udp
   ·rw [decide_eq_true e8] at h69
    rw [decide_eq_true e9] at h70t
    rw [decide_eq_true hi,decide_eq_true hu,decide_eq_true (show a.icmp=b.icmp∧a.udp=b.udp∧a.tcp=b.tcp from ⟨hi,hu,h⟩)]
    simp [ZY,h69,h70t,e1,e2,e3,e4,e5,e6,e7]
   ·rw [decide_eq_true hi,decide_eq_false hu,decide_eq_false (show ¬ (a.icmp=b.icmp∧a.udp=b.udp∧a.tcp=b.tcp) from fun hx=>hu hx.2.1)]
    simp [ZY,e1,e2,e3,e4,e5,e6,e7]
  ·rw [decide_eq_false hi,decide_eq_false (show ¬ (a.icmp=b.icmp∧a.udp=b.udp∧a.tcp=b.tcp) from fun hx=>hi hx.1)]
   simp [ZY,e1,e2,e3,e4,e5,e6,e7]
 ·by_cases hi:a.icmp=b.icmp
  ·by_cases hu:a.udp=b.udp
   ·rw [decide_eq_true hi,decide_eq_true hu,decide_eq_false (show ¬ (a.icmp=b.icmp∧a.udp=b.udp∧a.tcp=b.tcp) from fun hx=>h hx.2.2)]
    by_cases c1:a.tcp.sport=b.tcp.sport
    rotate_left
    ·simp [ZY,c1]
    by_cases c2:a.tcp.dport=b.tcp.dport
    rotate_left
    ·simp [ZY,c1,c2]
    by_cases c3:a.tcp.seq=b.tcp.seq
    rotate_left
    ·simp [ZY,c1,c2,c3]
    by_cases c4:a.tcp.ack=b.tcp.ack
    rotate_left
    ·simp [ZY,c1,c2,c3,c4]
    by_cases c5:a.tcp.flags=b.tcp.flags
    rotate_left
    ·simp [ZY,c1,c2,c3,c4,c5]
    by_cases c6:a.tcp.win=b.tcp.win
    rotate_left
    ·simp [ZY,c1,c2,c3,c4,c5,c6]
    by_cases c7:a.tcp.urg=b.tcp.urg
    rotate_left
    ·simp [ZY,c1,c2,c3,c4,c5,c6,c7]
    by_cases c8:a.tcp.opts=b.tcp.opts
    rotate_left
    ·rw [decide_eq_false c8] at h69
     simp [ZY,h69,h70t,c1,c2,c3,c4,c5,c6,c7]
    ·rw [decide_eq_true c8] at h69
     have c9:¬ a.tcp.data=b.tcp.data:=fun c9=>h (e.2 ⟨c1,c2,c3,c4,c5,c6,c7,c8,c9⟩)
     rw [decide_eq_false c9] at h70t
     simp [ZY,h69,h70t,c1,c2,c3,c4,c5,c6,c7]
   ·rw [decide_eq_true hi,decide_eq_false hu,decide_eq_false (show ¬ (a.icmp=b.icmp∧a.udp=b.udp∧a.tcp=b.tcp) from fun hx=>hu hx.2.1)]
    by_cases c1:a.tcp.sport=b.tcp.sport <;> by_cases c2:a.tcp.dport=b.tcp.dport <;> by_cases c3:a.tcp.seq=b.tcp.seq <;> by_cases c4:a.tcp.ack=b.tcp.ack <;> by_cases c5:a.tcp.flags=b.tcp.flags <;> by_cases c6:a.tcp.win=b.tcp.win <;> simp [ZY,c1,c2,c3,c4,c5,c6]
  ·rw [decide_eq_false hi,decide_eq_false (show ¬ (a.icmp=b.icmp∧a.udp=b.udp∧a.tcp=b.tcp) from fun hx=>hi hx.1)]
   by_cases c1:a.tcp.sport=b.tcp.sport <;> by_cases c2:a.tcp.dport=b.tcp.dport <;> by_cases c3:a.tcp.seq=b.tcp.seq <;> by_cases c4:a.tcp.ack=b.tcp.ack <;> by_cases c5:a.tcp.flags=b.tcp.flags <;> by_cases c6:a.tcp.win=b.tcp.win <;> simp [ZY,c1,c2,c3,c4,c5,c6]
theorem pkt_ext (a b:Pkt):a=b↔a.dst=b.dst∧a.src=b.src∧a.kind=b.kind∧a.l4=b.l4∧a.arp=b.arp∧a.tags=b.tags∧a.ip4=b.ip4∧a.ip6=b.ip6∧upE a b:=by
 constructor
 ·intro h
  subst h
  exact ⟨rfl,rfl,rfl,rfl,rfl,rfl,rfl,rfl,rfl,rfl,rfl⟩
 ·intro h
  unfold upE at h
  cases a; cases b
  simp_all
theorem a14 (n:Nat) (hn:2 ^ 63<n) (a b:Pkt) (ha:a.Bz) (hb:b.Bz):A14 n [a.av,b.av]=some [.bool (decide (a=b))]:=by
 show run14 A34 A35 A36 A37 n a.av b.av=_
 rw [eq14]
 have h34:=a34 n hn a.tags b.tags ha.t
 have h35:=a35 n hn a.ip4 b.ip4 ha.i4 hb.i4
 have h36:=a36 n hn a.ip6 b.ip6 ha.i6 hb.i6
 have h37:=a37 n hn a b ha hb
 have e:=pkt_ext a b
 by_cases h:a=b
 ·obtain ⟨e1,e2,e3,e4,e5,e6,e7,e8,e9⟩:=e.1 h
  rw [decide_eq_true h]
  rw [decide_eq_true e6] at h34
  rw [decide_eq_true e7] at h35
  rw [decide_eq_true e8] at h36
  rw [decide_eq_true e9] at h37
  simp [ZY,keq_a6,keq_arp,h34,h35,h36,h37,e1,e2,e3,e4,e5]
 ·rw [decide_eq_false h]
  by_cases c1:a.dst=b.dst
  rotate_left
  ·simp [ZY,keq_a6,c1]
  by_cases c2:a.src=b.src
  rotate_left
  ·simp [ZY,keq_a6,c1,c2]
  by_cases c3:a.kind=b.kind
  rotate_left
  ·simp [ZY,keq_a6,c1,c2,c3]
  by_cases c4:a.l4=b.l4
  rotate_left
  ·simp [ZY,keq_a6,c1,c2,c3,c4]
  by_cases c5:a.arp=b.arp
  rotate_left
  ·simp [ZY,keq_a6,keq_arp,c1,c2,c3,c4,c5]
  by_cases c6:a.tags=b.tags
  rotate_left
  ·rw [decide_eq_false c6] at h34
   simp [ZY,keq_a6,keq_arp,h34,c1,c2,c3,c4,c5]
  rw [decide_eq_true c6] at h34
  by_cases c7:a.ip4=b.ip4
  rotate_left
  ·rw [decide_eq_false c7] at h35
   simp [ZY,keq_a6,keq_arp,h34,h35,c1,c2,c3,c4,c5]
  rw [decide_eq_true c7] at h35
  by_cases c8:a.ip6=b.ip6
  rotate_left
  ·rw [decide_eq_false c8] at h36
   simp [ZY,keq_a6,keq_arp,h34,h35,h36,c1,c2,c3,c4,c5]
  rw [decide_eq_true c8] at h36
  ·have c9:¬ upE a b:=fun c9=>h (e.2 ⟨c1,c2,c3,c4,c5,c6,c7,c8,c9⟩)
   rw [decide_eq_false c9] at h37
   simp [ZY,keq_a6,keq_arp,h34,h35,h36,h37,c1,c2,c3,c4,c5]
structure Pkt.Sm (p:Pkt):Prop where
 ok:p.Ok
 tl:p.tags.length≤2 ^ 20
 o4l:p.ip4.opts.length≤2 ^ 20
 o4d:∀ o∈p.ip4.opts,o.data.length≤2 ^ 20
 d4l:p.ip4.data.length≤2 ^ 20
 x6s:∀ x∈p.ip6.exts,x.Sm
 x6l:p.ip6.exts.length≤2 ^ 20
 d6l:p.ip6.data.length≤2 ^ 20
 dil:p.icmp.data.length≤2 ^ 20
 dul:p.udp.data.length≤2 ^ 20
 otl:p.tcp.opts.length≤2 ^ 20
 otd:∀ o∈p.tcp.opts,o.data.length≤2 ^ 20
 dtl:p.tcp.data.length≤2 ^ 20
theorem Pkt.Sm.bz {p:Pkt} (h:p.Sm):p.Bz where
 t:=by have:=h.tl; omega
 i4:=⟨h.ok.o4,by have:=h.o4l; omega,h.ok.b4⟩
 i6:=⟨fun x hx=>⟨h.ok.x6 x hx,by have:=(h.x6s x hx).1; omega⟩,by have:=h.x6l; omega,h.ok.b6,by have:=h.d6l; omega⟩
 ic:=h.ok.bi
 icl:=by have:=h.dil; omega
 u:=h.ok.bu
 tc:=⟨h.ok.ot,by have:=h.otl; omega,h.ok.bt⟩
theorem Pkt.Sm.i6 {p:Pkt} (h:p.Sm):p.ip6.Sm:=⟨h.ok.s6,h.ok.d6,h.x6s,h.x6l,h.ok.x6,h.d6l,h.ok.b6⟩
theorem ipz_ok:Ip.z.Ok:=⟨rfl,fun x hx=>by
 have:x∈List.replicate 16 (0:Int):=hx
 rw [List.eq_of_mem_replicate this]; decide⟩
theorem mz_ok:([0,0,0,0,0,0]:List Int).length=6∧Bytes [0,0,0,0,0,0]:=⟨rfl,fun x hx=>by
 have:x∈List.replicate 6 (0:Int):=hx
 rw [List.eq_of_mem_replicate this]; decide⟩
theorem Pkt.Sm.alone {p:Pkt} (h:p.Sm):(alone p).Sm:=by
 have hz:∀ o∈([]:List Opt),Bytes o.data:=fun o ho=>by cases ho
 refine ⟨⟨?_,?_,?_,?_,h.ok.dst,h.ok.src,?_,?_,?_,?_,?_,?_,?_,?_,?_,?_,?_,?_⟩,h.tl,?_,?_,?_,?_,?_,?_,?_,?_,?_,?_,?_⟩
 ·show (if p.kind=2 then p.ip4 else Ip4.z).src.Ok; split; exact h.ok.s4; exact ipz_ok
 ·show (if p.kind=2 then p.ip4 else Ip4.z).dst.Ok; split; exact h.ok.d4; exact ipz_ok
 ·show (if p.kind=3 then p.ip6 else Ip6.z).src.Ok; split; exact h.ok.s6; exact ipz_ok
 ·show (if p.kind=3 then p.ip6 else Ip6.z).dst.Ok; split; exact h.ok.d6; exact ipz_ok
 ·show (if p.kind=1 then p.arp else Arp.z).smac.length=6∧Bytes (if p.kind=1 then p.arp else Arp.z).smac; split; exact h.ok.smac; exact mz_ok
 ·show (if p.kind=1 then p.arp else Arp.z).tmac.length=6∧Bytes (if p.kind=1 then p.arp else Arp.z).tmac; split; exact h.ok.tmac; exact mz_ok
 ·show (if p.kind=1 then p.arp else Arp.z).sip.Ok; split; exact h.ok.sip; exact ipz_ok
 ·show (if p.kind=1 then p.arp else Arp.z).tip.Ok; split; exact h.ok.tip; exact ipz_ok
 ·show ∀ o∈(if p.kind=2 then p.ip4 else Ip4.z).opts,Bytes o.data; split; exact h.ok.o4; exact hz
 ·show Bytes (if p.kind=2 then p.ip4 else Ip4.z).data; split; exact h.ok.b4; exact bytes_nil
 ·show ∀ x∈(if p.kind=3 then p.ip6 else Ip6.z).exts,Bytes x.data∧∀ o∈x.opts,Bytes o.data; split; exact h.ok.x6; exact fun x hx=>by cases hx
 ·show Bytes (if p.kind=3 then p.ip6 else Ip6.z).data; split; exact h.ok.b6; exact bytes_nil
 ·show Bytes (if p.l4=1 then p.icmp else Icmp.z).data; split; exact h.ok.bi; exact bytes_nil
 ·show Bytes (if p.l4=2 then p.udp else Udp.z).data; split; exact h.ok.bu; exact bytes_nil
 ·show ∀ o∈(if p.l4=3 then p.tcp else Tcp.z).opts,Bytes o.data; split; exact h.ok.ot; exact hz
 ·show Bytes (if p.l4=3 then p.tcp else Tcp.z).data; split; exact h.ok.bt; exact bytes_nil
 ·show (if p.kind=2 then p.ip4 else Ip4.z).opts.length≤2 ^ 20; split; exact h.o4l; exact by decide
 ·show ∀ o∈(if p.kind=2 then p.ip4 else Ip4.z).opts,o.data.length≤2 ^ 20; split; exact h.o4d; exact fun x hx=>by cases hx
 ·show (if p.kind=2 then p.ip4 else Ip4.z).data.length≤2 ^ 20; split; exact h.d4l; exact by decide
 ·show ∀ x∈(if p.kind=3 then p.ip6 else Ip6.z).exts,x.Sm; split; exact h.x6s; exact fun x hx=>by cases hx
 ·show (if p.kind=3 then p.ip6 else Ip6.z).exts.length≤2 ^ 20; split; exact h.x6l; exact by decide
 ·show (if p.kind=3 then p.ip6 else Ip6.z).data.length≤2 ^ 20; split; exact h.d6l; exact by decide
 ·show (if p.l4=1 then p.icmp else Icmp.z).data.length≤2 ^ 20; split; exact h.dil; exact by decide
 ·show (if p.l4=2 then p.udp else Udp.z).data.length≤2 ^ 20; split; exact h.dul; exact by decide
 ·show (if p.l4=3 then p.tcp else Tcp.z).opts.length≤2 ^ 20; split; exact h.otl; exact by decide
 ·show ∀ o∈(if p.l4=3 then p.tcp else Tcp.z).opts,o.data.length≤2 ^ 20; split; exact h.otd; exact fun x hx=>by cases hx
 ·show (if p.l4=3 then p.tcp else Tcp.z).data.length≤2 ^ 20; split; exact h.dtl; exact by decide
theorem a64 (n:Nat) (hn:2 ^ 63<n) (p:Pkt) (h:p.Sm):A64 n [p.av]=some [.bool (decide (mixed p))]:=by
 show run64 A14 A55 A56 A57 n p.av=_
 rw [eq64]
 have h14:=a14 n hn p (alone p) h.bz h.alone.bz
 by_cases k:p.kind<1∨p.kind > 3∨p.l4<0∨p.l4 > 3
 ·rw [decide_eq_true (show mixed p from .inl k)]
  by_cases k1:p.kind<1
  ·simp [ZY,k1]
  by_cases k2:p.kind > 3
  ·simp [ZY,k1,k2]
  by_cases k3:p.l4<0
  ·simp [ZY,k1,k2,k3]
  ·have k4:p.l4 > 3:=by omega
   simp [ZY,k1,k2,k3,k4]
 have k1:¬ p.kind<1:=by omega
 have k2:¬ p.kind > 3:=by omega
 have k3:¬ p.l4<0:=by omega
 have k4:¬ p.l4 > 3:=by omega
 have hK:p.kind=1∨p.kind=2∨p.kind=3:=by omega
 have hL:p.l4=0∨p.l4=1∨p.l4=2∨p.l4=3:=by omega
 have hd:((dataOf p).length > 0)↔dataOf p≠[]:=by
  constructor
  ·intro hx hy; rw [hy] at hx; simp at hx
  ·intro hx; exact List.length_pos_iff.2 hx
 have tail:∀ (e:Bool),e=decide (p=alone p)→(jn (jn (brO (!e) (some (Sum.inl [p.av,.bool true])) (some (Sum.inl [p.av,.bool (p.l4 != layer p)]))) (fun d6=>brO (AV.toBool (getE d6 1)) (some (Sum.inr [AV.bool true])) (some (Sum.inl [eta s46 (getE d6 0)])))) (fun d7=>
   brO (AV.toInt (AV.item (getE d7 0) 7) == 0) (some [.bool false]) ((A56 n [eta s46 (getE d7 0)]).bind fun r8=>brO (Nat.beq (List.length r8) 1) (brO (decide ((List.length (AV.toInts (getE r8 0)):Int) > 0)) (some [.bool true])
    (brO (AV.toInt (AV.item (getE d7 0) 7) == 1) ((A55 n [eta s46 (getE d7 0)]).bind fun r9=>brO (Nat.beq (List.length r9) 1) (some [.bool (AV.toInt (AV.item (AV.item (getE d7 0) 8) 0) != AV.toInt (AV.item (getE r9 0) 2))]) none) (some [.bool false]))) none)):Option (List AV))=some [.bool (decide (mixed p))]:=by
  intro e he
  subst he
  by_cases m1:p=alone p
  ·by_cases m2:p.l4=layer p
   ·by_cases m3:p.l4=0
    ·have:¬ mixed p:=fun hx=>by
      unfold mixed at hx
      rcases hx with hx | hx | hx | hx
      ·exact k hx
      ·exact hx m1
      ·exact hx m2
      ·exact hx.1 m3
     rw [decide_eq_true m1,decide_eq_false this]
     rw [m3] at m2
     have m2' : ((0:Int) != layer p)=false:=by simp; exact m2
     simp only [ZZ,Bool.not_true,m3,m2',show ((0:Int) == 0)=true from rfl]
    ·have m3' : (p.l4 == 0)=false:=by simpa using m3
     have m2' : (p.l4 != layer p)=false:=by simpa using m2
     by_cases m4:dataOf p=[]
     ·by_cases m5:p.l4=1
      ·by_cases m6:p.icmp.v=(endsOf p).v
       ·have:¬ mixed p:=fun hx=>by
         unfold mixed at hx
         rcases hx with hx | hx | hx | hx
         ·exact k hx
         ·exact hx m1
         ·exact hx m2
         ·rcases hx.2 with hy | hy
          ·exact hy m4
          ·exact hy.2 m6
        have m5' : (p.l4 == 1)=true:=by simpa using m5
        have m6' : (p.icmp.v !=(endsOf p).v)=false:=by simpa using m6
        rw [decide_eq_true m1,decide_eq_false this]
        simp only [ZZ,Bool.not_true,m2',m3',a56,a55,m4,List.length_nil,m5',m6']
        rfl
       ·have:mixed p:=.inr (.inr (.inr ⟨m3,.inr ⟨m5,m6⟩⟩))
        have m5' : (p.l4 == 1)=true:=by simpa using m5
        have m6' : (p.icmp.v !=(endsOf p).v)=true:=by simpa using m6
        rw [decide_eq_true m1,decide_eq_true this]
        simp only [ZZ,Bool.not_true,m2',m3',a56,a55,m4,List.length_nil,m5',m6']
        rfl
      ·have:¬ mixed p:=fun hx=>by
        unfold mixed at hx
        rcases hx with hx | hx | hx | hx
        ·exact k hx
        ·exact hx m1
        ·exact hx m2
        ·rcases hx.2 with hy | hy
         ·exact hy m4
         ·exact m5 hy.1
       have m5' : (p.l4 == 1)=false:=by simpa using m5
       rw [decide_eq_true m1,decide_eq_false this]
       simp only [ZZ,Bool.not_true,m2',m3',a56,a55,m4,List.length_nil,m5']
       rfl
     ·have:mixed p:=.inr (.inr (.inr ⟨m3,.inl m4⟩))
      have m4' : ((dataOf p).length:Int) > 0:=by have:=hd.2 m4; omega
      rw [decide_eq_true m1,decide_eq_true this]
      simp only [ZZ,Bool.not_true,m2',m3',a56,m4',decide_true]
   ·have:mixed p:=.inr (.inr (.inl m2))
    have m2' : (p.l4 != layer p)=true:=by simpa using m2
    rw [decide_eq_true m1,decide_eq_true this]
    simp only [ZZ,Bool.not_true,m2']
  ·have:mixed p:=.inr (.inl m1)
   rw [decide_eq_false m1,decide_eq_true this]
   simp only [ZZ,Bool.not_false]
 rcases hK with hk | hk | hk <;> rcases hL with hl | hl | hl | hl
 ·
  have hk1:(p.kind == 1)=true:=by simpa using hk
  have hk2:(p.kind == 2)=false:=by simp; omega
  have hk3:(p.kind == 3)=false:=by simp; omega
  have hl1:(p.l4 == 1)=false:=by simp; omega
  have hl2:(p.l4 == 2)=false:=by simp; omega
  have hl3:(p.l4 == 3)=false:=by simp; omega
  have ea:alone p=⟨p.dst,p.src,p.tags,p.kind,p.arp,Ip4.z,Ip6.z,p.l4,Icmp.z,Udp.z,Tcp.z⟩:=by
   unfold alone
   simp [hk,hl]
  rw [ea] at h14 tail
  simp only [Arp.z,Ip4.z,Ip6.z,Ip.z,Frag.z,Icmp.z,Udp.z,Tcp.z] at h14
  simp only [ZZ,k1,k2,k3,k4,decide_false,hk1,hk2,hk3,hl1,hl2,hl3,h14,a57,Int.ofNat_eq_natCast]
  exact tail _ rfl
 ·
  have hk1:(p.kind == 1)=true:=by simpa using hk
  have hk2:(p.kind == 2)=false:=by simp; omega
  have hk3:(p.kind == 3)=false:=by simp; omega
  have hl1:(p.l4 == 1)=true:=by simpa using hl
  have hl2:(p.l4 == 2)=false:=by simp; omega
  have hl3:(p.l4 == 3)=false:=by simp; omega
  have ea:alone p=⟨p.dst,p.src,p.tags,p.kind,p.arp,Ip4.z,Ip6.z,p.l4,p.icmp,Udp.z,Tcp.z⟩:=by
   unfold alone
   simp [hk,hl]
  rw [ea] at h14 tail
  simp only [Arp.z,Ip4.z,Ip6.z,Ip.z,Frag.z,Icmp.z,Udp.z,Tcp.z] at h14
  simp only [ZZ,k1,k2,k3,k4,decide_false,hk1,hk2,hk3,hl1,hl2,hl3,h14,a57,Int.ofNat_eq_natCast]
  exact tail _ rfl
 ·
  have hk1:(p.kind == 1)=true:=by simpa using hk
  have hk2:(p.kind == 2)=false:=by simp; omega
  have hk3:(p.kind == 3)=false:=by simp; omega
  have hl1:(p.l4 == 1)=false:=by simp; omega
  have hl2:(p.l4 == 2)=true:=by simpa using hl
  have hl3:(p.l4 == 3)=false:=by simp; omega
  have ea:alone p=⟨p.dst,p.src,p.tags,p.kind,p.arp,Ip4.z,Ip6.z,p.l4,Icmp.z,p.udp,Tcp.z⟩:=by
   unfold alone
   simp [hk,hl]
  rw [ea] at h14 tail
  simp only [Arp.z,Ip4.z,Ip6.z,Ip.z,Frag.z,Icmp.z,Udp.z,Tcp.z] at h14
  simp only [ZZ,k1,k2,k3,k4,decide_false,hk1,hk2,hk3,hl1,hl2,hl3,h14,a57,Int.ofNat_eq_natCast]
  exact tail _ rfl
 ·
  have hk1:(p.kind == 1)=true:=by simpa using hk
  have hk2:(p.kind == 2)=false:=by simp; omega
  have hk3:(p.kind == 3)=false:=by simp; omega
  have hl1:(p.l4 == 1)=false:=by simp; omega
  have hl2:(p.l4 == 2)=false:=by simp; omega
  have hl3:(p.l4 == 3)=true:=by simpa using hl
  have ea:alone p=⟨p.dst,p.src,p.tags,p.kind,p.arp,Ip4.z,Ip6.z,p.l4,Icmp.z,Udp.z,p.tcp⟩:=by
   unfold alone
   simp [hk,hl]
  rw [ea] at h14 tail
  simp only [Arp.z,Ip4.z,Ip6.z,Ip.z,Frag.z,Icmp.z,Udp.z,Tcp.z] at h14
  simp only [ZZ,k1,k2,k3,k4,decide_false,hk1,hk2,hk3,hl1,hl2,hl3,h14,a57,Int.ofNat_eq_natCast]
  exact tail _ rfl
 ·
  have hk1:(p.kind == 1)=false:=by simp; omega
  have hk2:(p.kind == 2)=true:=by simpa using hk
  have hk3:(p.kind == 3)=false:=by simp; omega
  have hl1:(p.l4 == 1)=false:=by simp; omega
  have hl2:(p.l4 == 2)=false:=by simp; omega
  have hl3:(p.l4 == 3)=false:=by simp; omega
  have ea:alone p=⟨p.dst,p.src,p.tags,p.kind,Arp.z,p.ip4,Ip6.z,p.l4,Icmp.z,Udp.z,Tcp.z⟩:=by
   unfold alone
   simp [hk,hl]
  rw [ea] at h14 tail
  simp only [Arp.z,Ip4.z,Ip6.z,Ip.z,Frag.z,Icmp.z,Udp.z,Tcp.z] at h14
  simp only [ZZ,k1,k2,k3,k4,decide_false,hk1,hk2,hk3,hl1,hl2,hl3,h14,a57,Int.ofNat_eq_natCast]
  exact tail _ rfl
 ·
  have hk1:(p.kind == 1)=false:=by simp; omega
  have hk2:(p.kind == 2)=true:=by simpa using hk
  have hk3:(p.kind == 3)=false:=by simp; omega
  have hl1:(p.l4 == 1)=true:=by simpa using hl
  have hl2:(p.l4 == 2)=false:=by simp; omega
  have hl3:(p.l4 == 3)=false:=by simp; omega
  have ea:alone p=⟨p.dst,p.src,p.tags,p.kind,Arp.z,p.ip4,Ip6.z,p.l4,p.icmp,Udp.z,Tcp.z⟩:=by
   unfold alone
   simp [hk,hl]
  rw [ea] at h14 tail
  simp only [Arp.z,Ip4.z,Ip6.z,Ip.z,Frag.z,Icmp.z,Udp.z,Tcp.z] at h14
  simp only [ZZ,k1,k2,k3,k4,decide_false,hk1,hk2,hk3,hl1,hl2,hl3,h14,a57,Int.ofNat_eq_natCast]
  exact tail _ rfl
 ·
  have hk1:(p.kind == 1)=false:=by simp; omega
  have hk2:(p.kind == 2)=true:=by simpa using hk
  have hk3:(p.kind == 3)=false:=by simp; omega
  have hl1:(p.l4 == 1)=false:=by simp; omega
  have hl2:(p.l4 == 2)=true:=by simpa using hl
  have hl3:(p.l4 == 3)=false:=by simp; omega
  have ea:alone p=⟨p.dst,p.src,p.tags,p.kind,Arp.z,p.ip4,Ip6.z,p.l4,Icmp.z,p.udp,Tcp.z⟩:=by
   unfold alone
   simp [hk,hl]
  rw [ea] at h14 tail
  simp only [Arp.z,Ip4.z,Ip6.z,Ip.z,Frag.z,Icmp.z,Udp.z,Tcp.z] at h14
  simp only [ZZ,k1,k2,k3,k4,decide_false,hk1,hk2,hk3,hl1,hl2,hl3,h14,a57,Int.ofNat_eq_natCast]
  exact tail _ rfl
 ·
  have hk1:(p.kind == 1)=false:=by simp; omega
  have hk2:(p.kind == 2)=true:=by simpa using hk
  have hk3:(p.kind == 3)=false:=by simp; omega
  have hl1:(p.l4 == 1)=false:=by simp; omega
  have hl2:(p.l4 == 2)=false:=by simp; omega
  have hl3:(p.l4 == 3)=true:=by simpa using hl
  have ea:alone p=⟨p.dst,p.src,p.tags,p.kind,Arp.z,p.ip4,Ip6.z,p.l4,Icmp.z,Udp.z,p.tcp⟩:=by
   unfold alone
   simp [hk,hl]
  rw [ea] at h14 tail
  simp only [Arp.z,Ip4.z,Ip6.z,Ip.z,Frag.z,Icmp.z,Udp.z,Tcp.z] at h14
  simp only [ZZ,k1,k2,k3,k4,decide_false,hk1,hk2,hk3,hl1,hl2,hl3,h14,a57,Int.ofNat_eq_natCast]
  exact tail _ rfl
 ·
  have hk1:(p.kind == 1)=false:=by simp; omega
  have hk2:(p.kind == 2)=false:=by simp; omega
  have hk3:(p.kind == 3)=true:=by simpa using hk
  have hl1:(p.l4 == 1)=false:=by simp; omega
  have hl2:(p.l4 == 2)=false:=by simp; omega
  have hl3:(p.l4 == 3)=false:=by simp; omega
  have ea:alone p=⟨p.dst,p.src,p.tags,p.kind,Arp.z,Ip4.z,p.ip6,p.l4,Icmp.z,Udp.z,Tcp.z⟩:=by
   unfold alone
   simp [hk,hl]
  rw [ea] at h14 tail
  simp only [Arp.z,Ip4.z,Ip6.z,Ip.z,Frag.z,Icmp.z,Udp.z,Tcp.z] at h14
  simp only [ZZ,k1,k2,k3,k4,decide_false,hk1,hk2,hk3,hl1,hl2,hl3,h14,a57,Int.ofNat_eq_natCast]
  exact tail _ rfl
 ·
  have hk1:(p.kind == 1)=false:=by simp; omega
  have hk2:(p.kind == 2)=false:=by simp; omega
  have hk3:(p.kind == 3)=true:=by simpa using hk
  have hl1:(p.l4 == 1)=true:=by simpa using hl
  have hl2:(p.l4 == 2)=false:=by simp; omega
  have hl3:(p.l4 == 3)=false:=by simp; omega
  have ea:alone p=⟨p.dst,p.src,p.tags,p.kind,Arp.z,Ip4.z,p.ip6,p.l4,p.icmp,Udp.z,Tcp.z⟩:=by
   unfold alone
   simp [hk,hl]
  rw [ea] at h14 tail
  simp only [Arp.z,Ip4.z,Ip6.z,Ip.z,Frag.z,Icmp.z,Udp.z,Tcp.z] at h14
  simp only [ZZ,k1,k2,k3,k4,decide_false,hk1,hk2,hk3,hl1,hl2,hl3,h14,a57,Int.ofNat_eq_natCast]
  exact tail _ rfl
 ·
  have hk1:(p.kind == 1)=false:=by simp; omega
  have hk2:(p.kind == 2)=false:=by simp; omega
  have hk3:(p.kind == 3)=true:=by simpa using hk
  have hl1:(p.l4 == 1)=false:=by simp; omega
  have hl2:(p.l4 == 2)=true:=by simpa using hl
  have hl3:(p.l4 == 3)=false:=by simp; omega
  have ea:alone p=⟨p.dst,p.src,p.tags,p.kind,Arp.z,Ip4.z,p.ip6,p.l4,Icmp.z,p.udp,Tcp.z⟩:=by
   unfold alone
   simp [hk,hl]
  rw [ea] at h14 tail
  simp only [Arp.z,Ip4.z,Ip6.z,Ip.z,Frag.z,Icmp.z,Udp.z,Tcp.z] at h14
  simp only [ZZ,k1,k2,k3,k4,decide_false,hk1,hk2,hk3,hl1,hl2,hl3,h14,a57,Int.ofNat_eq_natCast]
  exact tail _ rfl
 ·
  have hk1:(p.kind == 1)=false:=by simp; omega
  have hk2:(p.kind == 2)=false:=by simp; omega
  have hk3:(p.kind == 3)=true:=by simpa using hk
  have hl1:(p.l4 == 1)=false:=by simp; omega
  have hl2:(p.l4 == 2)=false:=by simp; omega
  have hl3:(p.l4 == 3)=true:=by simpa using hl
  have ea:alone p=⟨p.dst,p.src,p.tags,p.kind,Arp.z,Ip4.z,p.ip6,p.l4,Icmp.z,Udp.z,p.tcp⟩:=by
   unfold alone
   simp [hk,hl]
  rw [ea] at h14 tail
  simp only [Arp.z,Ip4.z,Ip6.z,Ip.z,Frag.z,Icmp.z,Udp.z,Tcp.z] at h14
  simp only [ZZ,k1,k2,k3,k4,decide_false,hk1,hk2,hk3,hl1,hl2,hl3,h14,a57,Int.ofNat_eq_natCast]
  exact tail _ rfl
theorem icmpPut_le (src dst:Ip) (m:Icmp) (h:m.data.length≤2 ^ 20):(icmpPut src dst m).1.length≤65535:=by
 unfold icmpPut
 split
 ·simp
 ·rename_i hx
  have:=icmpCheck_ok (Decidable.not_not.1 hx)
  split
  ·simp
  ·show (icmpB src dst m).length≤_
   rw [icmpB_eq]; simp; omega
theorem udpPut_le (src dst:Ip) (u:Udp):(udpPut src dst u).1.length≤65535:=by
 unfold udpPut
 split
 ·simp
 ·split
  ·simp
  ·rename_i hx
   have:=udpCheck_ok (Decidable.not_not.1 hx)
   show (udpB src dst u).length≤_
   rw [udpB_eq]
   split <;>(rw [udpW_len]; omega)
theorem tcpPut_le (src dst:Ip) (t:Tcp):(tcpPut src dst t).1.length≤65535:=by
 unfold tcpPut
 split
 ·simp
 ·split
  ·simp
  ·rename_i hx
   have:=tcpCheck_ok (Decidable.not_not.1 hx)
   show (tcpB src dst t).length≤_
   rw [tcpB_len]; omega
theorem icmpPut_bytes {src dst:Ip} {m:Icmp} (h:Bytes m.data):Bytes (icmpPut src dst m).1:=by
 unfold icmpPut
 split
 ·exact bytes_nil
 ·split
  ·exact bytes_nil
  ·show Bytes (icmpB src dst m)
   unfold icmpB
   exact (bytes_set2 (icmpHead_ok m).1 2 _).app h
theorem udpPut_bytes {src dst:Ip} {u:Udp} (h:Bytes u.data):Bytes (udpPut src dst u).1:=by
 unfold udpPut
 split
 ·exact bytes_nil
 ·split
  ·exact bytes_nil
  ·show Bytes (udpB src dst u)
   rw [udpB_eq]
   split
   ·exact udpW_ok u h (by decide) (by decide)
   ·exact udpW_ok u h (by omega) (by omega)
theorem tcpPut_bytes {src dst:Ip} {t:Tcp} (h:Bytes t.data) (ho:∀ o∈t.opts,Bytes o.data):Bytes (tcpPut src dst t).1:=by
 unfold tcpPut
 split
 ·exact bytes_nil
 ·split
  ·exact bytes_nil
  ·exact bytes_set2 (tcpRaw_ok h ho) 16 _
theorem dataOf_le {p:Pkt} (h:p.Sm):(dataOf p).length≤2 ^ 20:=by unfold dataOf; split; exact h.d4l; exact h.d6l
theorem dataOf_bytes {p:Pkt} (h:p.Sm):Bytes (dataOf p):=by unfold dataOf; split; exact h.ok.b4; exact h.ok.b6
theorem above_le {p:Pkt} (h:p.Sm):(above p).1.length≤2 ^ 20:=by
 unfold above
 split
 ·have:=icmpPut_le (endsOf p).src (endsOf p).dst p.icmp h.dil; omega
 ·split
  ·have:=udpPut_le (endsOf p).src (endsOf p).dst p.udp; omega
  ·split
   ·have:=tcpPut_le (endsOf p).src (endsOf p).dst p.tcp; omega
   ·exact dataOf_le h
theorem above_by {p:Pkt} (h:p.Sm):Bytes (above p).1:=by
 unfold above
 split
 ·exact icmpPut_bytes h.ok.bi
 ·split
  ·exact udpPut_bytes h.ok.bu
  ·split
   ·exact tcpPut_bytes h.ok.bt h.ok.ot
   ·exact dataOf_bytes h
theorem a107 (n:Nat) (hn:2 ^ 63<n) (p:Pkt) (h:p.Sm):A107 n [p.av]=some [.int .i64 (checkIP p)]:=by
 show run107 A155 A156 n p.av=_
 rw [eq107]
 unfold checkIP
 have h155:=a155 n hn p.ip4 h.ok.s4 h.ok.d4 (by have:=h.o4l; omega) (fun o ho=>by have:=h.o4d o ho; omega) (by have:=h.d4l; omega)
 have h156:=a156 n hn p.ip6 h.i6
 by_cases hk:p.kind=2
 ·simp [ZY,hk,h155]
 ·simp [ZY,hk,h156]
theorem a108 (n:Nat) (hn:2 ^ 63<n) (p:Pkt) (h:p.Sm):A108 n [p.av]=some [.int .i64 (checkAbove p)]:=by
 show run108 A55 A135 A138 A140 n p.av=_
 rw [eq108]
 unfold checkAbove
 have h135:=a135 n p.icmp (by have:=h.dil; omega)
 have h140:=a140 n hn p.tcp (by have:=h.otl; omega) (fun o ho=>by have:=h.otd o ho; omega) (by have:=h.dtl; omega)
 by_cases h1:p.l4=1
 ·simp [ZY,h1,h135]
 by_cases h2:p.l4=2
 ·simp [ZY,h1,h2,a55,a138]
 by_cases h3:p.l4=3
 ·simp [ZY,h1,h2,h3,h140]
 ·simp [ZY,h1,h2,h3]
theorem a53 (n:Nat) (hn:2 ^ 63<n) (p:Pkt) (h:p.Sm):A53 n [p.av]=some [.fs .u8 (above p).1,.int .i64 (above p).2]:=by
 show run53 A55 A56 A91 A92 A93 n p.av=_
 rw [eq53]
 unfold above
 have he:=ends_ok h.ok
 have h91:=a91 n hn (endsOf p).src (endsOf p).dst he.1 he.2 p.icmp h.ok.bi (by have:=h.dil; omega)
 have h92:=a92 n hn (endsOf p).src (endsOf p).dst he.1 he.2 p.udp h.ok.bu (by have:=h.dul; omega)
 have h93:=a93 n hn (endsOf p).src (endsOf p).dst he.1 he.2 p.tcp h.ok.bt h.ok.ot (by have:=h.otl; omega) (fun o ho=>by have:=h.otd o ho; omega) (by have:=h.dtl; omega)
 by_cases h1:p.l4=1
 ·simp [ZY,h1,a55,h91]
 by_cases h2:p.l4=2
 ·simp [ZY,h1,h2,a55,h92]
 by_cases h3:p.l4=3
 ·simp [ZY,h1,h2,h3,a55,h93]
 ·simp [ZY,h1,h2,h3,a55,a56]
theorem a65 (n:Nat) (hn:2 ^ 63<n) (p:Pkt) (h:p.Sm):A65 n [p.av]=some [.fs .u8 (inner p).1,.int .i64 (inner p).2]:=by
 show run65 A53 A54 A106 A107 A108 A109 A110 n p.av=_
 rw [eq65]
 unfold inner
 have h106:=a106 n hn p.arp h.ok.smac h.ok.tmac.1 h.ok.sip h.ok.tip
 have h107:=a107 n hn p h
 have h108:=a108 n hn p h
 have h53:=a53 n hn p h
 have h54:=a54 n p (above p).1
 have hal:=above_le h
 have hab:=above_by h
 have hkw:(with_ p (above p).1).kind=p.kind:=kind_with p _
 by_cases h1:p.kind=1
 ·simp [ZY,h1,h106]
 by_cases h2:checkIP p=0
 ·by_cases h3:checkAbove p=0
  ·by_cases h4:(above p).2=0
   ·by_cases hk:p.kind=2
    ·have e4:(with_ p (above p).1).ip4={ p.ip4 with data:=(above p).1 }:=by unfold with_; rw [if_pos hk]
     have h109:=a109 n hn (with_ p (above p).1).ip4 (by rw [e4]; exact h.ok.s4) (by rw [e4]; exact h.ok.d4) (by rw [e4]; exact h.ok.o4) (by rw [e4]; have:=h.o4l; show p.ip4.opts.length<_; omega) (by rw [e4]; exact fun o ho=>by have:=h.o4d o ho; omega) (by rw [e4]; show (above p).1.length<_; omega)
     have hkb:(p.kind == 1)=false:=by simpa using h1
     have h2b:(checkIP p != 0)=false:=by simpa using h2
     have h3b:(checkAbove p != 0)=false:=by simpa using h3
     have h4b:((above p).2 != 0)=false:=by simpa using h4
     have hkw' : ((with_ p (above p).1).kind == 2)=true:=by rw [hkw]; simpa using hk
     rw [if_neg h1,if_neg (by simpa using h2),if_neg (by simpa using h3),if_neg (by simpa using h4),if_pos hk]
     simp only [ZZ,hkb,h107,h2b,h108,h3b,h53,h4b,h54,hkw',h109]
    ·have e4:(with_ p (above p).1).ip6={ p.ip6 with data:=(above p).1 }:=by unfold with_; rw [if_neg hk]
     have h110:=a110 n hn (with_ p (above p).1).ip6 (by rw [e4]; exact ⟨h.ok.s6,h.ok.d6,h.x6s,h.x6l,h.ok.x6,hal,hab⟩)
     have hkb:(p.kind == 1)=false:=by simpa using h1
     have h2b:(checkIP p != 0)=false:=by simpa using h2
     have h3b:(checkAbove p != 0)=false:=by simpa using h3
     have h4b:((above p).2 != 0)=false:=by simpa using h4
     have hkw' : ((with_ p (above p).1).kind == 2)=false:=by rw [hkw]; simpa using hk
     rw [if_neg h1,if_neg (by simpa using h2),if_neg (by simpa using h3),if_neg (by simpa using h4),if_neg hk]
     simp only [ZZ,hkb,h107,h2b,h108,h3b,h53,h4b,h54,hkw',h110]
   ·simp [ZY,h1,h107,h2,h108,h3,h53,h4]
  ·simp [ZY,h1,h107,h2,h108,h3]
 ·simp [ZY,h1,h107,h2]
theorem inner_le {p:Pkt} (h:p.Sm):(inner p).1.length≤65535:=by
 unfold inner
 split
 ·unfold arpPut
  split
  ·simp
  ·split
   ·simp
   ·have:=h.ok.smac.1; have:=h.ok.tmac.1; have:=h.ok.sip.1; have:=h.ok.tip.1
    simp [arpForm,word]; omega
 ·split
  ·simp
  ·split
   ·simp
   ·split
    ·simp
    ·split
     ·rename_i hk
      have e4:(with_ p (above p).1).ip4={ p.ip4 with data:=(above p).1 }:=by unfold with_; rw [if_pos hk]
      rw [e4]
      unfold ip4Put
      split
      ·simp
      ·rename_i hx
       have:=(ip4Check_ok (Decidable.not_not.1 hx)).2.2.1
       have e:=ip4W_len (h:={ p.ip4 with data:=(above p).1 }) h.ok.s4 h.ok.d4
       show (ip4B _).length≤_
       unfold ip4B
       rw [List.length_append,e]
       exact this
     ·rename_i hk
      have e4:(with_ p (above p).1).ip6={ p.ip6 with data:=(above p).1 }:=by unfold with_; rw [if_neg hk]
      rw [e4]
      unfold made6
      split
      ·simp
      ·split
       ·simp
       ·split
        ·simp
        ·split
         ·simp
         ·rename_i hx
          have l1:=h.ok.s6.1
          have l2:=h.ok.d6.1
          show (ip6B _).length≤_
          unfold ip6B
          simp only [List.length_append,mkB_len,l1,l2] at hx ⊢
          omega
theorem a32 (n:Nat) (hn:2 ^ 63<n) (p:Pkt) (h:p.Sm):A32 n [p.av]=some [.fs .u8 (pmade p).1,.int .i64 (pmade p).2]:=by
 show run32 A63 A64 A65 A66 A67 n p.av=_
 rw [eq32]
 unfold pmade
 have htl:=h.tl
 have hil:=inner_le h
 have h63:A63 n [(frameOf p 2048 []).av]=_:=a63 n hn (frameOf p 2048 []) h.ok.src.2 (by show ([]:List Int).length<_; simp) (by show p.tags.length<_; omega)
 have h64:=a64 n hn p h
 have h65:=a65 n hn p h
 have h67:A67 n [(frameOf p (typeOf p.kind) (inner p).1).av]=_:=a67 n hn (frameOf p (typeOf p.kind) (inner p).1) h.ok.src h.ok.dst.1 (by show (inner p).1.length<_; omega) (by show p.tags.length<_; omega)
 simp only [frameOf] at h63 h67
 by_cases c1:linkCheck (frameOf p 2048 [])=0
 ·have c1' : (linkCheck (frameOf p 2048 []) != 0)=false:=by simpa using c1
  by_cases c2:mixed p
  ·rw [if_neg (by simpa using c1),if_pos c2]
   simp only [frameOf] at c1'
   simp only [ZZ,h63,c1',h64,c2,decide_true]
  ·by_cases c3:(inner p).2=0
   ·have c3' : ((inner p).2 != 0)=false:=by simpa using c3
    rw [if_neg (by simpa using c1),if_neg c2,if_neg (by simpa using c3)]
    simp only [frameOf] at c1'
    simp only [ZZ,h63,c1',h64,c2,decide_false,h65,c3',a66,h67,frameOf]
   ·have c3' : ((inner p).2 != 0)=true:=by simpa using c3
    rw [if_neg (by simpa using c1),if_neg c2,if_pos c3]
    simp only [frameOf] at c1'
    simp only [ZZ,h63,c1',h64,c2,decide_false,h65,c3']
 ·have c1' : (linkCheck (frameOf p 2048 []) != 0)=true:=by simpa using c1
  rw [if_pos c1]
  simp only [frameOf] at c1'
  simp only [ZZ,h63,c1',frameOf]
theorem a22 (n:Nat) (hn:2 ^ 63<n) (p:Pkt) (h:p.Sm):A22 n [p.av]=some [.int .i64 (pmade p).2]:=by
 show run22 A32 n p.av=_
 rw [eq22]
 simp only [ZZ,a32 n hn p h]
end Go.Proofs.YtlmnjnhmhacgkaaDoor.Am
end
