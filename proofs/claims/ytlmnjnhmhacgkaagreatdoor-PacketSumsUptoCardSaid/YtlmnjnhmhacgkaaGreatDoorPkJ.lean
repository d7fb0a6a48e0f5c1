/-
  Right sums: plainly, and what the law on sums computes.
-/
import Derived.Test.YtlmnjnhmhacgkaaGreatDoorPkF
import Derived.Test.YtlmnjnhmhacgkaaGreatDoorPkI
section
set_option linter.unusedVariables false
set_option linter.unusedSimpArgs false
set_option maxRecDepth 100000
namespace Go.Proofs.YtlmnjnhmhacgkaaGreatDoor.Am
open Go Go.Am Go.Proofs
def addedP (n:Int) (b:List Int) (lo hi:Nat):Int:=fd (n+addS true ((b.drop lo).take (hi - lo)))
def linkAt1 (b:List Int):Nat:=if isTag (two b 12) then 16 else 12
def linkAt (b:List Int):Nat:=if isTag (two b (linkAt1 b)) then linkAt1 b+4 else linkAt1 b
def upP (U:List Int) (p:Pkt) (st:Int):Bool:=
 if p.l4=1 then fd ((if p.kind=2 then 0 else st)+addS true U) == 65535
 else if p.l4=2 then (if (p.udp.nosum || (getI U 6 == 0 && getI U 7 == 0))=true then p.udp.nosum ==(getI U 6 == 0 && getI U 7 == 0) else fd (st+addS true U) == 65535)
 else if p.l4=3 then fd (st+addS true U) == 65535 else true
def oneP (p:Pkt):Nat:=if p.l4≠0 then 1 else 0
def fourP (b:List Int) (p:Pkt) (i:Nat):Bool × Nat:=
 let head:=4 * (getI b i % 16).toNat
 let total:=(two b (i+2)).toNat
 if head<20∨total<head+8 * oneP p∨i+total > b.length∨addedP 0 b i (i+head)≠65535 then (false,0)
 else (upP ((b.drop (i+head)).take (total - head)) p (addedP (getI b (i+9)+((total:Int) - head)) b (i+12) (i+20)),i+total)
def upLen (p:Pkt):Nat:=
 if p.l4=1 then 8+p.icmp.data.length else if p.l4=2 then 8+p.udp.data.length
 else if p.l4=3 then 20+p.tcp.data.length+((flatO p.tcp.opts).length+3) / 4 * 4 else 0
def sixP (b:List Int) (p:Pkt) (i:Nat):Bool × Nat:=
 let total:=40+(two b (i+4)).toNat
 if i+total > b.length∨upLen p > total - 40∨(p.l4≠0∧upLen p<8) then (false,0)
 else (upP ((b.drop (i+total - upLen p)).take (upLen p)) p (addedP (p.ip6.next+upLen p) b (i+8) (i+40)),i+total)
def bodyP (b:List Int) (p:Pkt):Bool × Nat:=
 if p.kind=2 then ((fourP b p (linkAt b+2)).1 && two b (linkAt b) == 2048,(fourP b p (linkAt b+2)).2)
 else if p.kind=3 then ((sixP b p (linkAt b+2)).1 && two b (linkAt b) == 34525,(sixP b p (linkAt b+2)).2)
 else (two b (linkAt b) == 2054,linkAt b+2+28)
def sumsP (b:List Int) (p:Pkt):Bool:=
 decide (60≤b.length) && (bodyP b p).1 && decide ((bodyP b p).2≤b.length) && (decide (b.length≤60) || decide ((bodyP b p).2=b.length)) && (b.drop (bodyP b p).2).all (fun x=>x == 0)
theorem pseudo_add {src dst:Ip} {proto k:Int} (h:(pseudo src dst 0 0).2=0) (hp:0≤proto) (hp2:proto≤255) (hk:0≤k) (hk2:k≤65535) (hs:src.Ok) (hd:dst.Ok) :
  addS true (pseudo src dst proto k).1=proto+k+addS true (if version src=4 then src.a.take 4++dst.a.take 4 else src.a.take 16++dst.a.take 16):=by
 have h0:¬ (version src=0∨version dst≠version src):=by
  intro hx
  unfold pseudo at h
  rw [if_pos hx] at h
  cases h
 have l1:=hs.1
 have l2:=hd.1
 unfold pseudo
 rw [if_neg h0,if_neg (by omega)]
 unfold pseudoB
 split
 ·rw [addS_even _ _ (by simp; omega)]
  simp only [addS]
  omega
 ·rw [addS_even _ _ (by simp; omega)]
  simp only [addS]
  omega
theorem fd_two {a:Int} {P U:List Int} (ha:0≤a) (hP:P.length % 2=0) (hB:Bytes U) (e:addS true P=a) (hs:sum16 (P++U)=65535):fd (fd a+addS true U)=65535:=by
 rw [fd_add ha (addS_r hB true).1]
 unfold sum16 at hs
 rw [addS_even _ _ hP,e] at hs
 exact hs
theorem icmpB_len (src dst:Ip) (m:Icmp):(icmpB src dst m).length=8+m.data.length:=by rw [icmpB_eq]; simp; omega
theorem icmpB_bytes {src dst:Ip} {m:Icmp} (hb:Bytes m.data):Bytes (icmpB src dst m):=by
 unfold icmpB
 exact (bytes_set2 (icmpHead_ok m).1 2 _).app hb
theorem layer_v {p:Pkt} (h:1≤p.kind∧p.kind≤3) (h1:p.kind≠1):(endsOf p).v=if p.kind=2 then 4 else 6:=by
 unfold endsOf
 split <;> rfl
theorem up_ok {p:Pkt} (ok:p.Ok) (hm:(pmade p).2=0) (h0:p.l4≠0) (hv:p.kind=2→version (endsOf p).src=4) (hv6:p.kind=3→version (endsOf p).src=6):(above p).1.length=upLen p∧8≤upLen p∧Bytes (above p).1∧upLen p≤65535∧
  upP (above p).1 p (fd ((endsOf p).proto+(upLen p:Int)+addS true (if p.kind=2 then (endsOf p).src.a.take 4++(endsOf p).dst.a.take 4 else (endsOf p).src.a.take 16++(endsOf p).dst.a.take 16)))=true:=by
 obtain ⟨q1,q2,q3,q4,q5⟩:=pmade_ok hm
 obtain ⟨h1,h2,h3,h4,h5,h6,h7⟩:=mixed_ok q2
 have hk1:p.kind≠1:=fun hk=>h0 (by rw [h6]; unfold layer; rw [if_pos (.inl hk)])
 have ha:=(inner_ok hk1 q3).2.2.1
 have he:=ends_ok ok
 have hlay:p.l4=upper (endsOf p).v (endsOf p).proto:=by
  rw [h6]; unfold layer
  rw [if_neg]
  intro hx
  exact h0 (by rw [h6]; unfold layer; rw [if_pos hx])
 have hev:=layer_v ⟨h1,h2⟩ hk1
 have hbase:(if version (endsOf p).src=4 then (endsOf p).src.a.take 4++(endsOf p).dst.a.take 4 else (endsOf p).src.a.take 16++(endsOf p).dst.a.take 16)=(if p.kind=2 then (endsOf p).src.a.take 4++(endsOf p).dst.a.take 4 else (endsOf p).src.a.take 16++(endsOf p).dst.a.take 16):=by
  by_cases hk:p.kind=2
  ·rw [if_pos (hv hk),if_pos hk]
  ·rw [if_neg (by rw [hv6 (by omega)]; decide),if_neg hk]
 rw [←hbase]
 have hbB:Bytes (if version (endsOf p).src=4 then (endsOf p).src.a.take 4++(endsOf p).dst.a.take 4 else (endsOf p).src.a.take 16++(endsOf p).dst.a.take 16):=by
  split
  ·exact (he.1.2.take _).app (he.2.2.take _)
  ·exact (he.1.2.take _).app (he.2.2.take _)
 have hb0:=(addS_r hbB true).1
 have hbl:(if version (endsOf p).src=4 then (endsOf p).src.a.take 4++(endsOf p).dst.a.take 4 else (endsOf p).src.a.take 16++(endsOf p).dst.a.take 16).length % 2=0:=by
  have:=he.1.1; have:=he.2.1
  split <;> simp <;> omega
 have hpa:=fun (h:(pseudo (endsOf p).src (endsOf p).dst 0 0).2=0) (proto k:Int) (a1:0≤proto) (a2:proto≤255) (a3:0≤k) (a4:k≤65535)=>pseudo_add h a1 a2 a3 a4 he.1 he.2
 generalize hbb:(if version (endsOf p).src=4 then (endsOf p).src.a.take 4++(endsOf p).dst.a.take 4 else (endsOf p).src.a.take 16++(endsOf p).dst.a.take 16)=base at hbB hb0 hbl hpa ⊢
 clear hbb hbase
 unfold upper at hlay
 unfold above at ha ⊢
 unfold upLen upP
 obtain hl | hl | hl:p.l4=1∨p.l4=2∨p.l4=3:=by omega
 ·simp only [if_pos hl] at ha ⊢
  unfold icmpPut at ha ⊢
  split at ha
  ·rename_i hx; exact absurd ha hx
  ·rename_i hx
   rw [if_neg hx]
   have hck:=icmpCheck_ok (Decidable.not_not.1 hx)
   split at ha
   ·rename_i hy; exact absurd ha hy
   ·rename_i hy
    rw [if_neg hy]
    have hB:Bytes (icmpB (endsOf p).src (endsOf p).dst p.icmp):=icmpB_bytes ok.bi
    refine ⟨icmpB_len _ _ _,by omega,hB,by omega,?_⟩
    have hs:=icmp_sum he.1 he.2 p.icmp ok.bi
    have hpv:=(h7 h0).2 hl
    rw [hev] at hpv hlay
    by_cases hk:p.kind=2
    ·rw [if_pos hk] at hpv ⊢
     have e:(pseudoI p.icmp.v (endsOf p).src (endsOf p).dst (8+p.icmp.data.length)).1=[]:=by unfold pseudoI; rw [if_pos hpv]
     rw [e] at hs
     show (fd (0+addS true _) == 65535)=true
     rw [Int.zero_add]
     have:fd (addS true (icmpB (endsOf p).src (endsOf p).dst p.icmp))=65535:=hs
     rw [this]; rfl
    ·rw [if_neg hk] at hpv hlay ⊢
     have hpr:(endsOf p).proto=58:=by
      by_cases a:(endsOf p).proto=6
      ·rw [if_pos a] at hlay; omega
      ·by_cases b:(endsOf p).proto=17
       ·rw [if_neg a,if_pos b] at hlay; omega
       ·rw [if_neg a,if_neg b] at hlay
        split at hlay
        ·omega
        ·omega
     have hy' : (pseudoI p.icmp.v (endsOf p).src (endsOf p).dst (8+p.icmp.data.length)).2=0:=Decidable.not_not.1 hy
     unfold pseudoI at hs hy'
     rw [if_neg (by omega)] at hs hy'
     split at hy'
     ·cases hy'
     ·rename_i hz
      rw [if_neg hz] at hs
      have h00:(pseudo (endsOf p).src (endsOf p).dst 0 0).2=0:=by
       unfold pseudo at hy' ⊢
       split at hy'
       ·cases hy'
       ·rename_i hw; rw [if_neg hw,if_neg (by omega)]
      have e:=hpa h00 58 (8+p.icmp.data.length) (by omega) (by omega) (by omega) (by omega)
      have:=fd_two (a:=58+(8+(p.icmp.data.length:Int))+addS true base) (by omega) (pseudo_even he.1 he.2 _ _) hB e hs
      rw [hpr,show ((8+p.icmp.data.length:Nat):Int)=8+(p.icmp.data.length:Int) by omega,this]
      rfl
 ·simp only [if_neg (show ¬ p.l4=1 by omega),if_pos hl] at ha ⊢
  unfold udpPut at ha ⊢
  split at ha
  ·rename_i hx; exact absurd ha hx
  ·rename_i hx
   rw [if_neg hx]
   split at ha
   ·rename_i hy; exact absurd ha hy
   ·rename_i hy
    rw [if_neg hy]
    have hck:=udpCheck_ok (Decidable.not_not.1 hy)
    have hcr:=udpC_r he.1 he.2 p.udp ok.bu
    have hpr:(endsOf p).proto=17:=by
     by_cases a:(endsOf p).proto=6
     ·rw [if_pos a] at hlay; omega
     ·by_cases b:(endsOf p).proto=17
      ·exact b
      ·rw [if_neg a,if_neg b] at hlay
       split at hlay <;> omega
    rw [udpB_eq]
    cases hns:p.udp.nosum with
    | true=>
     rw [if_pos rfl]
     exact ⟨udpW_len _ _ _,by omega,udpW_ok _ ok.bu (by decide) (by decide),by omega,rfl⟩
    | false=>
     rw [if_neg (by decide)]
     have hB:=udpW_ok p.udp ok.bu (x:=udpC (endsOf p).src (endsOf p).dst p.udp / 256 % 256) (y:=udpC (endsOf p).src (endsOf p).dst p.udp % 256) (by omega) (by omega)
     refine ⟨udpW_len _ _ _,by omega,hB,by omega,?_⟩
     have hs:=udp_sum he.1 he.2 p.udp ok.bu
     have e:=hpa (Decidable.not_not.1 hx) 17 (8+p.udp.data.length) (by omega) (by omega) (by omega) (by omega)
     have:=fd_two (a:=17+(8+(p.udp.data.length:Int))+addS true base) (by omega) (pseudo_even he.1 he.2 _ _) hB e hs
     have g6:getI (udpW p.udp (udpC (endsOf p).src (endsOf p).dst p.udp / 256 % 256) (udpC (endsOf p).src (endsOf p).dst p.udp % 256)) 6=udpC (endsOf p).src (endsOf p).dst p.udp / 256 % 256:=rfl
     have g7:getI (udpW p.udp (udpC (endsOf p).src (endsOf p).dst p.udp / 256 % 256) (udpC (endsOf p).src (endsOf p).dst p.udp % 256)) 7=udpC (endsOf p).src (endsOf p).dst p.udp % 256:=rfl
     have hnone:(udpC (endsOf p).src (endsOf p).dst p.udp / 256 % 256 == 0 && udpC (endsOf p).src (endsOf p).dst p.udp % 256 == 0)=false:=by
      rw [Bool.and_eq_false_iff]
      by_cases hq:udpC (endsOf p).src (endsOf p).dst p.udp / 256 % 256=0
      ·right; simp; omega
      ·left; simpa using hq
     rw [g6,g7,hnone,if_neg (by decide),hpr,show ((8+p.udp.data.length:Nat):Int)=8+(p.udp.data.length:Int) by omega,this]
     rfl
 ·simp only [if_neg (show ¬ p.l4=1 by omega),if_neg (show ¬ p.l4=2 by omega),if_pos hl] at ha ⊢
  unfold tcpPut at ha ⊢
  split at ha
  ·rename_i hx; exact absurd ha hx
  ·rename_i hx
   rw [if_neg hx]
   split at ha
   ·rename_i hy; exact absurd ha hy
   ·rename_i hy
    rw [if_neg hy]
    obtain ⟨c1,c2,c3⟩:=tcpCheck_ok (Decidable.not_not.1 hy)
    obtain ⟨b,g1,g2,g3,g4⟩:=tcpOpts_ok c2
    have hpo:=(puts_ok g1).1
    rw [List.nil_append] at hpo
    have hlen:(tcpB (endsOf p).src (endsOf p).dst p.tcp).length=20+p.tcp.data.length+((flatO p.tcp.opts).length+3) / 4 * 4:=by
     rw [tcpB_len,g2,pad4_len2,hpo]; omega
    have hpr:(endsOf p).proto=6:=by
     by_cases a:(endsOf p).proto=6
     ·exact a
     ·by_cases b:(endsOf p).proto=17
      ·rw [if_neg a,if_pos b] at hlay; omega
      ·rw [if_neg a,if_neg b] at hlay
       split at hlay <;> omega
    have hB:Bytes (tcpB (endsOf p).src (endsOf p).dst p.tcp):=bytes_set2 (tcpRaw_ok ok.bt ok.ot) 16 _
    have hrl:(tcpRaw p.tcp).length=(tcpB (endsOf p).src (endsOf p).dst p.tcp).length:=by rw [tcpB_len,tcpRaw_len]
    have hle:(tcpB (endsOf p).src (endsOf p).dst p.tcp).length≤65535:=by rw [tcpB_len]; omega
    refine ⟨hlen,by omega,hB,by omega,?_⟩
    have hs:=tcp_sum he.1 he.2 ok.bt ok.ot c1
    have e:=hpa (Decidable.not_not.1 hx) 6 (tcpRaw p.tcp).length (by omega) (by omega) (by omega) (by omega)
    have:=fd_two (a:=6+((tcpRaw p.tcp).length:Int)+addS true base) (by omega) (pseudo_even he.1 he.2 _ _) hB e hs
    rw [hrl,hlen] at this
    rw [hpr,this]
    rfl
theorem getI_pre (l m:List Int) (i:Nat):getI (l++m) (l.length+i)=getI m i:=by rw [getI_app,if_neg (by omega),Nat.add_sub_cancel_left]
theorem two_pre (l m:List Int) (i:Nat):two (l++m) (l.length+i)=two m i:=by unfold two; rw [getI_pre,Nat.add_assoc,getI_pre]
theorem drop_pre (l m:List Int) (i:Nat):(l++m).drop (l.length+i)=m.drop i:=by rw [←List.drop_drop,List.drop_left]
theorem two_fld {l:List Int} (h:Bytes l) (i:Nat):two l i=fld l (8 * i) 16:=(fld16 h i).symm
theorem version_four {ip:Ip} (h:four ip):version ip=4:=by
 unfold version
 rw [if_neg (by rw [h.1]; decide),if_neg (by rw [h.1]; decide),if_pos h.2]
theorem not_out {h:Ip4} (c:¬ ip4Out h):four h.src∧four h.dst:=by
 unfold ip4Out at c
 exact ⟨Decidable.byContradiction fun hx=>c (by simp [hx]),Decidable.byContradiction fun hx=>c (by simp [hx])⟩
theorem link_at {f:Frm} (hs:f.src.length=6) (hd:f.dst.length=6) (c:linkCheck f=0) (q:List Int):∃ pre,linkB f++q=pre++(f.data++q)∧pre.length=linkAt (linkB f++q)+2∧two (linkB f++q) (linkAt (linkB f++q))=f.type:=by
 obtain ⟨h1,h2,h3,h4,h5⟩:=linkCheck_ok c
 obtain ⟨dst,src,tags,type,data⟩:=f
 dsimp only at hs hd h1 h2 h3 h4 h5
 obtain ⟨d0,d1,d2,d3,d4,d5,rfl⟩:=six hd
 obtain ⟨s0,s1,s2,s3,s4,s5,rfl⟩:=six hs
 unfold typeOk at h4
 have ht:=word_two (n:=type) (by omega) (by omega)
 refine ⟨[d0,d1,d2,d3,d4,d5]++[s0,s1,s2,s3,s4,s5]++tags.flatMap tagB++word type,by unfold linkB; simp only [List.append_assoc],?_⟩
 match tags,h2 with
 | [],_=>
  generalize hL:linkB ⟨[d0,d1,d2,d3,d4,d5],[s0,s1,s2,s3,s4,s5],[],type,data⟩++q=L
  have t12:two L 12=type:=by rw [←hL]; exact ht
  have e1:linkAt1 L=12:=by unfold linkAt1; rw [t12,if_neg h4.2.2]
  have e2:linkAt L=12:=by unfold linkAt; rw [e1,t12,if_neg h4.2.2]
  rw [e2]
  exact ⟨rfl,t12⟩
 | [t],h2=>
  have htp:0≤t.tpid∧t.tpid≤65535:=by unfold tagsOk isTag at h2; omega
  generalize hL:linkB ⟨[d0,d1,d2,d3,d4,d5],[s0,s1,s2,s3,s4,s5],[t],type,data⟩++q=L
  have t12:two L 12=t.tpid:=by rw [←hL]; exact word_two htp.1 htp.2
  have t16:two L 16=type:=by rw [←hL]; exact ht
  have e1:linkAt1 L=16:=by unfold linkAt1; rw [t12,if_pos (show isTag t.tpid from h2)]
  have e2:linkAt L=16:=by unfold linkAt; rw [e1,t16,if_neg h4.2.2]
  rw [e2]
  exact ⟨rfl,t16⟩
 | [t,u],h2=>
  have htp:0≤t.tpid∧t.tpid≤65535:=by have:=h2.1; unfold isTag at this; omega
  have hup:0≤u.tpid∧u.tpid≤65535:=by have:=h2.2; omega
  generalize hL:linkB ⟨[d0,d1,d2,d3,d4,d5],[s0,s1,s2,s3,s4,s5],[t,u],type,data⟩++q=L
  have t12:two L 12=t.tpid:=by rw [←hL]; exact word_two htp.1 htp.2
  have t16:two L 16=u.tpid:=by rw [←hL]; exact word_two hup.1 hup.2
  have t20:two L 20=type:=by rw [←hL]; exact ht
  have e1:linkAt1 L=16:=by unfold linkAt1; rw [t12,if_pos h2.1]
  have e2:linkAt L=20:=by unfold linkAt; rw [e1,t16,if_pos (.inl h2.2)]
  rw [e2]
  exact ⟨rfl,t20⟩
theorem above_bytes {p:Pkt} (ok:p.Ok) (hm:(pmade p).2=0) (hk:p.kind≠1) (hv:p.kind=2→version (endsOf p).src=4) (hv6:p.kind=3→version (endsOf p).src=6):Bytes (above p).1∧
  (p.l4≠0→(above p).1.length=upLen p∧8≤upLen p)∧(p.l4=0→upLen p=0)∧
  upP (above p).1 p (fd ((endsOf p).proto+((above p).1.length:Int)+addS true (if p.kind=2 then (endsOf p).src.a.take 4++(endsOf p).dst.a.take 4 else (endsOf p).src.a.take 16++(endsOf p).dst.a.take 16)))=true:=by
 by_cases h0:p.l4=0
 ·have e1:above p=(dataOf p,0):=by unfold above; rw [if_neg (by omega),if_neg (by omega),if_neg (by omega)]
  refine ⟨?_,fun h=>absurd h0 h,fun _=>by unfold upLen; rw [if_neg (by omega),if_neg (by omega),if_neg (by omega)],?_⟩
  ·rw [e1]
   show Bytes (dataOf p)
   unfold dataOf
   split
   ·exact ok.b4
   ·exact ok.b6
  ·unfold upP
   rw [if_neg (by omega),if_neg (by omega),if_neg (by omega)]
 ·have h:=up_ok ok hm h0 hv hv6
  exact ⟨h.2.2.1,fun _=>⟨h.1,h.2.1⟩,fun h'=>absurd h' h0,by rw [h.1]; exact h.2.2.2.2⟩
theorem zeros_bytes (k:Nat):Bytes (List.replicate k 0):=fun x hx=>by rw [List.eq_of_mem_replicate hx]; decide
theorem one_le {p:Pkt} {n:Nat} (h:p.l4≠0→8≤n):8 * oneP p≤n:=by
 unfold oneP
 by_cases h0:p.l4=0
 ·rw [if_neg (by omega)]; omega
 ·rw [if_pos h0]; have:=h h0; omega
theorem upP_zero {p:Pkt} (h:p.l4=0) (U:List Int) (st:Int):upP U p st=true:=by
 unfold upP
 rw [if_neg (by omega),if_neg (by omega),if_neg (by omega)]
theorem four_ok {p:Pkt} (ok:p.Ok) (hm:(pmade p).2=0) (hk:p.kind=2) (pre:List Int) (k:Nat):fourP (pre++((inner p).1++List.replicate k 0)) p pre.length=(true,pre.length+(inner p).1.length):=by
 obtain ⟨q1,q2,q3,q4,q5⟩:=pmade_ok hm
 have hko:=inner_ok (by omega) q3
 rw [if_pos hk] at hko
 have hi:=hko.2.2.2
 have e4:(with_ p (above p).1).ip4={ p.ip4 with data:=(above p).1 }:=by unfold with_; rw [if_pos hk]
 rw [e4] at hi
 rw [hi] at q3
 have hc:ip4Check { p.ip4 with data:=(above p).1 }=0:=by
  unfold ip4Put at q3
  split at q3
  ·rename_i hx; exact absurd q3 hx
  ·rename_i hx; exact Decidable.not_not.1 hx
 have hI:(inner p).1=ip4W { p.ip4 with data:=(above p).1 }++(above p).1:=by
  rw [hi]; unfold ip4Put; rw [if_neg (by simpa using hc)]; rfl
 obtain ⟨c1,c2,c3,c4⟩:=ip4Check_ok hc
 have hen:(endsOf p).src=p.ip4.src∧(endsOf p).dst=p.ip4.dst∧(endsOf p).proto=p.ip4.proto:=by unfold endsOf; rw [if_pos hk]; exact ⟨rfl,rfl,rfl⟩
 have hf:=not_out c1
 have hab:=above_bytes ok hm (by omega) (fun _=>by rw [hen.1]; exact version_four hf.1) (fun h=>absurd h (by omega))
 rw [if_pos hk,hen.1,hen.2.1,hen.2.2] at hab
 obtain ⟨b1,b2,b3,b4⟩:=hab
 have hs:(({ p.ip4 with data:=(above p).1 }:Ip4)).src.Ok:=ok.s4
 have hd:(({ p.ip4 with data:=(above p).1 }:Ip4)).dst.Ok:=ok.d4
 have ho:∀ o∈(({ p.ip4 with data:=(above p).1 }:Ip4)).opts,Bytes o.data:=ok.o4
 rw [hI,List.append_assoc]
 have hwl:=ip4W_len hs hd
 have hwb:=ip4W_bytes hs hd ho
 have hsum:=ip4_sum hs hd ho c1 c3
 have hfl:=ip4W_fld hs hd c1 c3 ((above p).1++List.replicate k 0)
 have hB:Bytes (ip4W { p.ip4 with data:=(above p).1 }++((above p).1++List.replicate k 0)):=hwb.app (b1.app (zeros_bytes k))
 have hraw:((ip4W { p.ip4 with data:=(above p).1 }).drop 12).take 8=p.ip4.src.a.take 4++p.ip4.dst.a.take 4:=by
  have l1:=ok.s4.1
  have l2:=ok.d4.1
  unfold ip4W
  rw [List.drop_set_of_lt (by omega),List.drop_set_of_lt (by omega)]
  unfold ip4Raw
  rw [List.append_assoc,List.append_assoc,List.drop_left' (mkB_len _ _),←List.append_assoc,List.take_left' (by simp; omega)]
 generalize hW:ip4W { p.ip4 with data:=(above p).1 }=W at *
 have hol:=ip4Opts_le p.ip4.opts
 have hom:(ip4Opts p.ip4.opts).1.length % 4=0:=by
  obtain ⟨b,g1,g2,g3,g4⟩:=ip4Opts_ok c2
  have g2' : (ip4Opts p.ip4.opts).1=pad4 b:=g2
  rw [g2']; exact g4
 change W.length=20+(ip4Opts p.ip4.opts).1.length at hwl
 change 20+(ip4Opts p.ip4.opts).1.length+(above p).1.length≤65535 at c3
 obtain ⟨f0,f1,f2,f3,f4,f5,f6,f7,f8,f9,_⟩:=hfl
 change fld (W++((above p).1++List.replicate k 0)) 4 4=(20+((ip4Opts p.ip4.opts).1.length:Int)) / 4 at f1
 change fld (W++((above p).1++List.replicate k 0)) 16 16=20+((ip4Opts p.ip4.opts).1.length:Int)+((above p).1.length:Int) at f3
 change fld (W++((above p).1++List.replicate k 0)) 72 8=p.ip4.proto at f9
 have g0:getI (W++((above p).1++List.replicate k 0)) 0 % 16=(20+((ip4Opts p.ip4.opts).1.length:Int)) / 4:=by
  rw [←fld8 hB 0,show (8:Nat)=4+4 from rfl,fld_add,show (4+4) * 0=0 from rfl,f0,Nat.zero_add,f1]
  omega
 have g2:two (W++((above p).1++List.replicate k 0)) 2=20+((ip4Opts p.ip4.opts).1.length:Int)+((above p).1.length:Int):=by rw [two_fld hB]; exact f3
 have g9:getI (W++((above p).1++List.replicate k 0)) 9=p.ip4.proto:=by rw [←fld8 hB 9]; exact f9
 have hh:4 * (getI (pre++(W++((above p).1++List.replicate k 0))) pre.length % 16).toNat=W.length:=by
  have:getI (pre++(W++((above p).1++List.replicate k 0))) pre.length=getI (W++((above p).1++List.replicate k 0)) 0:=getI_pre pre _ 0
  rw [this,g0]; omega
 have ht:(two (pre++(W++((above p).1++List.replicate k 0))) (pre.length+2)).toNat=W.length+(above p).1.length:=by
  rw [two_pre,g2]; omega
 have e9:getI (pre++(W++((above p).1++List.replicate k 0))) (pre.length+9)=p.ip4.proto:=by rw [getI_pre,g9]
 have hL:(pre++(W++((above p).1++List.replicate k 0))).length=pre.length+(W.length+((above p).1.length+k)):=by simp
 have a1:addedP 0 (pre++(W++((above p).1++List.replicate k 0))) pre.length (pre.length+W.length)=65535:=by
  unfold addedP
  rw [List.drop_left,Nat.add_sub_cancel_left,List.take_left,Int.zero_add]
  exact hsum
 have a2:((pre++(W++((above p).1++List.replicate k 0))).drop (pre.length+12)).take (pre.length+20 - (pre.length+12))=p.ip4.src.a.take 4++p.ip4.dst.a.take 4:=by
  rw [drop_pre,show pre.length+20 - (pre.length+12)=8 by omega,List.drop_append_of_le_length (by omega),List.take_append_of_le_length (by rw [List.length_drop]; omega)]
  exact hraw
 have a3:((pre++(W++((above p).1++List.replicate k 0))).drop (pre.length+W.length)).take (W.length+(above p).1.length - W.length)=(above p).1:=by
  rw [drop_pre,List.drop_left,Nat.add_sub_cancel_left,List.take_left]
 have h1:=one_le (p:=p) (n:=(above p).1.length) (fun h=>by have:=b2 h; omega)
 unfold fourP
 simp only [hh,ht,e9,hL,a1]
 rw [if_neg (by
  intro hx
  rcases hx with hx | hx | hx | hx
  ·omega
  ·omega
  ·omega
  ·exact hx rfl),a3]
 unfold addedP
 rw [a2,show p.ip4.proto+(((W.length+(above p).1.length:Nat):Int) - (W.length:Int))=p.ip4.proto+((above p).1.length:Int) by omega,b4,List.length_append]
theorem six_ok {p:Pkt} (ok:p.Ok) (hm:(pmade p).2=0) (hk:p.kind=3) (pre:List Int) (k:Nat):sixP (pre++((inner p).1++List.replicate k 0)) p pre.length=(true,pre.length+(inner p).1.length):=by
 obtain ⟨q1,q2,q3,q4,q5⟩:=pmade_ok hm
 have hko:=inner_ok (by omega) q3
 rw [if_neg (by omega)] at hko
 have hi:=hko.2.2.2
 have e4:(with_ p (above p).1).ip6={ p.ip6 with data:=(above p).1 }:=by unfold with_; rw [if_neg (by omega)]
 rw [e4] at hi
 rw [hi] at q3
 obtain ⟨c1,c2,c3,c4,c5⟩:=made6_ok q3
 have hI:(inner p).1=ip6B { p.ip6 with data:=(above p).1 }:=by rw [hi]; exact c5
 have hz:=sized6_ok c1
 have hen:(endsOf p).src=p.ip6.src∧(endsOf p).dst=p.ip6.dst∧(endsOf p).proto=p.ip6.next:=by unfold endsOf; rw [if_neg (by omega)]; exact ⟨rfl,rfl,rfl⟩
 have hab:=above_bytes ok hm (by omega) (fun h=>absurd h (by omega)) (fun _=>by rw [hen.1]; unfold version; exact if_pos hz.1)
 rw [if_neg (by omega),hen.1,hen.2.1,hen.2.2] at hab
 obtain ⟨b1,b2,b3,b4⟩:=hab
 obtain ⟨f0,f1,f2,f3,f4,f5⟩:=ip6B_fld q3 (List.replicate k 0)
 rw [hI]
 have l1:=ok.s6.1
 have l2:=ok.d6.1
 have hH:(mkB 8 (allB (ip6Ps { p.ip6 with data:=(above p).1 }))).length=8:=mkB_len _ _
 generalize hX:(exts6 { p.ip6 with data:=(above p).1 }).1++fragB { p.ip6 with data:=(above p).1 }=X at *
 have hBe:ip6B { p.ip6 with data:=(above p).1 }=mkB 8 (allB (ip6Ps { p.ip6 with data:=(above p).1 }))++(p.ip6.src.a++(p.ip6.dst.a++(X++(above p).1))):=by
  unfold ip6B; rw [hX]
 generalize hb:ip6B { p.ip6 with data:=(above p).1 }=B at *
 have hlen:B.length=40+X.length+(above p).1.length:=by rw [hBe]; simp only [List.length_append,hH,l1,l2]; omega
 have h45:∀ i,i<8→0≤getI (B++List.replicate k 0) i∧getI (B++List.replicate k 0) i≤255:=fun i hi=>by
  rw [hBe,List.append_assoc,getI_app,if_pos (by omega)]
  exact (mkB_bytes (allB_01 _) 8).get i
 have hB8:Bytes ((B++List.replicate k 0).take 8):=by
  rw [hBe,List.append_assoc,List.take_left' hH]
  exact mkB_bytes (allB_01 _) 8
 have g4:two (B++List.replicate k 0) 4=(X.length:Int)+((above p).1.length:Int):=by
  have:two (B++List.replicate k 0) 4=two ((B++List.replicate k 0).take 8) 4:=by unfold two; rw [getI_take (by omega),getI_take (by omega)]
  rw [this,two_fld hB8,fld_take (by omega)]
  exact f3
 have ht:40+(two (pre++(B++List.replicate k 0)) (pre.length+4)).toNat=B.length:=by rw [two_pre,g4,hlen]; omega
 have hL:(pre++(B++List.replicate k 0)).length=pre.length+(B.length+k):=by simp
 have a2:((pre++(B++List.replicate k 0)).drop (pre.length+8)).take (pre.length+40 - (pre.length+8))=p.ip6.src.a.take 16++p.ip6.dst.a.take 16:=by
  have e:B++List.replicate k 0=mkB 8 (allB (ip6Ps { p.ip6 with data:=(above p).1 }))++((p.ip6.src.a++p.ip6.dst.a)++(X++((above p).1++List.replicate k 0))):=by rw [hBe]; simp only [List.append_assoc]
  rw [drop_pre,show pre.length+40 - (pre.length+8)=32 by omega,e,List.drop_left' hH,List.take_left' (by rw [List.length_append]; omega),List.take_of_length_le (by omega),List.take_of_length_le (by omega)]
 have hup:upLen p≤(above p).1.length:=by
  by_cases h0:p.l4=0
  ·rw [b3 h0]; omega
  ·rw [(b2 h0).1]; omega
 unfold sixP
 simp only [ht,hL]
 rw [if_neg (by
  intro hx
  rcases hx with hx | hx | hx
  ·omega
  ·omega
  ·have:=(b2 hx.1).2; omega)]
 by_cases h0:p.l4=0
 ·rw [upP_zero h0]
 ·have hul:=(b2 h0).1
  have a3:((pre++(B++List.replicate k 0)).drop (pre.length+B.length - upLen p)).take (upLen p)=(above p).1:=by
   rw [show pre.length+B.length - upLen p=pre.length+(B.length - upLen p) by omega,drop_pre,show B.length - upLen p=40+X.length by omega]
   have e:B++List.replicate k 0=(mkB 8 (allB (ip6Ps { p.ip6 with data:=(above p).1 }))++(p.ip6.src.a++(p.ip6.dst.a++X)))++((above p).1++List.replicate k 0):=by rw [hBe]; simp only [List.append_assoc]
   rw [e,List.drop_left' (by simp only [List.length_append,hH,l1,l2]; omega),List.take_left' hul]
  rw [a3]
  unfold addedP
  rw [a2,←hul,b4]
theorem arp_len {a:Arp} (hs:a.smac.length=6) (ht:a.tmac.length=6) (h1:a.sip.Ok) (h2:a.tip.Ok) (c:(arpPut a).2=0):(arpPut a).1.length=28:=by
 unfold arpPut at c ⊢
 split at c
 ·rename_i hx; exact absurd c hx
 ·rename_i hx
  rw [if_neg hx]
  split at c
  ·cases c
  ·rename_i hy
   rw [if_neg hy]
   have:=h1.1; have:=h2.1
   simp only [List.length_append,hs,ht,List.length_take,arpForm,word,List.length_cons,List.length_nil]
   omega
theorem sums_ok {p:Pkt} (ok:p.Ok) (h:(pser p).2=0):sumsP (pser p).1 p=true:=by
 unfold pser at h ⊢
 by_cases hm:(pmade p).2=0
 ·rw [if_neg (by simpa using hm)]
  obtain ⟨q1,q2,q3,q4,q5⟩:=pmade_ok hm
  obtain ⟨h1,h2,h3,h4,h5,h6,h7⟩:=mixed_ok q2
  show sumsP (padF (pmade p).1) p=true
  unfold padF
  rw [q5]
  obtain ⟨pre,e1,e2,e3⟩:=link_at (f:=frameOf p (typeOf p.kind) (inner p).1) ok.src.1 ok.dst.1 q4 (List.replicate (60 - (linkB (frameOf p (typeOf p.kind) (inner p).1)).length) (0:Int))
  have hl:(linkB (frameOf p (typeOf p.kind) (inner p).1)++List.replicate (60 - (linkB (frameOf p (typeOf p.kind) (inner p).1)).length) (0:Int)).length=(linkB (frameOf p (typeOf p.kind) (inner p).1)).length+(60 - (linkB (frameOf p (typeOf p.kind) (inner p).1)).length):=by rw [List.length_append,List.length_replicate]
  generalize hk:60 - (linkB (frameOf p (typeOf p.kind) (inner p).1)).length=k at *
  have hlk:(linkB (frameOf p (typeOf p.kind) (inner p).1)).length=pre.length+(inner p).1.length:=by
   have:=congrArg List.length e1
   simp only [List.length_append,List.length_replicate] at this
   change _=pre.length+((inner p).1.length+k) at this
   omega
  generalize hb:linkB (frameOf p (typeOf p.kind) (inner p).1)++List.replicate k (0:Int)=b at *
  change b=pre++((inner p).1++List.replicate k 0) at e1
  change two b (linkAt b)=typeOf p.kind at e3
  have hbody:bodyP b p=(true,pre.length+(inner p).1.length):=by
   unfold bodyP
   rw [←e2,e3]
   obtain hk' | hk' | hk' : p.kind=1∨p.kind=2∨p.kind=3:=by omega
   ·have hi:inner p=arpPut p.arp:=by unfold inner; rw [if_pos hk']
    rw [hi] at q3
    rw [if_neg (by omega),if_neg (by omega),hi,arp_len ok.smac.1 ok.tmac.1 ok.sip ok.tip q3,hk']
    rfl
   ·have:=four_ok ok hm hk' pre k
    rw [←e1] at this
    rw [if_pos hk',this,hk']
    rfl
   ·have:=six_ok ok hm hk' pre k
    rw [←e1] at this
    rw [if_neg (by omega),if_pos hk',this,hk']
    rfl
  unfold sumsP
  rw [hbody]
  dsimp only
  have hdrop:b.drop (pre.length+(inner p).1.length)=List.replicate k 0:=by
   rw [e1,drop_pre,List.drop_left]
  rw [hdrop,hl]
  simp only [Bool.and_eq_true,Bool.or_eq_true,decide_eq_true_eq,List.all_eq_true,beq_iff_eq]
  refine ⟨⟨⟨⟨by omega,trivial⟩,by omega⟩,by omega⟩,fun x hx=>List.eq_of_mem_replicate hx⟩
 ·rw [if_pos (by simpa using hm)] at h
  exact absurd h hm
theorem a46 (n:Nat) (p:Pkt):A46 n [p.av]=some [.int .i64 (oneP p:Nat)]:=by
 show run46 n p.av=_
 rw [eq46]
 unfold oneP
 by_cases h:p.l4=0
 ·simp [ZY,h]
 ·simp [ZY,h]
theorem hi_len (l:List Int):∀ h,hi h l=(h ==(l.length % 2 == 0)):=by
 induction l with
 | nil=>intro h; cases h <;> rfl
 | cons b l ih=>
  intro h
  show hi (!h) l=_
  rw [ih,List.length_cons]
  rcases Nat.mod_two_eq_zero_or_one l.length with e | e
  ·have e2:(l.length+1) % 2=1:=by omega
   rw [e,e2]; cases h <;> rfl
  ·have e2:(l.length+1) % 2=0:=by omega
   rw [e,e2]; cases h <;> rfl
theorem fold16 (n:Nat) (x:Int) (h1:0≤x) (h2:x<2 ^ 62) (hn:2 ^ 63<n) {R:Type} {K:List AV→Option R} {r:Option R} (hK:K [.int .i64 (fd x)]=r) :
  jn (iter (fun d4 k5=>
  brO (decide ((AV.toInt (getE d4 0)) > 65535))
   ((k5 [(.int .i64 (IntKind.wrap .i64 ((IntKind.wrap .i64 (Int.tdiv (AV.toInt (getE d4 0)) 65536))+(Int.tmod (AV.toInt (getE d4 0)) 65536))))]))
   (inl (some [(.int .i64 (AV.toInt (getE d4 0)))]))) n [(.int .i64 x)]) K=r:=by
 refine jn_it (fun y:Int=>[.int .i64 y]) (fun y=>y.toNat) (fun y=>[.int .i64 (fd y)]) (fun y=>0≤y∧y<2 ^ 62) x (by show x.toNat<n; omega) ⟨h1,h2⟩ (fun y K hy hK=>?_) hK
 simp only [ZZ]
 by_cases hb:y > 65535
 ·rw [brO_t (by simpa using hb),Int.tdiv_eq_ediv_of_nonneg hy.1,Int.tmod_eq_emod_of_nonneg hy.1,wrap_id (x:=y / 65536) (by omega) (by omega),wrap_id (by omega) (by omega)]
  rw [hK (y / 65536+y % 65536) (by show (y / 65536+y % 65536).toNat<y.toNat; omega) (by omega)]
  have:fd (y / 65536+y % 65536)=fd y:=by unfold fd; rw [if_neg (by omega),if_neg (by omega)]; omega
  rw [this]
 ·rw [brO_f (by simp; omega),fd_small hy.1 (by omega)]
theorem a47 (n:Nat) (hn:2 ^ 63<n) (x:Int) (b:List Int) (lo hi' : Nat) (hb:Bytes b) (hl:b.length<2 ^ 44) (h1:0≤x) (h2:x<2 ^ 40) (hlo:lo<2 ^ 44) (hhi:hi'≤b.length) :
  A47 n [.int .i64 x,.fs .u8 b,.int .i64 (lo:Nat),.int .i64 (hi' : Nat)]=some [.int .i64 (addedP x b lo hi')]:=by
 show run47 n x b (lo:Nat) (hi' : Nat)=_
 rw [eq47]
 unfold addedP
 generalize hU:(b.drop lo).take (hi' - lo)=U
 have hbU:Bytes U:=by rw [←hU]; exact (hb.drop lo).take _
 have hul:U.length=hi' - lo:=by rw [←hU]; simp; omega
 have hr:=addS_r hbU true
 have e0:([.int .i64 x,.fs .u8 b,.int .i64 (lo:Nat),.int .i64 (hi' : Nat),.int .i64 (lo:Nat)]:List AV)=(fun t:Nat=>([.int .i64 (x+addS true (U.take t)),.fs .u8 b,.int .i64 (lo:Nat),.int .i64 (hi' : Nat),.int .i64 ((lo+t:Nat):Int)]:List AV)) 0:=by
  simp [addS]
 rw [e0]
 refine jn_it (fun t:Nat=>[.int .i64 (x+addS true (U.take t)),.fs .u8 b,.int .i64 (lo:Nat),.int .i64 (hi' : Nat),.int .i64 ((lo+t:Nat):Int)]) (fun t=>U.length - t)
  (fun _=>[.int .i64 (x+addS true U)]) (fun t=>t≤U.length) 0 (by show U.length - 0<n; omega) (Nat.zero_le _) (fun t K ht hK=>?_) ?_
 ·simp only [ZZ]
  have hT:=addS_r (hbU.take t) true
  have hTl:(U.take t).length≤U.length:=by rw [List.length_take]; omega
  by_cases ht2:t<U.length
  ·have hb1:lo+t<b.length:=by omega
   have hg:getI b (lo+t)=U[t]:=by
    rw [getI_lt hb1]
    have:U[t]? = b[lo+t]?:=by rw [←hU,List.getElem?_take_of_lt (by omega),List.getElem?_drop]
    rw [List.getElem?_eq_getElem ht2,List.getElem?_eq_getElem hb1] at this
    exact (Option.some.inj this).symm
   have hgr:=hb.get (lo+t)
   rw [hg] at hgr
   have:=hK (t+1) (by show U.length - (t+1)<U.length - t; omega) (by show t+1≤U.length; omega)
   rw [addS_take ht2,hi_len,List.length_take,Nat.min_eq_left (by omega)] at this
   have w0:IntKind.wrap .i64 (((lo+t:Nat):Int) - (lo:Int))=(t:Int):=by rw [wrap_id (by omega) (by omega)]; omega
   have w1:IntKind.wrap .i64 U[t]=U[t]:=wrap_id (by omega) (by omega)
   have w2:IntKind.wrap .i64 (256 * U[t])=U[t] * 256:=by rw [wrap_id (by omega) (by omega)]; omega
   have w3:IntKind.wrap .i64 (((lo+t:Nat):Int)+1)=((lo+(t+1):Nat):Int):=by rw [wrap_id (by omega) (by omega)]; omega
   have w4:IntKind.wrap .i64 (x+addS true (U.take t)+U[t] * 256)=x+addS true (U.take t)+U[t] * 256:=wrap_id (by omega) (by omega)
   have w5:IntKind.wrap .i64 (x+addS true (U.take t)+U[t])=x+addS true (U.take t)+U[t]:=wrap_id (by omega) (by omega)
   rw [brO_t (by exact decide_eq_true (by omega)),w0]
   rcases Nat.mod_two_eq_zero_or_one t with e | e
   ·have c1:(Int.tmod (t:Int) 2 == 0)=true:=by rw [Int.tmod_eq_emod_of_nonneg (by omega)]; simp; omega
    rw [c1,bT,inR_nat hb1]
    simp only [Int.toNat_natCast,hg,w1,w2,ZZ,w4,w3]
    rw [e] at this
    rw [←this,if_pos (show (true ==((0:Nat) == 0))=true from rfl),Int.add_assoc]
   ·have c1:(Int.tmod (t:Int) 2 == 0)=false:=by rw [Int.tmod_eq_emod_of_nonneg (by omega)]; simp; omega
    rw [c1,bF,inR_nat hb1]
    simp only [Int.toNat_natCast,hg,w1,ZZ,w5,w3]
    rw [e] at this
    rw [←this,if_neg (show ¬ (true ==((1:Nat) == 0))=true by decide),Int.add_assoc]
  ·have:t=U.length:=by omega
   subst this
   rw [brO_f (by exact decide_eq_false (by omega)),List.take_length]
 ·simp only [ZZ]
  refine fold16 n _ (by omega) (by omega) hn ?_
  simp only [ZZ]
def atN (b:List Int):Nat→Nat
 | 0=>12
 | 1=>linkAt1 b
 | _=>linkAt b
theorem atN_le (b:List Int) (i:Nat):atN b i≤20:=by
 have h1:linkAt1 b≤16:=by unfold linkAt1; split <;> omega
 have h2:linkAt b≤20:=by unfold linkAt; split <;> omega
 unfold atN
 split <;> omega
theorem atN_step (b:List Int) {i:Nat} (h:i<2):atN b (i+1)=if isTag (two b (atN b i)) then atN b i+4 else atN b i:=by
 match i,h with
 | 0,_=>rfl
 | 1,_=>rfl
theorem a19 (n:Nat) (hn:2 ^ 63<n) (b:List Int) (hb:Bytes b) (hl:60≤b.length) (hl2:b.length<2 ^ 44) :
  A19 n [.fs .u8 b]=some [.int .i64 ((linkAt b+2:Nat):Int),.int .i64 (two b (linkAt b))]:=by
 show run19 n b=_
 rw [eq19]
 have two_w:∀ i,IntKind.wrap .i64 ((IntKind.wrap .i64 (256 * (IntKind.wrap .i64 (getI b i))))+(IntKind.wrap .i64 (getI b (i+1))))=two b i:=fun i=>by
  have g0:=hb.get i
  have g1:=hb.get (i+1)
  unfold two
  rw [wrap_id (x:=getI b i) (by omega) (by omega),wrap_id (x:=getI b (i+1)) (by omega) (by omega),wrap_id (x:=256 * getI b i) (by omega) (by omega),wrap_id (by omega) (by omega)]
  omega
 refine jn_it (fun i:Nat=>[.fs .u8 b,.int .i64 (atN b i:Nat),.int .i64 (i:Nat)]) (fun i=>2 - i) (fun _=>[.fs .u8 b,.int .i64 (linkAt b:Nat)]) (fun i=>i≤2) 0 (by show 2 - 0<n; omega) (Nat.zero_le _) (fun i K hi hK=>?_) ?_
 ·simp only [ZZ]
  by_cases hi2:i<2
  ·have ha:=atN_le b i
   have w1:IntKind.wrap .i64 ((atN b i:Int)+1)=((atN b i+1:Nat):Int):=by rw [wrap_id (by omega) (by omega)]; omega
   have w4:IntKind.wrap .i64 ((atN b i:Int)+4)=((atN b i+4:Nat):Int):=by rw [wrap_id (by omega) (by omega)]; omega
   have wi:IntKind.wrap .i64 ((i:Int)+1)=((i+1:Nat):Int):=by rw [wrap_id (by omega) (by omega)]; omega
   have hK1:=hK (i+1) (by show 2 - (i+1)<2 - i; omega) (by show i+1≤2; omega)
   rw [atN_step b hi2] at hK1
   rw [brO_t (by exact decide_eq_true (by omega)),inR_nat (show atN b i<b.length by omega),bT,w1,inR_nat (show atN b i+1<b.length by omega),bT]
   simp only [Int.toNat_natCast,two_w,w4]
   by_cases c1:two b (atN b i)=33024
   ·rw [if_pos (.inl c1)] at hK1
    simp only [ZZ,c1,beq_self_eq_true,wi,w4]
    exact hK1
   ·have c1' : (two b (atN b i) == 33024)=false:=by simpa using c1
    by_cases c2:two b (atN b i)=34984
    ·rw [if_pos (.inr c2)] at hK1
     have c2' : (two b (atN b i) == 34984)=true:=by simpa using c2
     simp only [ZZ,c1',c2',wi,w4]
     exact hK1
    ·rw [if_neg (fun h=>h.elim c1 c2)] at hK1
     have c2' : (two b (atN b i) == 34984)=false:=by simpa using c2
     simp only [ZZ,c1',c2',wi,w4]
     exact hK1
  ·have:i=2:=by omega
   subst this
   rw [brO_f (by exact decide_eq_false (by omega))]
   rfl
 ·have ha:=atN_le b 2
  change linkAt b≤20 at ha
  have w1:IntKind.wrap .i64 ((linkAt b:Int)+1)=((linkAt b+1:Nat):Int):=by rw [wrap_id (by omega) (by omega)]; omega
  have w2:IntKind.wrap .i64 ((linkAt b:Int)+2)=((linkAt b+2:Nat):Int):=by rw [wrap_id (by omega) (by omega)]; omega
  simp only [ZZ]
  rw [inR_nat (show linkAt b<b.length by omega),bT,w1,inR_nat (show linkAt b+1<b.length by omega),bT]
  simp only [Int.toNat_natCast,two_w,w2]
theorem getI_mid {b:List Int} {lo k i:Nat} (h:i<k):getI ((b.drop lo).take k) i=getI b (lo+i):=by rw [getI_take h,getI_drop]
theorem wadd {a:Nat} {k:Int} (h:0≤k) (ha:a<2 ^ 45) (hk:k<2 ^ 45):IntKind.wrap .i64 ((a:Int)+k)=((a+k.toNat:Nat):Int):=by
 rw [wrap_id (by omega) (by omega)]; omega
theorem a48 (n:Nat) (hn:2 ^ 63<n) (b:List Int) (p:Pkt) (lo hi' : Nat) (st:Int) (hb:Bytes b) (hl:b.length<2 ^ 44) (h1:0≤st) (h2:st<2 ^ 40) (hlo:lo≤hi') (hhi:hi'≤b.length) (h8:p.l4≠0→lo+8≤hi') :
  A48 n [.fs .u8 b,p.av,.int .i64 (lo:Nat),.int .i64 (hi' : Nat),.int .i64 st]=some [.bool (upP ((b.drop lo).take (hi' - lo)) p st)]:=by
 show run48 A47 n b p.av (lo:Nat) (hi' : Nat) st=_
 rw [eq48]
 have h47:∀ x:Int,0≤x→x<2 ^ 40→A47 n [.int .i64 x,.fs .u8 b,.int .i64 (lo:Nat),.int .i64 (hi' : Nat)]=some [.int .i64 (fd (x+addS true ((b.drop lo).take (hi' - lo))))]:=fun x hx hx2=>a47 n hn x b lo hi' hb hl hx hx2 (by omega) hhi
 have h47s:=h47 st h1 h2
 have h470:=h47 0 (by omega) (by omega)
 unfold upP
 by_cases c1:p.l4=1
 ·by_cases hk:p.kind=2
  ·simp [ZY,c1,hk,h470]
  ·simp [ZY,c1,hk,h47s]
 have c1' : (p.l4 == 1)=false:=by simpa using c1
 by_cases c2:p.l4=2
 ·have hlt:=h8 (by omega)
  have c2' : (p.l4 == 2)=true:=by simpa using c2
  rw [if_neg c1,if_pos c2,getI_mid (show 6<hi' - lo by omega),getI_mid (show 7<hi' - lo by omega)]
  have w6:IntKind.wrap .i64 ((lo:Int)+6)=((lo+6:Nat):Int):=wadd (by decide) (by omega) (by decide)
  have w7:IntKind.wrap .i64 ((lo:Int)+7)=((lo+7:Nat):Int):=wadd (by decide) (by omega) (by decide)
  simp only [ZZ,c1',c2',w6,w7,inR_nat (show lo+6<b.length by omega),inR_nat (show lo+7<b.length by omega),Int.toNat_natCast]
  generalize (getI b (lo+6) == 0)=z6
  generalize (getI b (lo+7) == 0)=z7
  cases z6 <;> cases z7 <;> cases hs:p.udp.nosum <;> simp [ZZ,h47s,hs]
 have c2' : (p.l4 == 2)=false:=by simpa using c2
 by_cases c3:p.l4=3
 ·simp [ZY,c1,c2,c3,h47s]
 ·simp [ZY,c1,c2,c3]
theorem a20 (n:Nat) (hn:2 ^ 63<n) (b:List Int) (p:Pkt) (i:Nat) (hb:Bytes b) (hl:b.length<2 ^ 44) (hi:i+4≤b.length) :
  A20 n [.fs .u8 b,p.av,.int .i64 (i:Nat)]=some [.bool (fourP b p i).1,.int .i64 ((fourP b p i).2:Nat)]:=by
 show run20 A46 A47 A48 n b p.av (i:Nat)=_
 rw [eq20]
 have hF:fourP b p i=if 4 * (getI b i % 16).toNat<20∨(two b (i+2)).toNat<4 * (getI b i % 16).toNat+8 * oneP p∨i+(two b (i+2)).toNat > b.length∨addedP 0 b i (i+4 * (getI b i % 16).toNat)≠65535 then (false,0)
  else (upP ((b.drop (i+4 * (getI b i % 16).toNat)).take ((two b (i+2)).toNat - 4 * (getI b i % 16).toNat)) p (addedP (getI b (i+9)+(((two b (i+2)).toNat:Int) - (4 * (getI b i % 16).toNat:Nat))) b (i+12) (i+20)),i+(two b (i+2)).toNat):=rfl
 rw [hF]
 have g0:=hb.get i
 have g2:=hb.get (i+2)
 have g3:=hb.get (i+3)
 have g9:=hb.get (i+9)
 have w2:IntKind.wrap .i64 ((i:Int)+2)=((i+2:Nat):Int):=wadd (by decide) (by omega) (by decide)
 have w3:IntKind.wrap .i64 ((i:Int)+3)=((i+3:Nat):Int):=wadd (by decide) (by omega) (by decide)
 have w9:IntKind.wrap .i64 ((i:Int)+9)=((i+9:Nat):Int):=wadd (by decide) (by omega) (by decide)
 have w12:IntKind.wrap .i64 ((i:Int)+12)=((i+12:Nat):Int):=wadd (by decide) (by omega) (by decide)
 have w20:IntKind.wrap .i64 ((i:Int)+20)=((i+20:Nat):Int):=wadd (by decide) (by omega) (by decide)
 have wH:IntKind.wrap .i64 (4 * (Int.tmod (IntKind.wrap .i64 (getI b i)) 16))=((4 * (getI b i % 16).toNat:Nat):Int):=by
  rw [wrap_id (x:=getI b i) (by omega) (by omega),Int.tmod_eq_emod_of_nonneg (by omega),wrap_id (by omega) (by omega)]; omega
 have wT:IntKind.wrap .i64 ((IntKind.wrap .i64 (256 * (IntKind.wrap .i64 (getI b (i+2)))))+(IntKind.wrap .i64 (getI b (i+3))))=((two b (i+2)).toNat:Int):=by
  unfold two
  rw [wrap_id (x:=getI b (i+2)) (by omega) (by omega),wrap_id (x:=getI b (i+3)) (by omega) (by omega),wrap_id (x:=256 * getI b (i+2)) (by omega) (by omega),wrap_id (by omega) (by omega)]
  have:getI b (i+2+1)=getI b (i+3):=rfl
  rw [this]
  omega
 have hH:4 * (getI b i % 16).toNat≤60:=by omega
 have hT:(two b (i+2)).toNat≤65535:=by
  unfold two
  have:getI b (i+2+1)=getI b (i+3):=rfl
  rw [this]
  omega
 generalize 4 * (getI b i % 16).toNat=H at *
 generalize (two b (i+2)).toNat=T at *
 have w8:IntKind.wrap .i64 (8 * ((oneP p:Nat):Int))=((8 * oneP p:Nat):Int):=by
  have:oneP p≤1:=by unfold oneP; split <;> omega
  rw [wrap_id (by omega) (by omega)]; omega
 have ho:oneP p≤1:=by unfold oneP; split <;> omega
 have wH8:IntKind.wrap .i64 ((H:Int)+((8 * oneP p:Nat):Int))=((H+8 * oneP p:Nat):Int):=by rw [wrap_id (by omega) (by omega)]; omega
 have wiT:IntKind.wrap .i64 ((i:Int)+(T:Int))=((i+T:Nat):Int):=by rw [wrap_id (by omega) (by omega)]; omega
 have wiH:IntKind.wrap .i64 ((i:Int)+(H:Int))=((i+H:Nat):Int):=by rw [wrap_id (by omega) (by omega)]; omega
 by_cases c1:H<20
 ·have c1' : decide ((H:Int)<20)=true:=decide_eq_true (by omega)
  rw [if_pos (.inl c1)]
  simp only [ZZ,w2,w3,inR_nat (show i<b.length by omega),inR_nat (show i+2<b.length by omega),inR_nat (show i+3<b.length by omega),Int.toNat_natCast,wH,wT,c1']
  rfl
 have c1' : decide ((H:Int)<20)=false:=decide_eq_false (by omega)
 by_cases c2:T<H+8 * oneP p
 ·have c2' : decide ((T:Int)<((H+8 * oneP p:Nat):Int))=true:=decide_eq_true (by omega)
  rw [if_pos (.inr (.inl c2))]
  simp only [ZZ,w2,w3,inR_nat (show i<b.length by omega),inR_nat (show i+2<b.length by omega),inR_nat (show i+3<b.length by omega),Int.toNat_natCast,wH,wT,c1',a46,w8,wH8,c2']
  rfl
 have c2' : decide ((T:Int)<((H+8 * oneP p:Nat):Int))=false:=decide_eq_false (by omega)
 by_cases c3:i+T > b.length
 ·have c3' : decide (((i+T:Nat):Int) > Int.ofNat b.length)=true:=decide_eq_true (by show ((b.length:Nat):Int)<_; omega)
  rw [if_pos (.inr (.inr (.inl c3)))]
  simp only [ZZ,w2,w3,inR_nat (show i<b.length by omega),inR_nat (show i+2<b.length by omega),inR_nat (show i+3<b.length by omega),Int.toNat_natCast,wH,wT,c1',a46,w8,wH8,c2',wiT,c3']
  rfl
 have c3' : decide (((i+T:Nat):Int) > Int.ofNat b.length)=false:=decide_eq_false (by show ¬ ((b.length:Nat):Int)<_; omega)
 have h47:=a47 n hn 0 b i (i+H) hb hl (by omega) (by omega) (by omega) (by omega)
 by_cases c4:addedP 0 b i (i+H)=65535
 ·have c4' : (addedP 0 b i (i+H) != 65535)=false:=by simpa using c4
  have wTH:IntKind.wrap .i64 ((T:Int) - (H:Int))=(T:Int) - (H:Int):=wrap_id (by omega) (by omega)
  have w9' : IntKind.wrap .i64 (getI b (i+9))=getI b (i+9):=wrap_id (by omega) (by omega)
  have wS:IntKind.wrap .i64 (getI b (i+9)+((T:Int) - (H:Int)))=getI b (i+9)+((T:Int) - (H:Int)):=wrap_id (by omega) (by omega)
  have h47':=a47 n hn (getI b (i+9)+((T:Int) - (H:Int))) b (i+12) (i+20) hb hl (by omega) (by omega) (by omega) (by omega)
  have hr:0≤addedP (getI b (i+9)+((T:Int) - (H:Int))) b (i+12) (i+20)∧addedP (getI b (i+9)+((T:Int) - (H:Int))) b (i+12) (i+20)≤65535:=by
   unfold addedP
   have:=(addS_r ((hb.drop (i+12)).take (i+20 - (i+12))) true).1
   exact fd_r (by omega)
  have h48:=a48 n hn b p (i+H) (i+T) (addedP (getI b (i+9)+((T:Int) - (H:Int))) b (i+12) (i+20)) hb hl hr.1 (by omega) (by omega) (by omega) (fun h=>by have:oneP p=1:=if_pos h; omega)
  rw [show i+T - (i+H)=T - H by omega] at h48
  rw [if_neg (fun h=>h.elim c1 (fun h=>h.elim c2 (fun h=>h.elim c3 (fun h=>h c4))))]
  simp only [ZZ,w2,w3,inR_nat (show i<b.length by omega),inR_nat (show i+2<b.length by omega),inR_nat (show i+3<b.length by omega),Int.toNat_natCast,wH,wT,c1',a46,w8,wH8,c2',wiT,c3',wiH,h47,c4',
   w9,inR_nat (show i+9<b.length by omega),w9',wTH,wS,w12,w20,h47',h48]
 ·have c4' : (addedP 0 b i (i+H) != 65535)=true:=by simpa using c4
  rw [if_pos (.inr (.inr (.inr c4)))]
  simp only [ZZ,w2,w3,inR_nat (show i<b.length by omega),inR_nat (show i+2<b.length by omega),inR_nat (show i+3<b.length by omega),Int.toNat_natCast,wH,wT,c1',a46,w8,wH8,c2',wiT,c3',wiH,h47,c4']
  rfl
theorem flat_take {l:List Opt} {k:Nat} (h:k<l.length):(flatO (l.take (k+1))).length=(flatO (l.take k)).length+(2+l[k].data.length):=by
 unfold flatO
 rw [List.take_succ_eq_append_getElem h,List.flatMap_append,List.length_append]
 simp [optB]; omega
theorem flat_le {l:List Opt} (hl:l.length≤2 ^ 20) (hd:∀ o∈l,o.data.length≤2 ^ 20) (k:Nat) (hk:k≤l.length):(flatO (l.take k)).length≤k * (2 ^ 20+2):=by
 induction k with
 | zero=>simp [flatO]
 | succ k ih=>
  have h1:=ih (by omega)
  have h2:=hd l[k] (List.getElem_mem (by omega))
  rw [flat_take (by omega)]
  omega
theorem a21 (n:Nat) (hn:2 ^ 63<n) (b:List Int) (p:Pkt) (h:p.Sm) (i:Nat) (hb:Bytes b) (hl:b.length<2 ^ 44) (hi:i+6≤b.length) (hx0:0≤p.ip6.next) (hx1:p.ip6.next≤255) :
  A21 n [.fs .u8 b,p.av,.int .i64 (i:Nat)]=some [.bool (sixP b p i).1,.int .i64 ((sixP b p i).2:Nat)]:=by
 show run21 A47 A48 n b p.av (i:Nat)=_
 rw [eq21]
 have hF:sixP b p i=if i+(40+(two b (i+4)).toNat) > b.length∨upLen p > 40+(two b (i+4)).toNat - 40∨(p.l4≠0∧upLen p<8) then (false,0)
  else (upP ((b.drop (i+(40+(two b (i+4)).toNat) - upLen p)).take (upLen p)) p (addedP (p.ip6.next+upLen p) b (i+8) (i+40)),i+(40+(two b (i+4)).toNat)):=rfl
 rw [hF]
 have g4:=hb.get (i+4)
 have g5:=hb.get (i+5)
 have w4:IntKind.wrap .i64 ((i:Int)+4)=((i+4:Nat):Int):=wadd (by decide) (by omega) (by decide)
 have w5:IntKind.wrap .i64 ((i:Int)+5)=((i+5:Nat):Int):=wadd (by decide) (by omega) (by decide)
 have w8:IntKind.wrap .i64 ((i:Int)+8)=((i+8:Nat):Int):=wadd (by decide) (by omega) (by decide)
 have w40:IntKind.wrap .i64 ((i:Int)+40)=((i+40:Nat):Int):=wadd (by decide) (by omega) (by decide)
 have wT:IntKind.wrap .i64 ((IntKind.wrap .i64 (40+(IntKind.wrap .i64 (256 * (IntKind.wrap .i64 (getI b (i+4)))))))+(IntKind.wrap .i64 (getI b (i+5))))=((40+(two b (i+4)).toNat:Nat):Int):=by
  unfold two
  rw [wrap_id (x:=getI b (i+4)) (by omega) (by omega),wrap_id (x:=getI b (i+5)) (by omega) (by omega),wrap_id (x:=256 * getI b (i+4)) (by omega) (by omega),wrap_id (x:=40+256 * getI b (i+4)) (by omega) (by omega),wrap_id (by omega) (by omega)]
  have:getI b (i+4+1)=getI b (i+5):=rfl
  rw [this]
  omega
 have hT:40+(two b (i+4)).toNat≤65575:=by
  unfold two
  have:getI b (i+4+1)=getI b (i+5):=rfl
  rw [this]
  omega
 have hT0:40≤40+(two b (i+4)).toNat:=by omega
 generalize 40+(two b (i+4)).toNat=T at *
 have hfl:=flat_le h.otl h.otd p.tcp.opts.length (by omega)
 rw [List.take_length] at hfl
 have hdi:=h.dil
 have hdu:=h.dul
 have hdt:=h.dtl
 have hot:=h.otl
 have hpr:p.tcp.opts.length * (2 ^ 20+2)≤2 ^ 41:=Nat.le_trans (Nat.mul_le_mul_right _ hot) (by decide)
 have hU:upLen p≤2 ^ 42:=by unfold upLen; split <;>(try split) <;>(try split) <;> omega
 simp only [w4,w5,inR_nat (show i+4<b.length by omega),inR_nat (show i+5<b.length by omega),Int.toNat_natCast,wT,bT]
 refine jn_c (y:=some (Sum.inl [.fs .u8 b,.int .i64 (i:Nat),p.av,.int .i64 (T:Nat),.int .i64 (upLen p:Nat)])) ?_ ?_
 ·unfold upLen
  by_cases c1:p.l4=1
  ·have w:IntKind.wrap .i64 (8+Int.ofNat p.icmp.data.length)=((8+p.icmp.data.length:Nat):Int):=(wrap_id (x:=8+(p.icmp.data.length:Int)) (by omega) (by omega)).trans (by omega)
   have c1' : (p.l4 == 1)=true:=by simpa using c1
   rw [if_pos c1]
   simp only [ZZ,c1',w]
  have c1' : (p.l4 == 1)=false:=by simpa using c1
  by_cases c2:p.l4=2
  ·have w:IntKind.wrap .i64 (8+Int.ofNat p.udp.data.length)=((8+p.udp.data.length:Nat):Int):=(wrap_id (x:=8+(p.udp.data.length:Int)) (by omega) (by omega)).trans (by omega)
   have c2' : (p.l4 == 2)=true:=by simpa using c2
   rw [if_neg c1,if_pos c2]
   simp only [ZZ,c1',c2',w]
  have c2' : (p.l4 == 2)=false:=by simpa using c2
  by_cases c3:p.l4=3
  ·have w:IntKind.wrap .i64 (20+Int.ofNat p.tcp.data.length)=((20+p.tcp.data.length:Nat):Int):=(wrap_id (x:=20+(p.tcp.data.length:Int)) (by omega) (by omega)).trans (by omega)
   have c3' : (p.l4 == 3)=true:=by simpa using c3
   rw [if_neg c1,if_neg c2,if_pos c3]
   simp only [ZZ,c1',c2',c3',w]
   refine jn_it (fun k:Nat=>[.fs .u8 b,.int .i64 (i:Nat),p.av,.int .i64 (T:Nat),.int .i64 ((20+p.tcp.data.length:Nat):Int),.int .i64 ((flatO (p.tcp.opts.take k)).length:Nat),.int .i64 (k:Nat)]) (fun k=>p.tcp.opts.length - k)
    (fun _=>[.fs .u8 b,.int .i64 (i:Nat),p.av,.int .i64 (T:Nat),.int .i64 ((20+p.tcp.data.length:Nat):Int),.int .i64 ((flatO p.tcp.opts).length:Nat)]) (fun k=>k≤p.tcp.opts.length) 0 (by show p.tcp.opts.length - 0<n; omega) (Nat.zero_le _) (fun k K hk hK=>?_) ?_
   ·simp only [ZZ,List.length_map]
    by_cases hk2:k<p.tcp.opts.length
    ·have hfk:=flat_le h.otl h.otd k (by omega)
     have hpk:k * (2 ^ 20+2)≤2 ^ 41:=Nat.le_trans (Nat.mul_le_mul_right _ (by omega:k≤2 ^ 20)) (by decide)
     have hbi:=h.otd p.tcp.opts[k] (List.getElem_mem hk2)
     have hK1:=hK (k+1) (by show p.tcp.opts.length - (k+1)<p.tcp.opts.length - k; omega) (by show k+1≤p.tcp.opts.length; omega)
     rw [flat_take hk2] at hK1
     rw [brO_t (by exact decide_eq_true (by show (k:Int)<((p.tcp.opts.length:Nat):Int); omega)),inR_nat hk2,bT,Int.toNat_natCast,getE_map hk2]
     generalize p.tcp.opts[k]=o at hbi hK1 ⊢
     have wa:IntKind.wrap .i64 (((flatO (p.tcp.opts.take k)).length:Int)+2)=((flatO (p.tcp.opts.take k)).length:Int)+2:=wrap_id (by omega) (by omega)
     have wb:IntKind.wrap .i64 (((flatO (p.tcp.opts.take k)).length:Int)+2+Int.ofNat o.data.length)=(((flatO (p.tcp.opts.take k)).length+(2+o.data.length):Nat):Int):=(wrap_id (x:=((flatO (p.tcp.opts.take k)).length:Int)+2+(o.data.length:Int)) (by omega) (by omega)).trans (by omega)
     have wc:IntKind.wrap .i64 ((k:Int)+1)=((k+1:Nat):Int):=by rw [wrap_id (by omega) (by omega)]; omega
     simp only [ZZ,wa,wb,wc]
     exact hK1
    ·have:k=p.tcp.opts.length:=by omega
     subst this
     rw [brO_f (by exact decide_eq_false (by show ¬ ((p.tcp.opts.length:Nat):Int)<((p.tcp.opts.length:Nat):Int); omega)),List.take_length]
   ·have wa:IntKind.wrap .i64 (((flatO p.tcp.opts).length:Int)+3)=(((flatO p.tcp.opts).length+3:Nat):Int):=by rw [wrap_id (by omega) (by omega)]; omega
    have wb:IntKind.wrap .i64 (Int.tdiv (((flatO p.tcp.opts).length+3:Nat):Int) 4)=((((flatO p.tcp.opts).length+3) / 4:Nat):Int):=by
     rw [Int.tdiv_eq_ediv_of_nonneg (by omega),wrap_id (by omega) (by omega)]; omega
    have wc:IntKind.wrap .i64 (((((flatO p.tcp.opts).length+3) / 4:Nat):Int) * 4)=((((flatO p.tcp.opts).length+3) / 4 * 4:Nat):Int):=by
     rw [wrap_id (by omega) (by omega)]; omega
    have wd:IntKind.wrap .i64 (((20+p.tcp.data.length:Nat):Int)+((((flatO p.tcp.opts).length+3) / 4 * 4:Nat):Int))=((20+p.tcp.data.length+((flatO p.tcp.opts).length+3) / 4 * 4:Nat):Int):=by
     rw [wrap_id (by omega) (by omega)]; omega
    simp only [ZZ,wa,wb,wc,wd]
  ·have c3' : (p.l4 == 3)=false:=by simpa using c3
   rw [if_neg c1,if_neg c2,if_neg c3]
   simp only [ZZ,c1',c2',c3']
   rfl
 ·generalize hUe:upLen p=U at *
  have wiT:IntKind.wrap .i64 ((i:Int)+(T:Int))=((i+T:Nat):Int):=by rw [wrap_id (by omega) (by omega)]; omega
  have wT40:IntKind.wrap .i64 ((T:Int) - 40)=((T - 40:Nat):Int):=by rw [wrap_id (by omega) (by omega)]; omega
  by_cases c1:i+T > b.length
  ·have c1' : decide (((i+T:Nat):Int) > Int.ofNat b.length)=true:=decide_eq_true (by show ((b.length:Nat):Int)<_; omega)
   rw [if_pos (.inl c1)]
   simp only [ZZ,wiT,c1']
   rfl
  have c1' : decide (((i+T:Nat):Int) > Int.ofNat b.length)=false:=decide_eq_false (by show ¬ ((b.length:Nat):Int)<_; omega)
  by_cases c2:U > T - 40
  ·have c2' : decide (((U:Nat):Int) >((T - 40:Nat):Int))=true:=decide_eq_true (by omega)
   rw [if_pos (.inr (.inl c2))]
   simp only [ZZ,wiT,c1',wT40,c2']
   rfl
  have c2' : decide (((U:Nat):Int) >((T - 40:Nat):Int))=false:=decide_eq_false (by omega)
  by_cases c3:p.l4≠0∧U<8
  ·have c3' : (p.l4 != 0)=true:=by simpa using c3.1
   rw [if_pos (.inr (.inr c3))]
   simp only [ZZ,wiT,c1',wT40,c2',c3']
   exact jn_c (brO_t (by exact decide_eq_true (show ((U:Nat):Int)<8 by have:=c3.2; omega))) rfl
  rw [if_neg (fun h=>h.elim c1 (fun h=>h.elim c2 c3))]
  have wS:IntKind.wrap .i64 (p.ip6.next+(U:Int))=p.ip6.next+(U:Int):=wrap_id (by omega) (by omega)
  have wE:IntKind.wrap .i64 (((i+T:Nat):Int) - (U:Int))=((i+T - U:Nat):Int):=by rw [wrap_id (by omega) (by omega)]; omega
  have h47:=a47 n hn (p.ip6.next+(U:Int)) b (i+8) (i+40) hb hl (by omega) (by omega) (by omega) (by omega)
  have hr:0≤addedP (p.ip6.next+(U:Int)) b (i+8) (i+40)∧addedP (p.ip6.next+(U:Int)) b (i+8) (i+40)≤65535:=by
   unfold addedP
   have:=(addS_r ((hb.drop (i+8)).take (i+40 - (i+8))) true).1
   exact fd_r (by omega)
  have h48:=a48 n hn b p (i+T - U) (i+T) (addedP (p.ip6.next+(U:Int)) b (i+8) (i+40)) hb hl hr.1 (by omega) (by omega) (by omega) (fun h=>by have:¬ U<8:=fun hu=>c3 ⟨h,hu⟩; omega)
  rw [show i+T - (i+T - U)=U by omega] at h48
  by_cases c4:p.l4=0
  ·have c3' : (p.l4 != 0)=false:=by simpa using c4
   simp only [ZZ,wiT,c1',wT40,c2',c3',wS,w8,w40,h47,wE,h48]
  ·have c3' : (p.l4 != 0)=true:=by simpa using c4
   simp only [ZZ,wiT,c1',wT40,c2',c3']
   refine jn_c (brO_f (by exact decide_eq_false (show ¬ ((U:Nat):Int)<8 by have:¬ U<8:=fun hu=>c3 ⟨c4,hu⟩; omega))) ?_
   simp only [ZZ,wiT,wS,w8,w40,h47,wE,h48]
theorem pser_made {p:Pkt} (h:(pser p).2=0):(pmade p).2=0∧(pser p).1=padF (pmade p).1:=by
 unfold pser at h ⊢
 split
 ·rename_i h1; rw [if_pos h1] at h; exact absurd h h1
 ·rename_i h1; exact ⟨Decidable.not_not.1 h1,rfl⟩
theorem next_ok {p:Pkt} (hm:(pmade p).2=0) (hk:p.kind=3):0≤p.ip6.next∧p.ip6.next≤255:=by
 obtain ⟨q1,q2,q3,q4,q5⟩:=pmade_ok hm
 have hi:=(inner_ok (by omega) q3).2.2.2
 rw [if_neg (by omega)] at hi
 rw [hi] at q3
 have hs:=(made6_ok q3).1
 have e4:(with_ p (above p).1).ip6={ p.ip6 with data:=(above p).1 }:=by unfold with_; rw [if_neg (by omega)]
 rw [e4] at hs
 unfold sized6 at hs
 by_cases hx:p.ip6.next<0∨p.ip6.next > 255
 ·rw [if_pos (by
   rcases hx with hx | hx
   ·exact .inr (.inr (.inr (.inr (.inr (.inr (.inr (.inr (.inl hx))))))))
   ·exact .inr (.inr (.inr (.inr (.inr (.inr (.inr (.inr (.inr hx)))))))))] at hs
  cases hs
 ·omega
theorem zeros_loop (n:Nat) (hn:2 ^ 63<n) (b:List Int) (hl:b.length<2 ^ 44) (e:Nat) (he:e≤b.length) (hz:(b.drop e).all (fun x=>x == 0)=true) {K:List AV→Option (List AV)} {r:Option (List AV)} (hK:K [.tup []]=r) :
  jn (iter (fun d9 k10=>
     brO (decide ((AV.toInt (getE d9 2))<(Int.ofNat (List.length (AV.toInts (getE d9 1))))))
      (brO (inR (AV.toInt (getE d9 2)) (List.length (AV.toInts (getE d9 1))))
       (brO (Nat.ble ((Int.toNat (AV.toInt (getE d9 2)))+1) (List.length (AV.toInts (getE d9 1))))
        (brO ((getI (AV.toInts (getE d9 1)) (Int.toNat (AV.toInt (getE d9 2)))) != 0)
         (some (.inr [(.bool false)]))
         ((k10 [(.tup (AV.toElems (getE d9 0))),(.fs .u8 (AV.toInts (getE d9 1))),(.int .i64 (IntKind.wrap .i64 ((AV.toInt (getE d9 2))+1)))])))
        (none))
       (none))
      (some (.inl [(.tup (AV.toElems (getE d9 0)))]))) n [(.tup []),(.fs .u8 b),(.int .i64 (e:Nat))]) K=r:=by
 refine jn_it (fun i:Nat=>[.tup [],.fs .u8 b,.int .i64 (i:Nat)]) (fun i=>b.length - i) (fun _=>[.tup []]) (fun i=>e≤i∧i≤b.length) e (by show b.length - e<n; omega) ⟨Nat.le_refl _,he⟩ (fun i K hi hK=>?_) hK
 simp only [ZZ]
 by_cases hi2:i<b.length
 ·have hg:getI b i=0:=by
   rw [getI_lt hi2]
   have hm:b[i]∈b.drop e:=List.mem_drop_iff_getElem.2 ⟨i - e,by omega,by congr 1; omega⟩
   exact eq_of_beq (List.all_eq_true.1 hz _ hm)
  have w:IntKind.wrap .i64 ((i:Int)+1)=((i+1:Nat):Int):=by rw [wrap_id (by omega) (by omega)]; omega
  have hK1:=hK (i+1) (by show b.length - (i+1)<b.length - i; omega) ⟨by omega,by omega⟩
  rw [brO_t (by exact decide_eq_true (by show (i:Int)<((b.length:Nat):Int); omega)),inR_nat hi2,bT,Int.toNat_natCast,Nat.ble_eq_true_of_le (by omega),bT,hg]
  simp only [ZZ,w]
  exact hK1
 ·rw [brO_f (by exact decide_eq_false (by show ¬ (i:Int)<((b.length:Nat):Int); omega))]
theorem b4' (F13 F16 F17 F19 F20 F21:Fun) (n:Nat) (hn:2 ^ 63<n) (p:Pkt) (h:p.Sm) (h16:F16 n [.tup []]=some [.bool true,.tup []]) (h17:∀ x:Int,F17 n [.int .i64 x]=some [.int .i64 x])
  (h13:F13 n [p.av]=some [.fs .u8 (pser p).1,.int .i64 (pser p).2])
  (h19:∀ b:List Int,Bytes b→60≤b.length→b.length<2 ^ 44→F19 n [.fs .u8 b]=some [.int .i64 ((linkAt b+2:Nat):Int),.int .i64 (two b (linkAt b))])
  (h20:∀ (b:List Int) (i:Nat),Bytes b→b.length<2 ^ 44→i+4≤b.length→F20 n [.fs .u8 b,p.av,.int .i64 (i:Nat)]=some [.bool (fourP b p i).1,.int .i64 ((fourP b p i).2:Nat)])
  (h21:∀ (b:List Int) (i:Nat),Bytes b→b.length<2 ^ 44→i+6≤b.length→0≤p.ip6.next→p.ip6.next≤255→F21 n [.fs .u8 b,p.av,.int .i64 (i:Nat)]=some [.bool (sixP b p i).1,.int .i64 ((sixP b p i).2:Nat)]) :
  run4 F13 F16 F17 F19 F20 F21 n p.av=some [.bool true]:=by
 rw [eq4]
 by_cases c:(pser p).2=0
 ·have c' : ((pser p).2 != 0)=false:=by simpa using c
  have hs:=sums_ok h.ok c
  have hb:=pser_bytes h
  obtain ⟨hm,hp⟩:=pser_made c
  have hml:=pmade_len h hm
  have hl:(pser p).1.length<2 ^ 44:=by rw [hp]; unfold padF; rw [List.length_append,List.length_replicate]; omega
  generalize (pser p).1=b at *
  unfold sumsP at hs
  simp only [Bool.and_eq_true,Bool.or_eq_true,decide_eq_true_eq] at hs
  obtain ⟨⟨⟨⟨s1,s2⟩,s3⟩,s4⟩,s5⟩:=hs
  have h19:=h19 b hb s1 hl
  have ha:linkAt b≤20:=atN_le b 2
  simp only [ZZ,h13,h17,c']
  refine (brO_f (by exact decide_eq_false (by show ¬ ((b.length:Nat):Int)<60; omega))).trans ?_
  simp only [ZZ,h19]
  refine jn_c (y:=some (Sum.inl [.tup [],.fs .u8 b,.bool true,.int .i64 ((bodyP b p).2:Nat)])) ?_ ?_
  ·unfold bodyP at s2 ⊢
   by_cases k2:p.kind=2
   ·have k2' : (p.kind == 2)=true:=by simpa using k2
    rw [if_pos k2] at s2 ⊢
    rw [Bool.and_eq_true] at s2
    simp only [ZZ,k2',h20 b _ hb hl (show linkAt b+2+4≤b.length by omega),s2.1,s2.2]
   have k2' : (p.kind == 2)=false:=by simpa using k2
   by_cases k3:p.kind=3
   ·have k3' : (p.kind == 3)=true:=by simpa using k3
    have hx:=next_ok hm k3
    rw [if_neg k2,if_pos k3] at s2 ⊢
    rw [Bool.and_eq_true] at s2
    simp only [ZZ,k2',k3',h21 b _ hb hl (show linkAt b+2+6≤b.length by omega) hx.1 hx.2,s2.1,s2.2]
   ·have k3' : (p.kind == 3)=false:=by simpa using k3
    have w:IntKind.wrap .i64 (((linkAt b+2:Nat):Int)+28)=((linkAt b+2+28:Nat):Int):=by rw [wrap_id (by omega) (by omega)]; omega
    rw [if_neg k2,if_neg k3] at s2 ⊢
    change (two b (linkAt b) == 2054)=true at s2
    simp only [ZZ,k2',k3',w,s2]
  ·generalize (bodyP b p).2=e at *
   simp only [ZZ,Bool.not_true]
   refine jn_c (jn_c (y:=some (Sum.inl [.tup [],.fs .u8 b,.int .i64 (e:Nat),.bool false])) ?_ ?_) (y:=some (Sum.inl [.tup [],.fs .u8 b,.int .i64 (e:Nat)])) ?_
   ·refine (brO_f (by exact decide_eq_false (by show ¬ ((b.length:Nat):Int)<((e:Nat):Int); omega))).trans ?_
    by_cases d2:b.length≤60
    ·exact brO_f (by exact decide_eq_false (by show ¬ (60:Int)<((b.length:Nat):Int); omega))
    ·refine (brO_t (by exact decide_eq_true (by show (60:Int)<((b.length:Nat):Int); omega))).trans ?_
     have he:e=b.length:=s4.resolve_left d2
     have d3:(((e:Nat):Int) != Int.ofNat b.length)=false:=by rw [he]; exact bne_self_eq_false _
     simp only [ZZ,d3]
   ·simp only [ZZ]
   ·simp only [ZZ]
    refine zeros_loop n hn b hl e s3 s5 ?_
    simp only [ZZ,h16]
 ·have c' : ((pser p).2 != 0)=true:=by simpa using c
  simp only [ZZ,h13,h17,c',h16]
noncomputable def B4:Fun:=fun n xs=>D4.run Tryz.prog env (cal4 A13 B16 A17 A19 A20 A21) H4 n xs
theorem T4:SoundCal Tryz.prog env 4 (mkCal D4 B4):=snd4 _ _ _ _ _ _ S13 T16 S17 S19 S20 S21
theorem b4 (p:Pkt) (h:p.Sm):B4 N0 [p.av]=some [.bool true]:=
 b4' A13 B16 A17 A19 A20 A21 N0 hN0 p h v16 (a17 N0) (a13 N0 hN0 p h) (fun b=>a19 N0 hN0 b) (fun b i hb hl hi=>a20 N0 hN0 b p i hb hl hi) (fun b i hb hl hi h0 h1=>a21 N0 hN0 b p h i hb hl hi h0 h1)
end Go.Proofs.YtlmnjnhmhacgkaaGreatDoor.Am
end
