/-
  What the program's functions compute.
-/
import Derived.Test.YtlmnjnhmhacgkaaDoorPkF
section
set_option linter.unusedVariables false
set_option linter.unusedSimpArgs false
set_option maxRecDepth 100000
namespace Go.Proofs.YtlmnjnhmhacgkaaDoor.Am
open Go Go.Am Go.Proofs
def isB:Option (List AV)→Bool→Bool
 | some [.bool b],c=>b == c
 | _,_=>false
theorem isB_eq {o:Option (List AV)} {c:Bool} (h:isB o c=true):o=some [.bool c]:=by
 unfold isB at h
 split at h
 ·rw [eq_of_beq h]
 ·cases h
theorem right_all:((List.range 9).all fun k=>(List.range 256).all fun m=>isB (run142 0 (k:Int) (m:Int)) (tright (k:Int) (m:Int)))=true:=by
 simp only [eq142]
 kernel_rfl
theorem a142 (n:Nat) (k x:Int) (hk:0≤k) (hx:0≤x) (hx2:x≤255):A142 n [.int .i64 k,.int .i64 x]=some [.bool (tright k x)]:=by
 show run142 n k x=_
 by_cases h9:k ≥ 9
 ·rw [eq142]
  simp [ZY,h9,tright]
 ·have h:=List.all_eq_true.1 right_all k.toNat (by simp; omega)
  have h:=List.all_eq_true.1 h x.toNat (by simp; omega)
  rw [Int.toNat_of_nonneg hk,Int.toNat_of_nonneg hx] at h
  have:=isB_eq h
  rw [eq142] at this ⊢
  exact this
theorem getE_map {α:Type} {f:α→AV} {l:List α} {i:Nat} (h:i<l.length):getE (l.map f) i=f l[i]:=by
 unfold getE
 simp [List.getD_eq_getElem?_getD,h]
def optO {R:Type} (e:R):Option (List Int)→Sum (List AV) R
 | none=>.inr e
 | some c=>.inl [.fs .u8 c]
theorem puts_no {R:Int→Int→Bool} {o:Opt} {l:List Opt} {b:List Int} (h:¬ (OptOk R o∧b.length+(optB o).length≤40)):puts R (o::l) b=none:=by rw [puts,if_neg h]
theorem puts_yes {R:Int→Int→Bool} {o:Opt} {l:List Opt} {b:List Int} (h:OptOk R o∧b.length+(optB o).length≤40):puts R (o::l) b=puts R l (b++optB o):=by rw [puts,if_pos h]
theorem pad4_step {b:List Int} (h:b.length % 4≠0):pad4 (b++[0])=pad4 b:=by
 unfold pad4
 rw [List.append_assoc,List.length_append]
 congr 1
 rw [show (4 - b.length % 4) % 4=(4 - (b.length+[(0:Int)].length) % 4) % 4+1 by simp; omega,List.replicate_succ]
 rfl
theorem pad4_end {b:List Int} (h:b.length % 4=0):pad4 b=b:=by
 unfold pad4
 rw [h]; simp
theorem a141 (n:Nat) (hn:2 ^ 63<n) (l:List Opt) (hl:l.length<2 ^ 44) (hb:∀ o∈l,o.data.length<2 ^ 44):A141 n [.fv s93 (l.map Opt.av)]=some [.fs .u8 (tcpOpts l).1,.int .i64 (tcpOpts l).2]:=by
 show run141 A142 n (l.map Opt.av)=_
 rw [eq141]
 refine jn_it' (fun s:Nat × List Int=>[.fs .u8 s.2,.fv s93 (l.map Opt.av),.int .i64 (Int.ofNat (l.map Opt.av).length),.int .i64 (s.1:Nat)]) (fun s=>l.length - s.1)
  (fun s=>optO [.fs .u8 [],.int .i64 97] (puts tright (l.drop s.1) s.2)) (fun s=>s.1≤l.length∧s.2.length≤40) (0,[]) (by show l.length - 0<n; omega) ⟨Nat.zero_le _,by simp⟩ (fun s K hs hK=>?_) ?_
 ·obtain ⟨i,b⟩:=s
  dsimp only at hs hK ⊢
  simp only [ZZ,List.length_map]
  by_cases hi:i<l.length
  ·have hd:l.drop i=l[i]::l.drop (i+1):=List.drop_eq_getElem_cons hi
   have hbi:=hb l[i] (List.getElem_mem hi)
   rw [brO_t (by simpa using hi),inR_nat hi,Int.toNat_natCast,getE_map hi,hd]
   generalize l[i]=o at hbi ⊢
   have hw:IntKind.wrap .i64 (2+(o.data.length:Int))=2+(o.data.length:Int):=wrap_id (by omega) (by omega)
   by_cases h1:o.kind<2
   ·rw [puts_no (fun h=>by have:=h.1.1; omega)]
    simp [ZY,h1,optO]
   by_cases h2:o.kind > 255
   ·rw [puts_no (fun h=>by have:=h.1.2.1; omega)]
    simp [ZY,h1,h2,optO]
   by_cases h3:2+(o.data.length:Int) > 40
   ·rw [puts_no (fun h=>by have:=h.1.2.2.1; omega)]
    simp [ZY,h1,h2,hw,h3,optO]
   have h142:=a142 n o.kind (2+(o.data.length:Int)) (by omega) (by omega) (by omega)
   cases h4:tright o.kind (2+(o.data.length:Int)) with
   | false=>
    rw [puts_no (fun h=>by have:=h.1.2.2.2; rw [h4] at this; cases this)]
    simp [ZY,h1,h2,hw,h3,h142,h4,optO]
   | true=>
    have hw2:IntKind.wrap .i64 ((b.length:Int)+(2+(o.data.length:Int)))=(b.length:Int)+(2+(o.data.length:Int)):=wrap_id (by omega) (by omega)
    by_cases h5:(b.length:Int)+(2+(o.data.length:Int)) > 40
    ·rw [puts_no (fun h=>by have:=h.2; rw [optB_len] at this; omega)]
     simp [ZY,h1,h2,hw,h3,h142,h4,hw2,h5,optO]
    ·have hyes:OptOk tright o∧b.length+(optB o).length≤40:=⟨⟨by omega,by omega,by omega,h4⟩,by rw [optB_len]; omega⟩
     rw [puts_yes hyes]
     have:=hK (i+1,b++optB o) (by show l.length - (i+1)<l.length - i; omega) ⟨by show i+1≤l.length; omega,by show (b++optB o).length≤40; rw [List.length_append]; exact hyes.2⟩
     dsimp only at this
     have hw3:IntKind.wrap .i64 ((i:Int)+1)=(i:Int)+1:=wrap_id (by omega) (by omega)
     have e1:o.kind % 256=o.kind:=by omega
     have e2:(2+(o.data.length:Int)) % 256=2+(o.data.length:Int):=by omega
     have b1:Nat.ble (b.length+2) 140737488355328=true:=ble_of (by omega)
     have b2:Nat.ble (b.length+(o.data.length+1+1)) 140737488355328=true:=ble_of (by omega)
     have b3:Nat.ble (b.length+(1+1)+o.data.length) 140737488355328=true:=ble_of (by omega)
     have b4:Nat.ble (b.length+2+o.data.length) 140737488355328=true:=ble_of (by omega)
     simp [ZY,h1,h2,hw,h3,h142,h4,hw2,h5,W8,e1,e2,hw3,b1,b2,b3,b4]
     refine ⟨by omega,by omega,Eq.trans (congrArg K ?_) this⟩
     simp [optB]
  ·have:i=l.length:=by omega
   subst this
   rw [brO_f (by simp),List.drop_length]
   rfl
 ·show jn (some (optO (R:=List AV) [AV.fs .u8 [],AV.int .i64 97] (puts tright (l.drop 0) []))) _=_
  rw [List.drop_zero]
  unfold tcpOpts
  cases hp:puts tright l [] with
  | none=>simp [ZZ,optO]
  | some b=>
   have hb40:=(puts_ok hp).2.2 (by simp)
   simp only [optO,ZZ]
   refine jn_it (fun b:List Int=>[.fs .u8 b]) (fun b=>(4 - b.length % 4) % 4) (fun b=>[.fs .u8 (pad4 b)]) (fun b=>b.length≤44) b (by show (4 - b.length % 4) % 4<n; omega) (by show b.length≤44; omega) (fun b K hb2 hK=>?_) ?_
   ·have e0:Int.tmod (b.length:Int) 4=((b.length % 4:Nat):Int):=by rw [Int.tmod_eq_emod_of_nonneg (by omega)]; omega
    simp only [ZZ,Int.ofNat_eq_natCast,e0]
    by_cases h0:b.length % 4=0
    ·rw [brO_f (by simp; omega),pad4_end h0]
    ·rw [brO_t (by simp; omega),brO_t (by simp; omega),hK (b++[0]) (by show (4 - (b++[(0:Int)]).length % 4) % 4<(4 - b.length % 4) % 4; rw [List.length_append]; simp; omega) (by show (b++[(0:Int)]).length≤44; rw [List.length_append]; simp; omega),pad4_step h0]
   ·rfl
theorem a140 (n:Nat) (hn:2 ^ 63<n) (t:Tcp) (hl:t.opts.length<2 ^ 44) (hb:∀ o∈t.opts,o.data.length<2 ^ 44) (hl2:t.data.length<2 ^ 44):A140 n [t.av]=some [.int .i64 (tcpCheck t)]:=by
 show run140 A141 A183 n t.av=_
 rw [eq140]
 unfold tcpCheck
 have h141:=a141 n hn t.opts hl hb
 by_cases c:tcpOut t
 ·rw [if_pos c]
  unfold tcpOut at c
  by_cases c1:t.sport<0∨t.sport > 65535
  ·simp [ZY,a183,c1]
  by_cases c2:t.dport<0∨t.dport > 65535
  ·simp [ZY,a183,c1,c2]
  by_cases c3:t.win<0∨t.win > 65535
  ·simp [ZY,a183,c1,c2,c3]
  by_cases c4:t.urg<0∨t.urg > 65535
  ·simp [ZY,a183,c1,c2,c3,c4]
  by_cases c5:t.seq<0∨t.seq > 4294967295
  ·simp [ZY,a183,c1,c2,c3,c4,c5]
  by_cases c6:t.ack<0∨t.ack > 4294967295
  ·simp [ZY,a183,c1,c2,c3,c4,c5,c6]
  ·have c7:t.flags<0∨t.flags > 255:=by omega
   simp [ZY,a183,c1,c2,c3,c4,c5,c6,c7]
 ·rw [if_neg c]
  unfold tcpOut at c
  have c1:¬ (t.sport<0∨t.sport > 65535):=by omega
  have c2:¬ (t.dport<0∨t.dport > 65535):=by omega
  have c3:¬ (t.win<0∨t.win > 65535):=by omega
  have c4:¬ (t.urg<0∨t.urg > 65535):=by omega
  have c5:¬ (t.seq<0∨t.seq > 4294967295):=by omega
  have c6:¬ (t.ack<0∨t.ack > 4294967295):=by omega
  have c7:¬ (t.flags<0∨t.flags > 255):=by omega
  have hle:=tcpOpts_le t.opts
  by_cases d1:(tcpOpts t.opts).2=0
  ·rw [if_neg (by simpa using d1)]
   have hw:IntKind.wrap .i64 (20+((tcpOpts t.opts).1.length:Int))=20+((tcpOpts t.opts).1.length:Int):=wrap_id (by omega) (by omega)
   have hw2:IntKind.wrap .i64 (20+((tcpOpts t.opts).1.length:Int)+(t.data.length:Int))=20+((tcpOpts t.opts).1.length:Int)+(t.data.length:Int):=wrap_id (by omega) (by omega)
   by_cases d2:20+(tcpOpts t.opts).1.length+t.data.length > 65535
   ·have d2' : 20+((tcpOpts t.opts).1.length:Int)+(t.data.length:Int) > 65535:=by omega
    rw [if_pos d2]
    simp [ZY,a183,c1,c2,c3,c4,c5,c6,c7,h141,d1,hw,hw2,d2']
   ·have d2' : ¬ 20+((tcpOpts t.opts).1.length:Int)+(t.data.length:Int) > 65535:=by omega
    rw [if_neg d2]
    simp [ZY,a183,c1,c2,c3,c4,c5,c6,c7,h141,d1,hw,hw2,d2']
  ·rw [if_pos (by simpa using d1)]
   simp [ZY,a183,c1,c2,c3,c4,c5,c6,c7,h141,d1]
theorem w123t (n:Nat):A123 (n+16) [.fs .i64 (wI [16,16,32,32,4,4,8,16,16,16])]=some [.int .i64 ((20:Nat):Int),.int .i64 0]:=by kernel_rfl
theorem a136t (n:Nat) (hn:2 ^ 63<n) (t:Tcp) (h:¬ tcpOut t) (k:Nat) (hk:k≤40):A136 n [.fs .i64 [16,16,32,32,4,4,8,16,16,16],.fs .i64 [t.sport,t.dport,t.seq,t.ack,(20+(k:Int)) / 4,0,t.flags,t.win,0,t.urg]]=some [.fs .u8 (mkB 20 (allB (tcpPs t k))),.int .i64 0]:=by
 obtain ⟨m,rfl⟩ : ∃ m,n=m+16:=⟨n - 16,by omega⟩
 exact a136 (m+16) (tcpPs t k) (tcpPs_ok h hk) 20 rfl (by decide) (by omega) (by show 10<m+16; omega) (by show 10≤64; omega) (w123t m)
theorem a93 (n:Nat) (hn:2 ^ 63<n) (src dst:Ip) (hs:src.Ok) (hd:dst.Ok) (t:Tcp) (hb:Bytes t.data) (ho:∀ o∈t.opts,Bytes o.data) (hl:t.opts.length<2 ^ 44) (hol:∀ o∈t.opts,o.data.length<2 ^ 44) (hl2:t.data.length<2 ^ 44):A93 n [src.av,dst.av,t.av]=some [.fs .u8 (tcpPut src dst t).1,.int .i64 (tcpPut src dst t).2]:=by
 show run93 A97 A136 A137 A139 A140 A141 n src.av dst.av t.av=_
 rw [eq93]
 unfold tcpPut
 have h140:=a140 n hn t hl hol hl2
 have h141:=a141 n hn t.opts hl hol
 by_cases hp:(pseudo src dst 0 0).2=0
 ·rw [if_neg (by simpa using hp)]
  by_cases hc:tcpCheck t=0
  ·rw [if_neg (by simpa using hc)]
   obtain ⟨c1,c2,c3⟩:=tcpCheck_ok hc
   have hle:=tcpOpts_le t.opts
   have h136:=a136t n hn t c1 (tcpOpts t.opts).1.length hle
   have hw:IntKind.wrap .i64 (20+((tcpOpts t.opts).1.length:Int))=20+((tcpOpts t.opts).1.length:Int):=wrap_id (by omega) (by omega)
   have hdv:Int.tdiv (20+((tcpOpts t.opts).1.length:Int)) 4=(20+((tcpOpts t.opts).1.length:Int)) / 4:=Int.tdiv_eq_ediv_of_nonneg (by omega)
   have hw2:IntKind.wrap .i64 ((20+((tcpOpts t.opts).1.length:Int)) / 4)=(20+((tcpOpts t.opts).1.length:Int)) / 4:=wrap_id (by omega) (by omega)
   have hH:(mkB 20 (allB (tcpPs t (tcpOpts t.opts).1.length))).length=20:=mkB_len _ _
   have hrl:=tcpRaw_len t
   have hrb:=tcpRaw_ok hb ho
   have hpo:=pseudo_ok hs hd 6 (tcpRaw t).length
   have hB:Bytes [(pseudo src dst 6 (tcpRaw t).length).1,tcpRaw t].flatten:=by
    simp only [List.flatten_cons,List.flatten_nil,List.append_nil]
    exact hpo.1.app hrb
   have h137:=a137 n [(pseudo src dst 6 (tcpRaw t).length).1,tcpRaw t] (fun p hp'=>by
    simp only [List.mem_cons,List.mem_nil_iff,or_false] at hp'
    rcases hp' with rfl | rfl
    ·exact ⟨hpo.1,by omega⟩
    ·exact ⟨hrb,by omega⟩) (by simp) hn hB
   rw [show fsL [(pseudo src dst 6 (tcpRaw t).length).1,tcpRaw t]=[.fs .u8 (pseudo src dst 6 (tcpRaw t).length).1,.fs .u8 (tcpRaw t)] from rfl] at h137
   simp only [List.flatten_cons,List.flatten_nil,List.append_nil] at h137
   have h139:=a139 n src dst 6 (tcpRaw t).length
   simp only [ZZ,a97,hp,show ((0:Int) == 0)=true from rfl,show ((0:Int) != 0)=false from rfl,h140,hc,h141,Int.ofNat_eq_natCast,hw,hdv,hw2,h136]
   rw [brO_t (ble_of (by omega)),brO_t (ble_of (by rw [List.length_append]; omega))]
   have hraw:mkB 20 (allB (tcpPs t (tcpOpts t.opts).1.length))++(tcpOpts t.opts).1++t.data=tcpRaw t:=rfl
   simp only [hraw,h139,ZZ,h137]
   rw [show inR 16 (tcpRaw t).length=true from inR_nat (i:=16) (by omega)]
   simp only [ZZ,List.length_set]
   rw [show inR 17 (tcpRaw t).length=true from inR_nat (i:=17) (by omega)]
   simp only [ZZ,hi8n,W8]
   rfl
  ·rw [if_pos (by simpa using hc)]
   simp only [ZZ,a97,hp,show ((0:Int) == 0)=true from rfl,h140]
   rw [brO_t (by simpa using hc)]
 ·rw [if_pos (by simpa using hp)]
  simp only [ZZ,a97]
  rw [brO_f (by simpa using hp)]
  simp only [ZZ]
  rw [brO_t (by simpa using hp)]
theorem a202 (n:Nat) (x h:Int):A202 n [.int .i64 x,.int .i64 h]=some [.bool (decide (x<0∨x > h))]:=by
 show run202 n x h=_
 rw [eq202]
 by_cases h0:x<0
 ·simp [ZY,h0]
 ·by_cases h1:x > h <;> simp [ZY,h0,h1]
theorem copy4 {a:List Int} (h:4≤a.length):copyL [0,0,0,0,0,0,0,0,0,0,0,0,0,0,0,0] 0 (a.take 4)=a4 a:=by
 match a,h with
 | x::y::z::w::r,_=>rfl
theorem a203 (n:Nat) (ip:Ip) (ok:ip.Ok):A203 n [ip.av]=some [.bool (decide (four ip))]:=by
 show run203 n ip.av=_
 rw [eq203]
 have hl:=ok.1
 have h1:(ip.a.take 4).length=4:=by rw [List.length_take]; omega
 have h2:copyL [0,0,0,0,0,0,0,0,0,0,0,0,0,0,0,0] 0 (List.take 4 (ip.a.take 4))=a4 ip.a:=by rw [List.take_take]; exact copy4 (by omega)
 simp only [ZZ,List.drop_zero,h1,h2,keq_arr]
 unfold four
 by_cases h4:ip.v=4
 ·by_cases ha:ip.a=a4 ip.a
  ·simp [ZY,h4,←ha]
  ·simp [ZY,h4,ha]
 ·simp [ZY,h4]
theorem a86 (n:Nat) (mf:Bool) (off k:Int) (h1:0≤off) (h2:off≤2 ^ 40) (h3:0≤k) (h4:k≤2 ^ 45):A86 n [.bool mf,.int .i64 off,.int .i64 k]=some [.int .i64 (frag4 mf off k)]:=by
 show run86 n mf off k=_
 rw [eq86]
 unfold frag4
 have hw:IntKind.wrap .i64 (off+k)=off+k:=wrap_id (by omega) (by omega)
 have hm:Int.tmod k 8=k % 8:=Int.tmod_eq_emod_of_nonneg h3
 by_cases hx:off+k > 65515
 ·cases mf with
  | false=>simp [ZY,hw,hx]
  | true=>
   by_cases h0:k=0
   ·subst h0; simp [ZY]
   ·by_cases h8:k % 8=0
    ·simp [ZY,hw,hx,hm,h0,h8]
    ·simp [ZY,hw,hx,hm,h0,h8]
 ·cases mf with
  | false=>simp [ZY,hw,hx]
  | true=>
   by_cases h0:k=0
   ·subst h0; simp [ZY]
   ·by_cases h8:k % 8=0
    ·simp [ZY,hw,hx,hm,h0,h8]
    ·simp [ZY,hw,hx,hm,h0,h8]
theorem a157 (n:Nat) (hn:2 ^ 63<n) (l:List Opt) (hl:l.length<2 ^ 44) (hb:∀ o∈l,o.data.length<2 ^ 44):A157 n [.fv s93 (l.map Opt.av)]=some [.fs .u8 (ip4Opts l).1,.int .i64 (ip4Opts l).2]:=by
 show run157 n (l.map Opt.av)=_
 rw [eq157]
 refine jn_it' (fun s:Nat × List Int=>[.fs .u8 s.2,.fv s93 (l.map Opt.av),.int .i64 (Int.ofNat (l.map Opt.av).length),.int .i64 (s.1:Nat)]) (fun s=>l.length - s.1)
  (fun s=>optO [.fs .u8 [],.int .i64 65] (puts any2 (l.drop s.1) s.2)) (fun s=>s.1≤l.length∧s.2.length≤40) (0,[]) (by show l.length - 0<n; omega) ⟨Nat.zero_le _,by simp⟩ (fun s K hs hK=>?_) ?_
 ·obtain ⟨i,b⟩:=s
  dsimp only at hs hK ⊢
  simp only [ZZ,List.length_map]
  by_cases hi:i<l.length
  ·have hd:l.drop i=l[i]::l.drop (i+1):=List.drop_eq_getElem_cons hi
   have hbi:=hb l[i] (List.getElem_mem hi)
   rw [brO_t (by simpa using hi),inR_nat hi,Int.toNat_natCast,getE_map hi,hd]
   generalize l[i]=o at hbi ⊢
   have hw:IntKind.wrap .i64 (2+(o.data.length:Int))=2+(o.data.length:Int):=wrap_id (by omega) (by omega)
   by_cases h1:o.kind<2
   ·rw [puts_no (fun h=>by have:=h.1.1; omega)]
    simp [ZY,h1,optO]
   by_cases h2:o.kind > 255
   ·rw [puts_no (fun h=>by have:=h.1.2.1; omega)]
    simp [ZY,h1,h2,optO]
   by_cases h3:(o.data.length:Int) > 38
   ·rw [puts_no (fun h=>by have:=h.1.2.2.1; omega)]
    simp [ZY,h1,h2,hw,h3,optO]
   cases h4:any2 o.kind (2+(o.data.length:Int)) with
   | false=>cases h4
   | true=>
    have hw2:IntKind.wrap .i64 ((b.length:Int)+2+(o.data.length:Int))=(b.length:Int)+2+(o.data.length:Int):=wrap_id (by omega) (by omega)
    have hw0:IntKind.wrap .i64 ((b.length:Int)+2)=(b.length:Int)+2:=wrap_id (by omega) (by omega)
    by_cases h5:(b.length:Int)+2+(o.data.length:Int) > 40
    ·rw [puts_no (fun h=>by have:=h.2; rw [optB_len] at this; omega)]
     simp [ZY,h1,h2,hw,h3,hw2,hw0,h5,optO]
    ·have hyes:OptOk any2 o∧b.length+(optB o).length≤40:=⟨⟨by omega,by omega,by omega,h4⟩,by rw [optB_len]; omega⟩
     rw [puts_yes hyes]
     have:=hK (i+1,b++optB o) (by show l.length - (i+1)<l.length - i; omega) ⟨by show i+1≤l.length; omega,by show (b++optB o).length≤40; rw [List.length_append]; exact hyes.2⟩
     dsimp only at this
     have hw3:IntKind.wrap .i64 ((i:Int)+1)=(i:Int)+1:=wrap_id (by omega) (by omega)
     have e1:o.kind % 256=o.kind:=by omega
     have e2:(2+(o.data.length:Int)) % 256=2+(o.data.length:Int):=by omega
     have b1:Nat.ble (b.length+2) 140737488355328=true:=ble_of (by omega)
     have b2:Nat.ble (b.length+(o.data.length+1+1)) 140737488355328=true:=ble_of (by omega)
     have b3:Nat.ble (b.length+(1+1)+o.data.length) 140737488355328=true:=ble_of (by omega)
     have b4:Nat.ble (b.length+2+o.data.length) 140737488355328=true:=ble_of (by omega)
     simp [ZY,h1,h2,hw,h3,hw2,hw0,h5,W8,e1,e2,hw3,b1,b2,b3,b4]
     refine ⟨by omega,by omega,Eq.trans (congrArg K ?_) this⟩
     simp [optB]
  ·have:i=l.length:=by omega
   subst this
   rw [brO_f (by simp),List.drop_length]
   rfl
 ·show jn (some (optO (R:=List AV) [AV.fs .u8 [],AV.int .i64 65] (puts any2 (l.drop 0) []))) _=_
  rw [List.drop_zero]
  unfold ip4Opts
  cases hp:puts any2 l [] with
  | none=>simp [ZZ,optO]
  | some b=>
   have hb40:=(puts_ok hp).2.2 (by simp)
   simp only [optO,ZZ]
   refine jn_it (fun b:List Int=>[.fs .u8 b]) (fun b=>(4 - b.length % 4) % 4) (fun b=>[.fs .u8 (pad4 b)]) (fun b=>b.length≤44) b (by show (4 - b.length % 4) % 4<n; omega) (by show b.length≤44; omega) (fun b K hb2 hK=>?_) ?_
   ·have e0:Int.tmod (b.length:Int) 4=((b.length % 4:Nat):Int):=by rw [Int.tmod_eq_emod_of_nonneg (by omega)]; omega
    simp only [ZZ,Int.ofNat_eq_natCast,e0]
    by_cases h0:b.length % 4=0
    ·rw [brO_f (by simp; omega),pad4_end h0]
    ·rw [brO_t (by simp; omega),brO_t (by simp; omega),hK (b++[0]) (by show (4 - (b++[(0:Int)]).length % 4) % 4<(4 - b.length % 4) % 4; rw [List.length_append]; simp; omega) (by show (b++[(0:Int)]).length≤44; rw [List.length_append]; simp; omega),pad4_step h0]
   ·rfl
theorem a155 (n:Nat) (hn:2 ^ 63<n) (h:Ip4) (hs:h.src.Ok) (hd:h.dst.Ok) (hl:h.opts.length<2 ^ 44) (hb:∀ o∈h.opts,o.data.length<2 ^ 44) (hl2:h.data.length<2 ^ 44):A155 n [h.av]=some [.int .i64 (ip4Check h)]:=by
 show run155 A86 A157 A202 A203 n h.av=_
 rw [eq155]
 unfold ip4Check
 have h157:=a157 n hn h.opts hl hb
 by_cases c:ip4Out h
 ·rw [if_pos c]
  unfold ip4Out at c
  by_cases c1:h.tos<0∨h.tos > 255
  ·simp [ZY,a202,c1]
  by_cases c2:h.id<0∨h.id > 65535
  ·simp [ZY,a202,c1,c2]
  by_cases c3:h.off<0∨h.off > 65528
  ·simp [ZY,a202,c1,c2,c3]
  have hm:Int.tmod h.off 8=h.off % 8:=Int.tmod_eq_emod_of_nonneg (by omega)
  by_cases c4:h.off % 8=0
  ·by_cases c5:h.ttl<0∨h.ttl > 255
   ·simp [ZY,a202,c1,c2,c3,c4,c5,hm]
   by_cases c6:h.proto<0∨h.proto > 255
   ·simp [ZY,a202,c1,c2,c3,c4,c5,c6,hm]
   by_cases c7:four h.src
   ·have c8:¬ four h.dst:=fun hx=>by
     rcases c with c | c | c | c | c | c | c | c | c | c | c | c | c
     all_goals first | omega | exact c c7 | exact c hx
    simp [ZY,a202,a203 n h.src hs,a203 n h.dst hd,c1,c2,c3,c4,c5,c6,c7,c8,hm]
   ·simp [ZY,a202,a203 n h.src hs,a203 n h.dst hd,c1,c2,c3,c4,c5,c6,c7,hm]
  ·simp [ZY,a202,c1,c2,c3,c4,hm]
 ·rw [if_neg c]
  unfold ip4Out at c
  have c1:¬ (h.tos<0∨h.tos > 255):=by omega
  have c2:¬ (h.id<0∨h.id > 65535):=by omega
  have c3:¬ (h.off<0∨h.off > 65528):=by omega
  have c4:h.off % 8=0:=by omega
  have c5:¬ (h.ttl<0∨h.ttl > 255):=by omega
  have c6:¬ (h.proto<0∨h.proto > 255):=by omega
  have c7:four h.src:=Decidable.byContradiction fun hx=>c (by simp [hx])
  have c8:four h.dst:=Decidable.byContradiction fun hx=>c (by simp [hx])
  have hm:Int.tmod h.off 8=h.off % 8:=Int.tmod_eq_emod_of_nonneg (by omega)
  have hle:=ip4Opts_le h.opts
  by_cases d1:(ip4Opts h.opts).2=0
  ·rw [if_neg (by simpa using d1)]
   have hw:IntKind.wrap .i64 (20+((ip4Opts h.opts).1.length:Int))=20+((ip4Opts h.opts).1.length:Int):=wrap_id (by omega) (by omega)
   have hw2:IntKind.wrap .i64 (20+((ip4Opts h.opts).1.length:Int)+(h.data.length:Int))=20+((ip4Opts h.opts).1.length:Int)+(h.data.length:Int):=wrap_id (by omega) (by omega)
   by_cases d2:20+(ip4Opts h.opts).1.length+h.data.length > 65535
   ·have d2' : 20+((ip4Opts h.opts).1.length:Int)+(h.data.length:Int) > 65535:=by omega
    rw [if_pos d2]
    simp [ZY,a202,a203 n h.src hs,a203 n h.dst hd,c1,c2,c3,c4,c5,c6,c7,c8,hm,h157,d1,hw,hw2,d2']
   ·have d2' : ¬ 20+((ip4Opts h.opts).1.length:Int)+(h.data.length:Int) > 65535:=by omega
    have h86:=a86 n h.mf h.off h.data.length (by omega) (by omega) (by omega) (by omega)
    rw [if_neg d2]
    simp [ZY,a202,a203 n h.src hs,a203 n h.dst hd,c1,c2,c3,c4,c5,c6,c7,c8,hm,h157,d1,hw,hw2,d2',h86]
  ·rw [if_pos (by simpa using d1)]
   simp [ZY,a202,a203 n h.src hs,a203 n h.dst hd,c1,c2,c3,c4,c5,c6,c7,c8,hm,h157,d1]
theorem w123f (n:Nat):A123 (n+16) [.fs .i64 (wI [4,4,8,16,16,1,1,1,13,8,8,16])]=some [.int .i64 ((12:Nat):Int),.int .i64 0]:=by kernel_rfl
theorem a136f (n:Nat) (hn:2 ^ 63<n) (h:Ip4) (c:¬ ip4Out h) (k:Nat) (hk:k≤40) (hl:20+k+h.data.length≤65535):A136 n [.fs .i64 [4,4,8,16,16,1,1,1,13,8,8,16],.fs .i64 [4,(20+(k:Int)) / 4,h.tos,20+(k:Int)+(h.data.length:Int),h.id,0,b2i h.df,b2i h.mf,h.off / 8,h.ttl,h.proto,0]]=some [.fs .u8 (mkB 12 (allB (ip4Ps h k))),.int .i64 0]:=by
 obtain ⟨m,rfl⟩ : ∃ m,n=m+16:=⟨n - 16,by omega⟩
 exact a136 (m+16) (ip4Ps h k) (ip4Ps_ok c hk hl) 12 rfl (by decide) (by omega) (by show 12<m+16; omega) (by show 12≤64; omega) (w123f m)
theorem a109 (n:Nat) (hn:2 ^ 63<n) (h:Ip4) (hs:h.src.Ok) (hd:h.dst.Ok) (ho:∀ o∈h.opts,Bytes o.data) (hl:h.opts.length<2 ^ 44) (hb:∀ o∈h.opts,o.data.length<2 ^ 44) (hl2:h.data.length<2 ^ 44):A109 n [h.av]=some [.fs .u8 (ip4Put h).1,.int .i64 (ip4Put h).2]:=by
 show run109 A136 A137 A155 A157 A158 n h.av=_
 rw [eq109]
 have h155:=a155 n hn h hs hd hl hb hl2
 have h157:=a157 n hn h.opts hl hb
 unfold ip4Put
 by_cases hc:ip4Check h=0
 ·rw [if_neg (by simpa using hc)]
  obtain ⟨c1,c2,c3,c4⟩:=ip4Check_ok hc
  have hle:=ip4Opts_le h.opts
  have h136:=a136f n hn h c1 (ip4Opts h.opts).1.length hle c3
  have hoff:0≤h.off∧h.off≤65528:=by unfold ip4Out at c1; omega
  have hw:IntKind.wrap .i64 (20+((ip4Opts h.opts).1.length:Int))=20+((ip4Opts h.opts).1.length:Int):=wrap_id (by omega) (by omega)
  have hdv:Int.tdiv (20+((ip4Opts h.opts).1.length:Int)) 4=(20+((ip4Opts h.opts).1.length:Int)) / 4:=Int.tdiv_eq_ediv_of_nonneg (by omega)
  have hw2:IntKind.wrap .i64 ((20+((ip4Opts h.opts).1.length:Int)) / 4)=(20+((ip4Opts h.opts).1.length:Int)) / 4:=wrap_id (by omega) (by omega)
  have hw3:IntKind.wrap .i64 (20+((ip4Opts h.opts).1.length:Int)+(h.data.length:Int))=20+((ip4Opts h.opts).1.length:Int)+(h.data.length:Int):=wrap_id (by omega) (by omega)
  have hdv2:Int.tdiv h.off 8=h.off / 8:=Int.tdiv_eq_ediv_of_nonneg (by omega)
  have hw4:IntKind.wrap .i64 (h.off / 8)=h.off / 8:=wrap_id (by omega) (by omega)
  have hrl:=ip4Raw_len hs hd
  have hrb:=ip4Raw_ok hs hd ho
  have hH:(mkB 12 (allB (ip4Ps h (ip4Opts h.opts).1.length))).length=12:=mkB_len _ _
  have h137:=a137 n [ip4Raw h] (fun p hp'=>by
    simp only [List.mem_cons,List.mem_nil_iff,or_false] at hp'
    subst hp'
    exact ⟨hrb,by omega⟩) (by simp) hn (by simpa using hrb)
  rw [show fsL [ip4Raw h]=[.fs .u8 (ip4Raw h)] from rfl] at h137
  simp only [List.flatten_cons,List.flatten_nil,List.append_nil] at h137
  have hf:∀ b:Bool,(if b=true then (1:Int) else 0)=b2i b:=fun b=>rfl
  have ls:(h.src.a.take 4).length≤4:=by rw [List.length_take]; omega
  have ld:(h.dst.a.take 4).length≤4:=by rw [List.length_take]; omega
  simp only [ZZ,h155,hc,h157,a158,Int.ofNat_eq_natCast,hw,hdv,hw2,hw3,hdv2,hw4,hf,h136,show ((0:Int) != 0)=false from rfl,List.drop_zero]
  rw [brO_t (ble_of (by omega)),brO_t (ble_of (by rw [List.length_append]; omega)),brO_t (ble_of (by rw [List.length_append,List.length_append]; omega))]
  have hraw:mkB 12 (allB (ip4Ps h (ip4Opts h.opts).1.length))++h.src.a.take 4++h.dst.a.take 4++(ip4Opts h.opts).1=ip4Raw h:=rfl
  simp only [hraw,ZZ,h137]
  rw [show inR 10 (ip4Raw h).length=true from inR_nat (i:=10) (by omega)]
  simp only [ZZ,List.length_set]
  rw [show inR 11 (ip4Raw h).length=true from inR_nat (i:=11) (by omega)]
  simp only [ZZ,hi8n,W8]
  rw [brO_t (ble_of (by omega))]
  rfl
 ·rw [if_pos (by simpa using hc)]
  simp only [ZZ,h155]
  rw [brO_t (by simpa using hc)]
theorem low1 {x:Int} (h1:0≤x) (h2:x≤255):IntKind.wrap .u8 (Int.ofNat (BitVec.toNat ((BitVec.ofInt 8 x) &&& (BitVec.ofInt 8 1))))=x % 2:=by
 have:=byte_bit h1 h2 (s:=0) (by decide)
 rw [show (2:Int) ^ (0:Nat)=1 from rfl,Int.fdiv_one,Int.ediv_one] at this
 exact this
theorem a77 (n:Nat) (m:List Int) (h:Bytes m):A77 n [.arr .u8 6 m]=some [.bool (decide (group m))]:=by
 show run77 n m=_
 have hg:=h.get 0
 rw [eq77,low1 hg.1 hg.2]
 unfold group
 by_cases h0:getI m 0 % 2=1 <;> simp [h0]
theorem a79 (n:Nat) (x:Int):A79 n [.int .i64 x]=some [.bool (decide (isTag x))]:=by
 show run79 n x=_
 rw [eq79]
 unfold isTag
 by_cases h:x=33024
 ·simp [ZY,h]
 ·by_cases h2:x=34984 <;> simp [ZY,h,h2]
def badFrom:Nat→List Tag→Bool
 | _,[]=>false
 | i,t::l=>(!decide (isTag t.tpid) || (decide (i=1) && t.tpid != 33024)) || badFrom (i+1) l
theorem badFrom_ok {l:List Tag} (h:l.length≤2):badFrom 0 l = !decide (tagsOk l):=by
 match l,h with
 | [],_=>rfl
 | [t],_=>
  have:tagsOk [t]↔isTag t.tpid:=Iff.rfl
  simp [badFrom,this]
 | [t,u],_=>
  have:tagsOk [t,u]↔isTag t.tpid∧u.tpid=33024:=Iff.rfl
  have h3:u.tpid=33024→isTag u.tpid:=fun h=>.inl h
  by_cases h1:isTag t.tpid
  ·by_cases h2:u.tpid=33024
   ·simp [badFrom,this,h1,h2,h3 h2]
    rw [←h2]; exact h3 h2
   ·simp [badFrom,this,h1,h2]
  ·simp [badFrom,this,h1]
def tagsAll (l:List Tag):Bool:=l.all fun t=>decide (tagOk t)
theorem tagsAll_ok (l:List Tag):tagsAll l=true↔∀ t∈l,tagOk t:=by unfold tagsAll; simp
theorem a63 (n:Nat) (hn:2 ^ 63<n) (f:Frm) (hs:Bytes f.src) (hl:f.data.length<2 ^ 44) (ht:f.tags.length<2 ^ 44):A63 n [f.av]=some [.int .i64 (linkCheck f)]:=by
 show run63 A77 A79 n f.av=_
 rw [eq63]
 unfold linkCheck
 have h77:=a77 n f.src hs
 by_cases h1:group f.src
 ·simp [ZY,h77,h1]
 rw [if_neg h1]
 by_cases h2:f.tags.length > 2
 ·have h2' : (f.tags.length:Int) > 2:=by omega
  have h3:¬ tagsOk f.tags:=by
   intro hx
   match h4:f.tags,hx with
   | [],_=>rw [h4] at h2; simp at h2
   | [t],_=>rw [h4] at h2; simp at h2
   | [t,u],_=>rw [h4] at h2; simp at h2
  rw [if_pos h3]
  simp [ZY,h77,h1,h2']
 have h2' : ¬ (f.tags.length:Int) > 2:=by omega
 simp only [ZZ,h77,h1,decide_false,List.length_map,Int.ofNat_eq_natCast]
 rw [brO_f (by simpa using h2')]
 refine jn_it' (fun i:Nat=>[f.av,.fv s79 (f.tags.map Tag.av),.int .i64 (f.tags.length:Nat),.int .i64 (i:Nat)]) (fun i=>f.tags.length - i)
  (fun i=>if badFrom i (f.tags.drop i)=true then .inr [.int .i64 51] else .inl [f.av]) (fun i=>i≤f.tags.length) 0 (by show f.tags.length - 0<n; omega) (Nat.zero_le _) (fun i K hi hK=>?_) ?_
 ·simp only [ZZ,List.length_map]
  by_cases hi2:i<f.tags.length
  ·have hd:f.tags.drop i=f.tags[i]::f.tags.drop (i+1):=List.drop_eq_getElem_cons hi2
   have hw:IntKind.wrap .i64 ((i:Int)+1)=((i+1:Nat):Int):=by rw [wrap_id (by omega) (by omega)]; omega
   have hK1:=hK (i+1) (by show f.tags.length - (i+1)<f.tags.length - i; omega) (by show i+1≤f.tags.length; omega)
   rw [brO_t (by simpa using hi2),inR_nat hi2,Int.toNat_natCast,getE_map hi2,hd]
   generalize f.tags[i]=t
   rw [badFrom]
   by_cases c1:isTag t.tpid
   ·by_cases c2:i=1
    ·by_cases c3:t.tpid=33024
     ·subst c2
      have h33:isTag 33024:=.inl rfl
      have w2:IntKind.wrap .i64 (2:Int)=2:=by decide
      simp [ZY,a79,c1,c3,h33,w2]
      simpa using hK1
     ·simp [ZY,a79,c1,c2,c3]
    ·have c2' : ¬ ((i:Int)=1):=by omega
     simp [ZY,a79,c1,c2,c2',hw]
     simpa using hK1
   ·simp [ZY,a79,c1]
  ·have:i=f.tags.length:=by omega
   subst this
   rw [brO_f (by simp),List.drop_length]
   rfl
 ·rw [List.drop_zero,badFrom_ok (by omega)]
  by_cases h3:tagsOk f.tags
  ·rw [if_neg (by simpa using h3),if_neg (by simpa using h3)]
   simp only [ZZ,List.length_map,Int.ofNat_eq_natCast]
   refine jn_it' (fun i:Nat=>[f.av,.fv s79 (f.tags.map Tag.av),.int .i64 (f.tags.length:Nat),.int .i64 (i:Nat)]) (fun i=>f.tags.length - i)
    (fun i=>if tagsAll (f.tags.drop i)=true then .inl [f.av] else .inr [.int .i64 52]) (fun i=>i≤f.tags.length) 0 (by show f.tags.length - 0<n; omega) (Nat.zero_le _) (fun i K hi hK=>?_) ?_
   ·simp only [ZZ,List.length_map]
    by_cases hi2:i<f.tags.length
    ·have hd:f.tags.drop i=f.tags[i]::f.tags.drop (i+1):=List.drop_eq_getElem_cons hi2
     have hw:IntKind.wrap .i64 ((i:Int)+1)=((i+1:Nat):Int):=by rw [wrap_id (by omega) (by omega)]; omega
     have hK1:=hK (i+1) (by show f.tags.length - (i+1)<f.tags.length - i; omega) (by show i+1≤f.tags.length; omega)
     rw [brO_t (by simpa using hi2),inR_nat hi2]
     simp only [Int.toNat_natCast,getE_map hi2]
     rw [hd]
     generalize f.tags[i]=t
     have hall:tagsAll (t::f.tags.drop (i+1))=(decide (tagOk t) && tagsAll (f.tags.drop (i+1))):=rfl
     rw [hall]
     by_cases c:tagOk t
     ·rw [decide_eq_true c,Bool.true_and]
      unfold tagOk at c
      have c1:¬ t.pcp<0:=by omega
      have c2:¬ t.pcp > 7:=by omega
      have c3:¬ t.vid<0:=by omega
      have c4:¬ t.vid > 4094:=by omega
      simp only [ZZ,c1,c2,c3,c4,decide_false,hw]
      exact hK1
     ·rw [decide_eq_false c,Bool.false_and,if_neg (by decide)]
      unfold tagOk at c
      by_cases c1:t.pcp<0
      ·simp [ZY,c1]
      by_cases c2:t.pcp > 7
      ·simp [ZY,c1,c2]
      by_cases c3:t.vid<0
      ·simp [ZY,c1,c2,c3]
      ·have c4:t.vid > 4094:=by omega
       simp [ZY,c1,c2,c3,c4]
    ·have:i=f.tags.length:=by omega
     subst this
     rw [brO_f (by simp),List.drop_length]
     rfl
   ·rw [List.drop_zero]
    by_cases h4:∀ t∈f.tags,tagOk t
    ·rw [if_pos ((tagsAll_ok _).2 h4),if_neg (by simpa using h4)]
     have hw1:IntKind.wrap .i64 (4 * (f.tags.length:Int))=4 * (f.tags.length:Int):=wrap_id (by omega) (by omega)
     have hw2:IntKind.wrap .i64 (14+4 * (f.tags.length:Int))=14+4 * (f.tags.length:Int):=wrap_id (by omega) (by omega)
     have hw3:IntKind.wrap .i64 (14+4 * (f.tags.length:Int)+(f.data.length:Int))=14+4 * (f.tags.length:Int)+(f.data.length:Int):=wrap_id (by omega) (by omega)
     by_cases h5:typeOk f.type
     ·rw [if_neg (by simpa using h5)]
      unfold typeOk at h5
      have c1:¬ f.type<1536:=by omega
      have c2:¬ f.type > 65535:=by omega
      have c3:¬ isTag f.type:=h5.2.2
      by_cases h6:14+4 * f.tags.length+f.data.length > 65535
      ·have h6' : 14+4 * (f.tags.length:Int)+(f.data.length:Int) > 65535:=by omega
       simp [ZY,c1,c2,c3,a79,hw1,hw2,hw3,h6,h6']
      ·have h6' : ¬ 14+4 * (f.tags.length:Int)+(f.data.length:Int) > 65535:=by omega
       simp [ZY,c1,c2,c3,a79,hw1,hw2,hw3,h6,h6']
     ·rw [if_pos (by simpa using h5)]
      unfold typeOk at h5
      by_cases c1:f.type<1536
      ·simp [ZY,c1]
      by_cases c2:f.type > 65535
      ·simp [ZY,c1,c2]
      have c3:isTag f.type:=Decidable.byContradiction fun h=>h5 ⟨by omega,by omega,h⟩
      simp [ZY,c1,c2,c3,a79]
    ·rw [if_neg (fun h=>h4 ((tagsAll_ok _).1 h)),if_pos h4]
     simp only [ZZ]
  ·rw [if_pos (by simpa using h3),if_pos (by simpa using h3)]
   simp only [ZZ]
theorem a111 (n:Nat) (b:List Int) (x:Int) (h:b.length<2 ^ 45):A111 n [.fs .u8 b,.int .i64 x]=some [.fs .u8 (b++word x)]:=by
 show run111 n b x=_
 rw [eq111,brO_t (ble_of (by omega))]
 simp only [hi8,W8]
 rfl
theorem a68 (n:Nat) (b:List Int) (h:b≠[]) (hl:b.length<2 ^ 45):A68 n [.fs .u8 b]=some [.fs .u8 b]:=by
 show run68 n b=_
 have he:b.isEmpty=false:=by cases b with
  | nil=>exact absurd rfl h
  | cons x l=>rfl
 rw [eq68,he]
 simp only [ZZ]
 rw [brO_t (ble_of (by omega))]
theorem or_vid {q v:Int} (h1:0≤q) (h2:q≤7) (h3:0≤v) (h4:v≤4094):IntKind.wrap .i64 (Int.ofNat (BitVec.toNat ((BitVec.ofInt 64 (q * 8192+v)) ||| (BitVec.ofInt 64 4096))))=q * 8192+4096+v:=by
 obtain ⟨a,rfl⟩:=Int.eq_ofNat_of_zero_le h1
 obtain ⟨b,rfl⟩:=Int.eq_ofNat_of_zero_le h3
 have e:BitVec.toNat ((BitVec.ofInt 64 ((a:Int) * 8192+(b:Int))) ||| (BitVec.ofInt 64 4096))=a * 8192+4096+b:=by
  rw [show ((a:Int) * 8192+(b:Int))=((a * 8192+b:Nat):Int) by omega,show (4096:Int)=((4096:Nat):Int) from rfl,BitVec.toNat_or,toNat_ofInt64 (by omega),toNat_ofInt64 (by omega)]
  have e1:a * 8192+b=2 ^ 13 * a ||| b:=by rw [←Nat.two_pow_add_eq_or_of_lt (by omega)]; omega
  have e2:b ||| 4096=4096+b:=by rw [Nat.or_comm,show (4096:Nat)=2 ^ 12 * 1 from rfl,←Nat.two_pow_add_eq_or_of_lt (by omega)]
  rw [e1,Nat.or_assoc,e2,←Nat.two_pow_add_eq_or_of_lt (by omega)]
  omega
 rw [e]
 have:((a * 8192+4096+b:Nat):Int)=(a:Int) * 8192+4096+(b:Int):=by omega
 exact (wrap_id (x:=((a * 8192+4096+b:Nat):Int)) (by omega) (by omega)).trans this
theorem shl13 (x:Int):x * (Int.ofNat (2 ^ (Min.min (Int.toNat 13) (IntKind.bits .i64))))=x * 8192:=by
 have:(Int.ofNat (2 ^ (Min.min (Int.toNat 13) (IntKind.bits .i64))))=8192:=by decide
 rw [this]
theorem shl13n (x:Int):x * ((2 ^ (Min.min (Int.toNat 13) (IntKind.bits .i64)):Nat):Int)=x * 8192:=shl13 x
theorem a67 (n:Nat) (hn:2 ^ 63<n) (f:Frm) (hs:f.src.length=6∧Bytes f.src) (hd:f.dst.length=6) (hl:f.data.length<2 ^ 44) (ht:f.tags.length<2 ^ 44):A67 n [f.av]=some [.fs .u8 (linkPut f).1,.int .i64 (linkPut f).2]:=by
 show run67 A63 A68 A111 n f.av=_
 rw [eq67]
 have h63:=a63 n hn f hs.2 hl ht
 unfold linkPut
 by_cases hc:linkCheck f=0
 ·rw [if_neg (by simpa using hc)]
  obtain ⟨c1,c2,c3,c4,c5⟩:=linkCheck_ok hc
  have h2:f.tags.length≤2:=by
   match h4:f.tags,c2 with
   | [],_=>simp
   | [t],_=>simp
   | [t,u],_=>simp
  have ed:List.take 6 (List.drop 0 f.dst)=f.dst:=by rw [List.drop_zero,List.take_of_length_le (by omega)]
  have es:List.take 6 (List.drop 0 f.src)=f.src:=by rw [List.drop_zero,List.take_of_length_le (by omega)]
  have h68:=a68 n f.dst (fun h=>by rw [h] at hd; simp at hd) (by omega)
  simp only [ZZ,h63,hc,show ((0:Int) != 0)=false from rfl,ed,es,h68,List.length_map,Int.ofNat_eq_natCast]
  rw [brO_t (ble_of (by omega))]
  have e0:f.dst++f.src=f.dst++f.src++(f.tags.take 0).flatMap tagB:=by simp
  rw [e0]
  refine jn_it (fun i:Nat=>[f.av,.fs .u8 (f.dst++f.src++(f.tags.take i).flatMap tagB),.fv s79 (f.tags.map Tag.av),.int .i64 (f.tags.length:Nat),.int .i64 (i:Nat)]) (fun i=>f.tags.length - i)
   (fun _=>[f.av,.fs .u8 (f.dst++f.src++f.tags.flatMap tagB)]) (fun i=>i≤f.tags.length) 0 (by show f.tags.length - 0<n; omega) (Nat.zero_le _) (fun i K hi hK=>?_) ?_
  ·simp only [ZZ,List.length_map]
   by_cases hi2:i<f.tags.length
   ·have hw:IntKind.wrap .i64 ((i:Int)+1)=((i+1:Nat):Int):=by rw [wrap_id (by omega) (by omega)]; omega
    have hK1:=hK (i+1) (by show f.tags.length - (i+1)<f.tags.length - i; omega) (by show i+1≤f.tags.length; omega)
    have hto:=c3 f.tags[i] (List.getElem_mem hi2)
    rw [brO_t (by simpa using hi2),inR_nat hi2]
    simp only [Int.toNat_natCast,getE_map hi2]
    rw [List.take_succ_eq_append_getElem hi2,List.flatMap_append,←List.append_assoc] at hK1
    have hbl:(f.dst++f.src++(f.tags.take i).flatMap tagB).length<2 ^ 44:=by
     have:((f.tags.take i).flatMap tagB).length=4 * i:=by
      have h1:∀ l:List Tag,(l.flatMap tagB).length=4 * l.length:=fun l=>by
       induction l with
       | nil=>rfl
       | cons t l ih=>rw [List.flatMap_cons,List.length_append,ih,List.length_cons]; simp [tagB,word]; omega
      rw [h1,List.length_take]; omega
     simp only [List.length_append,this]; omega
    generalize f.dst++f.src++(f.tags.take i).flatMap tagB=b at hbl hK1 ⊢
    generalize f.tags[i]=t at hto hK1 ⊢
    unfold tagOk at hto
    have w1:IntKind.wrap .i64 (t.pcp * 8192)=t.pcp * 8192:=wrap_id (by omega) (by omega)
    have w2:IntKind.wrap .i64 ((BitVec.toNat ((BitVec.ofInt 64 (t.pcp * 8192)) ||| (BitVec.ofInt 64 t.vid)):Nat):Int)=t.pcp * 8192+t.vid:=(congrArg (IntKind.wrap .i64) (or_add (x:=t.pcp * 8192) (y:=t.vid) 12 (by omega) (by omega) (by omega) (by omega) (by omega) (by omega))).trans (wrap_id (by omega) (by omega))
    have w3:IntKind.wrap .i64 ((BitVec.toNat ((BitVec.ofInt 64 (t.pcp * 8192+t.vid)) ||| (BitVec.ofInt 64 4096)):Nat):Int)=t.pcp * 8192+4096+t.vid:=or_vid hto.1 hto.2.1 hto.2.2.1 hto.2.2.2
    have h1:=a111 n b t.tpid (by omega)
    cases hde:t.dei with
    | true=>
     have e:tagW t=t.pcp * 8192+4096+t.vid:=by unfold tagW; rw [hde,if_pos rfl]
     have h2:=a111 n (b++word t.tpid) (tagW t) (by rw [List.length_append]; simp [word]; omega)
     rw [e] at h2
     simp only [ZZ,shl13n,w1,w2,w3,hde,h1,h2,hw]
     refine Eq.trans (congrArg K ?_) hK1
     simp [tagB,e]
    | false=>
     have e:tagW t=t.pcp * 8192+t.vid:=by unfold tagW; rw [hde,if_neg (by decide)]; omega
     have h2:=a111 n (b++word t.tpid) (tagW t) (by rw [List.length_append]; simp [word]; omega)
     rw [e] at h2
     simp only [ZZ,shl13n,w1,w2,w3,hde,h1,h2,hw]
     refine Eq.trans (congrArg K ?_) hK1
     simp [tagB,e]
   ·have:i=f.tags.length:=by omega
    subst this
    rw [brO_f (by simp),List.take_length]
  ·have hfl:(f.tags.flatMap tagB).length=4 * f.tags.length:=by
    generalize f.tags=l
    induction l with
    | nil=>rfl
    | cons t l ih=>rw [List.flatMap_cons,List.length_append,ih,List.length_cons]; simp [tagB,word]; omega
   have hbl:(f.dst++f.src++f.tags.flatMap tagB).length<2 ^ 44:=by simp only [List.length_append,hfl]; omega
   have h1:=a111 n (f.dst++f.src++f.tags.flatMap tagB) f.type (by omega)
   have hb3:(f.dst++f.src++f.tags.flatMap tagB++word f.type).length=(f.dst++f.src++f.tags.flatMap tagB).length+2:=List.length_append
   simp only [ZZ,h1]
   rw [brO_t (ble_of (by rw [hb3]; omega))]
   rfl
 ·rw [if_pos (by simpa using hc)]
  simp only [ZZ,h63]
  rw [brO_t (by simpa using hc)]
theorem keq_arr6 (a b:List Int):keq (.arr .u8 6 a) (.arr .u8 6 b)=decide (a=b):=by
 show (IntKind.u8 == IntKind.u8 && (Nat.beq 6 6 && a == b))=_
 rw [show (IntKind.u8 == IntKind.u8)=true from rfl,show Nat.beq 6 6=true from rfl,Bool.true_and,Bool.true_and]
 rw [Bool.eq_iff_iff]; simp
theorem a82 (n:Nat) (op:Int) (m:List Int) (h:Bytes m):A82 n [.int .i64 op,.arr .u8 6 m]=some [.int .i64 (arpCheck op m)]:=by
 show run82 A77 n op m=_
 rw [eq82]
 unfold arpCheck
 have h77:=a77 n m h
 have hk:keq (.arr .u8 6 m) (.arr .u8 6 [0,0,0,0,0,0])=decide (m=zeroMac):=keq_arr6 m zeroMac
 by_cases h1:op=1
 ·by_cases hg:group m
  ·simp [ZY,h1,h77,hg]
  ·by_cases hz:m=zeroMac
   ·subst hz
    simp [ZY,h1,h77,hg,hk]
   ·simp [ZY,h1,h77,hg,hk,hz]
 ·by_cases h2:op=2
  ·by_cases hg:group m
   ·simp [ZY,h1,h2,h77,hg]
   ·by_cases hz:m=zeroMac
    ·subst hz
     simp [ZY,h1,h2,h77,hg,hk]
    ·simp [ZY,h1,h2,h77,hg,hk,hz]
  ·simp [ZY,h1,h2]
theorem a81 (n:Nat) (b:List Int) (h:4≤b.length):A81 n [.fs .u8 b]=some [Ip.av ⟨4,a4 b⟩]:=by
 show run81 n b=_
 rw [eq81,show inR 0 b.length=true from inR_nat (i:=0) (by omega),show inR 1 b.length=true from inR_nat (i:=1) (by omega),show inR 2 b.length=true from inR_nat (i:=2) (by omega),show inR 3 b.length=true from inR_nat (i:=3) (by omega)]
 rfl
theorem keq_four {ip:Ip}:keq ip.av (Ip.av ⟨4,a4 ip.a⟩)=decide (four ip):=by
 obtain ⟨v,a⟩:=ip
 unfold four
 simp only [Ip.av,keq,keqs]
 rw [Bool.eq_iff_iff]
 simp
 exact decide_eq_true_iff.symm
theorem a4_take {a:List Int}:a4 (a.take 4)=a4 a:=a4_ext (fun i hi=>getI_take hi)
theorem a106 (n:Nat) (hn:2 ^ 63<n) (a:Arp) (hs:a.smac.length=6∧Bytes a.smac) (ht:a.tmac.length=6) (h1:a.sip.Ok) (h2:a.tip.Ok):A106 n [a.av]=some [.fs .u8 (arpPut a).1,.int .i64 (arpPut a).2]:=by
 show run106 A81 A82 A111 n a.av=_
 rw [eq106]
 have h82:=a82 n a.op a.smac hs.2
 unfold arpPut
 by_cases hc:arpCheck a.op a.smac=0
 ·rw [if_neg (by simpa using hc)]
  have l1:=h1.1
  have l2:=h2.1
  have e1:=a81 n (a.sip.a.take 4) (by rw [List.length_take]; omega)
  have e2:=a81 n (a.tip.a.take 4) (by rw [List.length_take]; omega)
  rw [a4_take] at e1 e2
  simp only [ZZ,h82,hc,show ((0:Int) != 0)=false from rfl]
  refine jn_it' (fun i:Nat=>[a.av,.agg [a.sip.av,a.tip.av],.int .i64 (i:Nat)]) (fun i=>2 - i)
   (fun i=>if (i=0∧¬ four a.sip)∨(i≤1∧¬ four a.tip) then .inr [.fs .u8 [],.int .i64 20] else .inl [a.av]) (fun i=>i≤2) 0 (by show 2 - 0<n; omega) (by decide) (fun i K hi hK=>?_) ?_
  ·obtain rfl | rfl | rfl:i=0∨i=1∨i=2:=by have:i≤2:=hi; omega
   ·have hK1:=hK 1 (by decide) (by decide)
    have w:IntKind.wrap .i64 ((0:Int)+1)=1:=by decide
    have g0:getE [a.sip.av,a.tip.av] 0=a.sip.av:=rfl
    have n0:Int.toNat ((0:Nat):Int)=0:=rfl
    have i0:AV.item (.agg [a.sip.av,a.tip.av]) 0=a.sip.av:=rfl
    have i1:AV.item (.agg [a.sip.av,a.tip.av]) 1=a.tip.av:=rfl
    by_cases c:four a.sip
    ·have r:(if (0=0∧¬ four a.sip)∨(0≤1∧¬ four a.tip) then (Sum.inr [.fs .u8 [],.int .i64 20]:Sum (List AV) (List AV)) else .inl [a.av])=(if (1=0∧¬ four a.sip)∨(1≤1∧¬ four a.tip) then (Sum.inr [.fs .u8 [],.int .i64 20]:Sum (List AV) (List AV)) else .inl [a.av]):=by simp [c]
     rw [r,←hK1]
     simp only [ZZ]
     rw [brO_t (by rfl),show inR ((0:Nat):Int) 2=true from rfl]
     simp only [ZZ,i0,i1,n0,List.drop_zero,e1,keq_four,c,decide_true,Bool.not_true,show (((0:Nat):Int)+1)=((1:Nat):Int) from rfl,show IntKind.wrap .i64 ((1:Nat):Int)=((1:Nat):Int) from w]
    ·rw [if_pos (.inl ⟨rfl,c⟩)]
     simp only [ZZ]
     rw [brO_t (by rfl),show inR ((0:Nat):Int) 2=true from rfl]
     simp only [ZZ,i0,i1,n0,List.drop_zero,e1,keq_four,c,decide_false,Bool.not_false]
   ·have hK1:=hK 2 (by decide) (by decide)
    have w:IntKind.wrap .i64 ((1:Int)+1)=2:=by decide
    have n0:Int.toNat ((1:Nat):Int)=1:=rfl
    have i0:AV.item (.agg [a.sip.av,a.tip.av]) 0=a.sip.av:=rfl
    have i1:AV.item (.agg [a.sip.av,a.tip.av]) 1=a.tip.av:=rfl
    by_cases c:four a.tip
    ·rw [if_neg (by simp [c])]
     rw [if_neg (by simp)] at hK1
     rw [←hK1]
     simp only [ZZ]
     rw [brO_t (by rfl),show inR ((1:Nat):Int) 2=true from rfl]
     simp only [ZZ,i0,i1,n0,List.drop_zero,e2,keq_four,c,decide_true,Bool.not_true,show (((1:Nat):Int)+1)=((2:Nat):Int) from rfl,show IntKind.wrap .i64 ((2:Nat):Int)=((2:Nat):Int) from w]
    ·rw [if_pos (.inr ⟨by decide,c⟩)]
     simp only [ZZ]
     rw [brO_t (by rfl),show inR ((1:Nat):Int) 2=true from rfl]
     simp only [ZZ,i0,i1,n0,List.drop_zero,e2,keq_four,c,decide_false,Bool.not_false]
   ·rw [if_neg (by simp)]
    simp only [ZZ]
    rw [brO_f (by rfl)]
  ·by_cases c:¬ four a.sip∨¬ four a.tip
   ·rw [if_pos (by rcases c with c | c
                   ·exact .inl ⟨rfl,c⟩
                   ·exact .inr ⟨by decide,c⟩),if_pos c]
    simp only [ZZ]
   ·rw [if_neg (fun h=>c (by rcases h with h | h
                             ·exact .inl h.2
                             ·exact .inr h.2)),if_neg c]
    have hf:=a111 n [0,1,8,0,6,4] a.op (by decide)
    have es:List.take 6 a.smac=a.smac:=List.take_of_length_le (by omega)
    have et:List.take 6 a.tmac=a.tmac:=List.take_of_length_le (by omega)
    have ls:(List.take 4 a.sip.a).length≤4:=by rw [List.length_take]; omega
    have lt:(List.take 4 a.tip.a).length≤4:=by rw [List.length_take]; omega
    simp only [ZZ,hf,es,et,List.drop_zero]
    rw [brO_t (ble_of (by simp [word]; omega)),brO_t (ble_of (by simp [word]; omega)),brO_t (ble_of (by simp [word]; omega)),brO_t (ble_of (by simp [word]; omega))]
    rfl
 ·rw [if_pos (by simpa using hc)]
  simp only [ZZ,h82]
  rw [brO_t (by simpa using hc)]
def kT:AV:=.agg [(.agg [(.int .i64 0),(.int .i64 1)]),(.agg [(.int .i64 43),(.int .i64 2)]),(.agg [(.int .i64 44),(.int .i64 3)]),(.agg [(.int .i64 60),(.int .i64 1)])]
def kinds:List (Int × Int):=[(0,1),(43,2),(44,3),(60,1)]
def findK (k:Int):List (Int × Int)→Sum (List AV) (List AV)
 | []=>.inl []
 | p::l=>if p.1=k then .inr [.int .i64 p.2] else findK k l
theorem findK_ok (k:Int):findK k kinds=if k=0∨k=43∨k=44∨k=60 then .inr [.int .i64 (sort6 k)] else .inl []:=by
 unfold kinds
 simp only [findK]
 unfold sort6
 by_cases h0:k=0
 ·subst h0; rfl
 by_cases h1:k=43
 ·subst h1; rfl
 by_cases h2:k=44
 ·subst h2; rfl
 by_cases h3:k=60
 ·subst h3; rfl
 rw [if_neg (Ne.symm h0),if_neg (Ne.symm h1),if_neg (Ne.symm h2),if_neg (Ne.symm h3),if_neg (by omega)]
theorem brO_if {R:Type} {x k:Int} {a b:Option R} {c d:R} (h1:a=some c) (h2:b=some d):brO (x == k) a b=some (if x=k then c else d):=by
 by_cases h:x=k
 ·rw [if_pos h,show (x == k)=true from by simpa using h]; exact h1
 ·rw [if_neg h,show (x == k)=false from by simpa using h]; exact h2
theorem padN_last:∀ (k:Nat),k % 257=1→∃ X,padN k=X++[0]:=by
 intro k
 induction k using Nat.strongRecOn with
 | ind k ih=>
  intro h
  by_cases h1:1<k
  ·have hm:Nat.min k 257=257:=by show min k 257=257; omega
   obtain ⟨X,hX⟩:=ih (k - 257) (by omega) (by omega)
   rw [padN_step h1,hm,hX]
   exact ⟨_,(List.append_assoc _ _ _).symm⟩
  ·obtain rfl:k=1:=by omega
   exact ⟨[],rfl⟩
theorem a130 (n:Nat) (hn:2 ^ 63<n) (k:Int):A130 n [.int .i64 k]=some [.int .i64 (sort6 k)]:=by
 show run130 n k=_
 rw [eq130]
 have i0:eta s237 (AV.item kT 0)=.agg [(.int .i64 0),(.int .i64 1)]:=rfl
 have i1:eta s237 (AV.item kT 1)=.agg [(.int .i64 43),(.int .i64 2)]:=rfl
 have i2:eta s237 (AV.item kT 2)=.agg [(.int .i64 44),(.int .i64 3)]:=rfl
 have i3:eta s237 (AV.item kT 3)=.agg [(.int .i64 60),(.int .i64 1)]:=rfl
 have hT:AV.agg [(.agg [(.int .i64 0),(.int .i64 1)]),(.agg [(.int .i64 43),(.int .i64 2)]),(.agg [(.int .i64 44),(.int .i64 3)]),(.agg [(.int .i64 60),(.int .i64 1)])]=kT:=rfl
 refine jn_it' (fun i:Nat=>[.int .i64 k,kT,.int .i64 (i:Nat)]) (fun i=>4 - i) (fun i=>findK k (kinds.drop i)) (fun i=>i≤4) 0 (by show 4 - 0<n; omega) (by decide) (fun i K hi hK=>?_) ?_
 ·simp only [ZZ]
  by_cases h4:i<4
  ·have hw:IntKind.wrap .i64 ((i:Int)+1)=((i+1:Nat):Int):=by rw [wrap_id (by omega) (by omega)]; omega
   have hK1:=hK (i+1) (by show 4 - (i+1)<4 - i; omega) (by show i+1≤4; omega)
   rw [brO_t (by exact decide_eq_true (by omega)),inR_nat h4]
   simp only [i0,i1,i2,i3,hT,hw,Int.toNat_natCast,bT,ZZ]
   rw [hK1]
   obtain rfl | rfl | rfl | rfl:i=0∨i=1∨i=2∨i=3:=by omega
   all_goals exact brO_if rfl rfl
  ·have:i=4:=by have:i≤4:=hi; omega
   subst this
   rw [brO_f (by rfl)]
   rfl
 ·show jn (some (findK k kinds)) _=_
  rw [findK_ok]
  by_cases h:k=0∨k=43∨k=44∨k=60
  ·rw [if_pos h]; rfl
  ·rw [if_neg h]
   have:sort6 k=0:=by
    unfold sort6
    rw [if_neg (by omega),if_neg (by omega),if_neg (by omega),if_neg (by omega)]
   rw [this]; rfl
theorem a269 (n:Nat) (ip:Ip) (h:ip.v=6):A269 n [ip.av]=some [.int .i64 128]:=by
 show run269 n ip.av=_
 rw [eq269]
 simp [ZY,h]
theorem a244 (n:Nat) (ip:Ip) (h:ip.v=6):A244 n [ip.av]=some [.bool true]:=by
 show run244 A269 n ip.av=_
 rw [eq244]
 simp [ZY,a269 n ip h]
theorem a204 (n:Nat) (h:Ip6):A204 n [h.av]=some [.int .i64 (sized6 h)]:=by
 show run204 A244 n h.av=_
 rw [eq204]
 unfold sized6
 by_cases h1:h.src.v=6
 ·by_cases h2:h.dst.v=6
  ·have v1:=a244 n h.src h1
   have v2:=a244 n h.dst h2
   by_cases c1:h.cls<0
   ·simp [ZY,h1,h2,v1,v2,c1]
   by_cases c2:h.cls > 255
   ·simp [ZY,h1,h2,v1,v2,c1,c2]
   by_cases c3:h.flow<0
   ·simp [ZY,h1,h2,v1,v2,c1,c2,c3]
   by_cases c4:h.flow ≥ 1048576
   ·simp [ZY,h1,h2,v1,v2,c1,c2,c3,c4]
   by_cases c5:h.hop<0
   ·simp [ZY,h1,h2,v1,v2,c1,c2,c3,c4,c5]
   by_cases c6:h.hop > 255
   ·simp [ZY,h1,h2,v1,v2,c1,c2,c3,c4,c5,c6]
   by_cases c7:h.next<0
   ·simp [ZY,h1,h2,v1,v2,c1,c2,c3,c4,c5,c6,c7]
   by_cases c8:h.next > 255
   ·simp [ZY,h1,h2,v1,v2,c1,c2,c3,c4,c5,c6,c7,c8]
   ·simp [ZY,h1,h2,v1,v2,c1,c2,c3,c4,c5,c6,c7,c8]
  ·simp [ZY,h1,h2]
 ·simp [ZY,h1]
theorem a180 (n:Nat) (f:Frag) (k:Int) (h1:0≤f.off) (h2:f.off≤65536 * 8) (h3:0≤k) (h4:k≤2 ^ 45):A180 n [f.av,.int .i64 k]=some [.bool (fits6 f k)]:=by
 show run180 n f.av k=_
 rw [eq180]
 have hw:IntKind.wrap .i64 (f.off+k)=f.off+k:=wrap_id (by omega) (by omega)
 have hm:Int.tmod k 8=k % 8:=Int.tmod_eq_emod_of_nonneg h3
 unfold fits6
 by_cases h0:k=0
 ·subst h0
  cases hmo:f.more with
  | true=>simp [ZY,hmo]
  | false=>
   have hw0:IntKind.wrap .i64 f.off=f.off:=wrap_id (by omega) (by omega)
   by_cases ho:f.off > 0 <;> simp [ZY,hmo,ho,hw0]
 ·by_cases h8:k % 8=0
  ·cases hmo:f.more <;> by_cases ho:f.off > 0 <;> simp [ZY,hmo,ho,h0,h8,hm,hw]
  ·cases hmo:f.more with
   | true=>simp [ZY,hmo,h0,h8,hm]
   | false=>by_cases ho:f.off > 0 <;> simp [ZY,hmo,ho,h0,h8,hm,hw]
theorem keq_frag (a b:Frag):keq a.av b.av=decide (a=b):=by
 obtain ⟨a1,a2,a3,a4⟩:=a
 obtain ⟨b1,b2,b3,b4⟩:=b
 simp only [Frag.av,keq,keqs]
 rw [Bool.eq_iff_iff]
 simp
theorem a206 (n:Nat) (hn:2 ^ 63<n) (h:Ip6) (hl:h.data.length<2 ^ 44):A206 n [h.av]=some [.int .i64 (fragged6 h)]:=by
 show run206 A130 A180 n h.av=_
 rw [eq206]
 unfold fragged6
 have hz:AV.agg [(.bool false),(.bool false),(.int .i64 0),(.int .i64 0)]=Frag.z.av:=rfl
 have h130:=a130 n hn h.next
 cases hh:h.frag.has with
 | false=>
  rw [if_pos rfl]
  by_cases c1:h.frag=Frag.z
  ·have ck:keq h.frag.av Frag.z.av=true:=by rw [keq_frag]; simpa using c1
   rw [if_neg (by simpa using c1)]
   by_cases c2:sort6 h.next=0
   ·simp only [ZZ,hz,ck,hh,h130,c2]
    simp [ZY,hh,h130,c2]
   ·simp only [ZZ,hz,ck,hh,h130]
    simp [ZY,hh,h130,c2]
  ·have ck:keq h.frag.av Frag.z.av=false:=by rw [keq_frag]; simpa using c1
   rw [if_pos c1]
   simp only [ZZ,hz,ck,hh]
   simp [ZY]
 | true=>
  rw [if_neg (by decide)]
  by_cases c1:h.frag.id<0
  ·simp [ZY,hh,c1]
  by_cases c2:h.frag.id ≥ 4294967296
  ·simp [ZY,hh,c1,c2]
  by_cases c3:h.frag.off<0
  ·simp [ZY,hh,c1,c2,c3]
  have hm:Int.tmod h.frag.off 8=h.frag.off % 8:=Int.tmod_eq_emod_of_nonneg (by omega)
  by_cases c4:h.frag.off % 8=0
  ·by_cases c5:h.frag.off > 65528
   ·simp [ZY,hh,c1,c2,c3,hm,c4,c5]
   ·have h180:=a180 n h.frag h.data.length (by omega) (by omega) (by omega) (by omega)
    cases c6:fits6 h.frag h.data.length <;> simp [ZY,hh,c1,c2,c3,hm,c4,c5,h180,c6]
  ·simp [ZY,hh,c1,c2,c3,hm,c4]
theorem a285 (n:Nat) (hn:2 ^ 63<n) (b:List Int) (k:Nat) (hb:b.length<2 ^ 45) (hk:k≤2 ^ 44):A285 n [.fs .u8 b,.int .i64 (k:Nat)]=some [.fs .u8 (b++padN k)]:=by
 show run285 n b (k:Nat)=_
 rw [eq285]
 refine jn_it (fun s:List Int × Nat=>[.fs .u8 s.1,.int .i64 (s.2:Nat)]) (fun s=>s.2) (fun _=>[.fs .u8 (if k % 257=1 then (b++padN k).dropLast else b++padN k),.int .i64 (if k % 257=1 then 1 else 0)])
  (fun s=>s.1++padN s.2=b++padN k∧(s.2 % 257=1↔k % 257=1)∧s.2≤k) (b,k) (by show k<n; omega) ⟨rfl,Iff.rfl,Nat.le_refl _⟩ (fun s K hs hK=>?_) ?_
 ·obtain ⟨o,m⟩:=s
  obtain ⟨g1,g2,g3⟩:=hs
  dsimp only at g1 g2 g3 hK ⊢
  have hlen:o.length+m=b.length+k:=by
   have:=congrArg List.length g1
   rw [List.length_append,List.length_append,padN_len,padN_len] at this
   exact this
  simp only [ZZ]
  by_cases h1:m > 1
  ·rw [brO_t (by simp; omega),brO_t (ble_of (by omega))]
   have hmin:2≤Nat.min m 257∧Nat.min m 257≤m∧Nat.min m 257≤257∧(Nat.min m 257=m∨Nat.min m 257=257):=by
    show 2≤min m 257∧min m 257≤m∧min m 257≤257∧(min m 257=m∨min m 257=257); omega
   have hst:=padN_step h1
   have hq:Nat.min m 257=min m 257:=rfl
   have hK1:=hK (o++(1::((Nat.min m 257 - 2:Nat):Int)::List.replicate (Nat.min m 257 - 2) 0),m - Nat.min m 257) (by show m - Nat.min m 257<m; omega) ⟨by show o++_++padN (m - Nat.min m 257)=_; rw [List.append_assoc,←hst,g1],by show (m - Nat.min m 257) % 257=1↔_; rw [←g2]; omega,by show m - Nat.min m 257≤k; omega⟩
   dsimp only at hK1
   by_cases hx:(257:Int)<(m:Int)
   ·have hw:Nat.min m 257=257:=by omega
    rw [hw] at hK1
    have w1:IntKind.wrap .i64 ((257:Int) - 2)=255:=by decide
    have w2:IntKind.wrap .i64 (255:Int)=255:=by decide
    have w3:IntKind.wrap .u8 (255:Int)=255:=by decide
    have w4:IntKind.wrap .i64 ((m:Int) - 257)=((m - 257:Nat):Int):=by rw [wrap_id (by omega) (by omega)]; omega
    simp only [hx,decide_true,w1,w2,w3,w4,show Int.toNat 255=255 from rfl]
    rw [brO_t (by simp; omega),←hK1]
    refine congrArg K ?_
    simp
   ·have hw:Nat.min m 257=m:=by omega
    rw [hw] at hK1
    have w1:IntKind.wrap .i64 ((m:Int) - 2)=((m - 2:Nat):Int):=by rw [wrap_id (by omega) (by omega)]; omega
    have w2:IntKind.wrap .i64 ((m - 2:Nat):Int)=((m - 2:Nat):Int):=wrap_id (by omega) (by omega)
    have w3:IntKind.wrap .u8 ((m - 2:Nat):Int)=((m - 2:Nat):Int):=by rw [W8]; omega
    have w4:IntKind.wrap .i64 ((m:Int) - (m:Int))=((m - m:Nat):Int):=by rw [wrap_id (by omega) (by omega)]; omega
    simp only [hx,decide_false,w1,w2,w3,w4,Int.toNat_natCast]
    rw [brO_t (by simp; omega),←hK1]
    refine congrArg K ?_
    simp
  ·rw [brO_f (by simp; omega)]
   obtain rfl | rfl:m=0∨m=1:=by omega
   ·have hk:¬ k % 257=1:=fun h=>by have:=g2.2 h; omega
    have:o=b++padN k:=by rw [←g1]; exact (List.append_nil o).symm
    rw [if_neg hk,if_neg hk,this]; rfl
   ·have hk:k % 257=1:=g2.1 rfl
    have:o=(b++padN k).dropLast:=by rw [←g1]; exact (List.dropLast_concat).symm
    rw [if_pos hk,if_pos hk,this]; rfl
 ·by_cases hk:k % 257=1
  ·obtain ⟨X,hX⟩:=padN_last k hk
   have hlx:X.length+1=k:=by
    have:=congrArg List.length hX
    rw [padN_len,List.length_append] at this
    exact this.symm
   have hdl:(b++padN k).dropLast=b++X:=by rw [hX,←List.append_assoc,List.dropLast_concat]
   rw [hdl,hX]
   simp only [if_pos hk,ZZ,show ((1:Int) == 1)=true from rfl]
   rw [brO_t (ble_of (by rw [List.length_append]; omega)),List.append_assoc]
   rfl
  ·simp only [if_neg hk,ZZ,show ((0:Int) == 1)=false from rfl]
def puts6:Bool→List Opt→List Int→Option (List Int)
 | _,[],b=>some b
 | prev,o::l,b=>if bad6 o then none else if o.kind≠0 then puts6 false l (b++optB6 o)
   else if badP prev o then none else puts6 true l (b++padN o.data.length)
def fin6 (b:List Int):Option (List Int):=if b.length % 8=6∧b.length≤2046 then some b else none
theorem put6_eq:∀ (l:List Opt) (prev:Bool) (b:List Int),put6 prev l b=(puts6 prev l b).bind fin6
 | [],prev,b=>rfl
 | o::l,prev,b=>by
  rw [put6,puts6]
  split
  ·rfl
  ·split
   ·exact put6_eq l _ _
   ·split
    ·rfl
    ·exact put6_eq l _ _
theorem puts6_len:∀ (l:List Opt) (prev:Bool) (b c:List Int),puts6 prev l b=some c→c.length≤b.length+2048 * l.length
 | [],prev,b,c,h=>by injection h with h; subst h; simp
 | o::l,prev,b,c,h=>by
  rw [puts6] at h
  rw [List.length_cons]
  split at h
  ·cases h
  ·rename_i h1
   unfold bad6 at h1
   split at h
   ·have:=puts6_len l _ _ c h
    rw [List.length_append] at this
    have e:(optB6 o).length=2+o.data.length:=by simp [optB6]; omega
    omega
   ·split at h
    ·cases h
    ·rename_i h3
     unfold badP at h3
     have:=puts6_len l _ _ c h
     rw [List.length_append,padN_len] at this
     omega
def opts6Put (l:List Opt):List Int × Int:=match put6 false l [] with
 | none=>([],75)
 | some b=>(b,0)
def prevAt (l:List Opt) (i:Nat):Bool:=decide (0<i) && decide ((l.getD (i - 1) ⟨1,[]⟩).kind=0)
theorem prev_succ {l:List Opt} {i:Nat} (h:i<l.length):prevAt l (i+1)=decide (l[i].kind=0):=by
 unfold prevAt
 simp [List.getD_eq_getElem?_getD,h]
theorem prev_pos {l:List Opt} {i:Nat} (h:0<i) (h2:i - 1<l.length):prevAt l i=decide (l[i - 1].kind=0):=by
 unfold prevAt
 simp [List.getD_eq_getElem?_getD,h,h2]
def nonz (l:List Int):Bool:=l.any fun c=>c != 0
theorem nonz_ok (l:List Int):nonz l=true↔∃ c∈l,c≠0:=by unfold nonz; simp
theorem jn_c3 {R:Type} {x y:Option (Sum (List AV) (Sum (List AV) (Sum (List AV) R)))} {K1:List AV→Option (Sum (List AV) (Sum (List AV) R))} {K2:List AV→Option (Sum (List AV) R)} {K3:List AV→Option R} {r:Option R} (h:x=y) (h2:jn (jn (jn y K1) K2) K3=r):jn (jn (jn x K1) K2) K3=r:=by rw [h]; exact h2
theorem a270 (n:Nat) (hn:2 ^ 63<n) (l:List Opt) (hl:l.length≤2 ^ 20) (hb:∀ o∈l,o.data.length≤2 ^ 20):A270 n [.fv s93 (l.map Opt.av)]=some [.fs .u8 (opts6Put l).1,.int .i64 (opts6Put l).2]:=by
 show run270 A285 n (l.map Opt.av)=_
 rw [eq270]
 refine jn_it' (fun s:Nat × List Int=>[.fv s93 (l.map Opt.av),.fs .u8 s.2,.fv s93 (l.map Opt.av),.int .i64 (Int.ofNat (l.map Opt.av).length),.int .i64 (s.1:Nat)]) (fun s=>l.length - s.1)
  (fun s=>optO [.fs .u8 [],.int .i64 75] (puts6 (prevAt l s.1) (l.drop s.1) s.2)) (fun s=>s.1≤l.length∧s.2.length≤2048 * s.1) (0,[]) (by show l.length - 0<n; omega) ⟨Nat.zero_le _,by simp⟩ (fun s K hs hK=>?_) ?_
 ·obtain ⟨i,b⟩:=s
  dsimp only at hs hK ⊢
  simp only [ZZ,List.length_map]
  by_cases hi:i<l.length
  ·have hd:l.drop i=l[i]::l.drop (i+1):=List.drop_eq_getElem_cons hi
   have hbi:=hb l[i] (List.getElem_mem hi)
   have hps:=prev_succ hi
   have hw3:IntKind.wrap .i64 ((i:Int)+1)=((i+1:Nat):Int):=by rw [wrap_id (by omega) (by omega)]; omega
   rw [brO_t (by simpa using hi),inR_nat hi]
   simp only [Int.toNat_natCast,getE_map hi,hd]
   rw [puts6]
   have hK1:=hK (i+1,b++optB6 l[i]) (by show l.length - (i+1)<l.length - i; omega)
   have hK2:=hK (i+1,b++padN l[i].data.length) (by show l.length - (i+1)<l.length - i; omega)
   dsimp only at hK1 hK2
   rw [hps] at hK1 hK2
   simp only [List.length_map,Int.ofNat_eq_natCast] at hK1 hK2
   generalize l[i]=o at hbi hK1 hK2 ⊢
   by_cases hbad:bad6 o
   ·rw [if_pos hbad]
    unfold bad6 at hbad
    by_cases h1:o.kind<0
    ·simp [ZY,h1,optO]
    by_cases h2:o.kind > 255
    ·simp [ZY,h1,h2,optO]
    by_cases h3:o.kind=1
    ·simp [ZY,h1,h2,h3,optO]
    ·have h4:o.kind≠0:=by omega
     have h5:(o.data.length:Int) > 255:=by omega
     simp [ZY,h1,h2,h3,h4,h5,optO]
   rw [if_neg hbad]
   unfold bad6 at hbad
   have h1:¬ o.kind<0:=by omega
   have h2:¬ o.kind > 255:=by omega
   have h3:¬ o.kind=1:=by omega
   have h3' : (o.kind == 1)=false:=by simpa using h3
   by_cases h4:o.kind≠0
   ·have h5:¬ (o.data.length:Int) > 255:=by omega
    have h4' : (o.kind != 0)=true:=by simpa using h4
    have e1:o.kind % 256=o.kind:=by omega
    have e2:(o.data.length:Int) % 256=(o.data.length:Int):=by omega
    have el:(optB6 o).length=2+o.data.length:=by simp [optB6]; omega
    rw [if_pos h4]
    have hK1:=hK1 ⟨by show i+1≤l.length; omega,by show (b++optB6 o).length≤2048 * (i+1); rw [List.length_append,el]; omega⟩
    rw [decide_eq_false h4] at hK1
    simp only [ZZ,h1,h2,h3',h4',h5,decide_false,Int.ofNat_eq_natCast,hw3]
    rw [brO_t (ble_of (by omega)),brO_t (ble_of (by rw [List.length_append]; simp; omega))]
    simp only [ZZ,hw3,W8,e1,e2]
    refine Eq.trans (congrArg K ?_) hK1
    simp [optB6]
   ·have h40:o.kind=0:=Decidable.not_not.1 h4
    have h4' : (o.kind != 0)=false:=by simpa using h40
    rw [if_neg h4]
    simp only [ZZ,h1,h2,h3',h4',decide_false,Int.ofNat_eq_natCast,hw3]
    by_cases d1:o.data=[]
    ·have d1' : ((o.data.length:Int) == 0)=true:=by rw [d1]; rfl
     rw [if_pos (.inl d1)]
     simp only [ZZ,d1',optO]
    have d1' : ((o.data.length:Int) == 0)=false:=by
     have:o.data.length≠0:=fun h=>d1 (List.length_eq_zero_iff.1 h)
     simp; omega
    by_cases d2:prevAt l i=true
    ·rw [if_pos (.inr (.inl d2))]
     have hi0:0<i:=by
      unfold prevAt at d2
      simp at d2; omega
     have hpp:=prev_pos hi0 (show i - 1<l.length by omega)
     rw [d2] at hpp
     have hk0:l[i - 1].kind=0:=of_decide_eq_true hpp.symm
     have w1:IntKind.wrap .i64 ((i:Int) - 1)=((i - 1:Nat):Int):=by rw [wrap_id (by omega) (by omega)]; omega
     have hp:((i:Int) > 0):=by omega
     simp only [ZZ,d1',hp,decide_true,w1,inR_nat (show i - 1<l.length by omega),Int.toNat_natCast,getE_map (show i - 1<l.length by omega),hk0,show ((0:Int) == 0)=true from rfl,optO,List.length_map]
    ·have hnx:∀ (c:List AV→Option (Sum (List AV) (Sum (List AV) (List AV)))),True:=fun _=>trivial
     have hpf:prevAt l i=false:=by cases h:prevAt l i with
      | true=>exact absurd h d2
      | false=>rfl
     simp only [ZZ,d1',List.length_map]
     refine jn_c3 (y:=some (Sum.inl [.fv s93 (l.map Opt.av),.fs .u8 b,o.av,.fv s93 (l.map Opt.av),.int .i64 (l.length:Int),.int .i64 (i:Int),.bool false])) ?_ ?_
     ·by_cases hi0:0<i
      ·have hpp:=prev_pos hi0 (show i - 1<l.length by omega)
       rw [hpf] at hpp
       have hk0:¬ l[i - 1].kind=0:=of_decide_eq_false hpp.symm
       have hk0' : (l[i - 1].kind == 0)=false:=by simpa using hk0
       have w1:IntKind.wrap .i64 ((i:Int) - 1)=((i - 1:Nat):Int):=by rw [wrap_id (by omega) (by omega)]; omega
       rw [w1,inR_nat (show i - 1<l.length by omega),Int.toNat_natCast,getE_map (show i - 1<l.length by omega),brO_t (by exact decide_eq_true (by omega))]
       simp only [ZZ,hk0']
      ·rw [brO_f (by exact decide_eq_false (by omega))]
     simp only [ZZ,List.length_map]
     refine jn_c (jn_it' (r:=some (if nonz o.data=true then Sum.inr (Sum.inr [.fs .u8 [],.int .i64 75]) else (if o.data.length > 2046 then Sum.inr (Sum.inr [.fs .u8 [],.int .i64 75]) else Sum.inl [.fv s93 (l.map Opt.av),.fs .u8 (b++padN o.data.length),.fv s93 (l.map Opt.av),.int .i64 (l.length:Int),.int .i64 (i:Int)]))) (fun j:Nat=>[.fv s93 (l.map Opt.av),.fs .u8 b,o.av,.fv s93 (l.map Opt.av),.int .i64 (l.length:Int),.int .i64 (i:Int),.fs .u8 o.data,.int .i64 (o.data.length:Int),.int .i64 (j:Nat)]) (fun j=>o.data.length - j)
      (fun j=>if nonz (o.data.drop j)=true then .inr (.inr (.inr [.fs .u8 [],.int .i64 75])) else .inl [.fv s93 (l.map Opt.av),.fs .u8 b,o.av,.fv s93 (l.map Opt.av),.int .i64 (l.length:Int),.int .i64 (i:Int)]) (fun j=>j≤o.data.length) 0 (by show o.data.length - 0<n; omega) (Nat.zero_le _) (fun j K2 hj hK2=>?_) ?_) ?_
     ·simp only [ZZ]
      by_cases hj2:j<o.data.length
      ·have hdj:o.data.drop j=o.data[j]::o.data.drop (j+1):=List.drop_eq_getElem_cons hj2
       have hwj:IntKind.wrap .i64 ((j:Int)+1)=((j+1:Nat):Int):=by rw [wrap_id (by omega) (by omega)]; omega
       have hKj:=hK2 (j+1) (by show o.data.length - (j+1)<o.data.length - j; omega) (by show j+1≤o.data.length; omega)
       rw [brO_t (by simpa using hj2),inR_nat hj2,Int.toNat_natCast,getI_lt hj2,hdj]
       simp only [ZZ,hwj]
       by_cases hz:o.data[j]=0
       ·have hz' : (o.data[j] != 0)=false:=by simpa using hz
        have:nonz (o.data[j]::o.data.drop (j+1))=nonz (o.data.drop (j+1)):=by unfold nonz; rw [List.any_cons,hz',Bool.false_or]
        rw [hz',bF,this]
        exact hKj
       ·have hz' : (o.data[j] != 0)=true:=by simpa using hz
        have:nonz (o.data[j]::o.data.drop (j+1))=true:=by unfold nonz; rw [List.any_cons,hz',Bool.true_or]
        rw [hz',bT,this,if_pos rfl]
      ·have:j=o.data.length:=by have:j≤o.data.length:=hj; omega
       subst this
       rw [brO_f (by simp),List.drop_length]
       rfl
     ·rw [List.drop_zero]
      by_cases hz:nonz o.data=true
      ·rw [if_pos hz,if_pos hz]
       simp only [ZZ]
      ·rw [if_neg hz,if_neg hz]
       simp only [ZZ,Int.ofNat_eq_natCast]
       by_cases h20:o.data.length > 2046
       ·rw [if_pos h20,brO_t (by simp; omega)]
       ·rw [if_neg h20,brO_f (by simp; omega),a285 n hn b o.data.length (by omega) (by omega)]
        simp only [ZZ]
     ·by_cases hz:nonz o.data=true
      ·rw [if_pos hz,if_pos (.inr (.inr (.inl ((nonz_ok _).1 hz))))]
       simp only [ZZ,optO]
      ·rw [if_neg hz]
       by_cases h20:o.data.length > 2046
       ·rw [if_pos h20,if_pos (.inr (.inr (.inr h20)))]
        simp only [ZZ,optO]
       ·have hK2:=hK2 ⟨by show i+1≤l.length; omega,by show (b++padN o.data.length).length≤2048 * (i+1); rw [List.length_append,padN_len]; omega⟩
        rw [decide_eq_true h40] at hK2
        rw [if_neg h20,if_neg (fun h=>by
         rcases h with h | h | h | h
         ·exact d1 h
         ·exact d2 h
         ·exact hz ((nonz_ok _).2 h)
         ·exact h20 h)]
        simp only [ZZ,hw3]
        exact hK2
  ·have:i=l.length:=by omega
   subst this
   rw [brO_f (by simp),List.drop_length]
   rfl
 ·show jn (some (optO (R:=List AV) [AV.fs .u8 [],AV.int .i64 75] (puts6 (prevAt l 0) (l.drop 0) []))) _=_
  have hp0:prevAt l 0=false:=rfl
  rw [List.drop_zero,hp0]
  unfold opts6Put
  rw [put6_eq]
  cases hp:puts6 false l [] with
  | none=>simp [ZZ,optO]
  | some b=>
   have hbl:=puts6_len l _ _ _ hp
   have hm:Int.tmod (b.length:Int) 8=((b.length % 8:Nat):Int):=by rw [Int.tmod_eq_emod_of_nonneg (by omega)]; omega
   show _=some [AV.fs .u8 (match fin6 b with | none=>(([],75):List Int × Int) | some b=>(b,0)).1,AV.int .i64 (match fin6 b with | none=>(([],75):List Int × Int) | some b=>(b,0)).2]
   unfold fin6
   by_cases c1:b.length % 8=6
   ·by_cases c2:b.length≤2046
    ·have c2' : ¬ (b.length:Int) > 2046:=by omega
     rw [if_pos ⟨c1,c2⟩]
     simp [ZY,optO,hm,c1,c2']
    ·have c2' : (b.length:Int) > 2046:=by omega
     rw [if_neg (by omega)]
     simp [ZY,optO,hm,c1,c2']
   ·have c1' : ¬ ((b.length:Int) % 8=6):=by omega
    rw [if_neg (by omega)]
    simp [ZY,optO,hm,c1,c1']
def Ext.Sm (x:Ext):Prop:=x.opts.length≤2 ^ 20∧(∀ o∈x.opts,o.data.length≤2 ^ 20)∧x.data.length≤2 ^ 20
theorem body6_put (x:Ext):body6 x=if x.kind<0∨x.kind > 255∨(sort6 x.kind≠1∧sort6 x.kind≠2) then ([],72)
  else if sort6 x.kind=1 then (if x.data≠[] then ([],72) else opts6Put x.opts)
  else if x.opts≠[]∨x.data.length % 8≠6∨x.data.length > 2046 then ([],72) else (x.data,0):=by
 unfold body6 opts6Put
 rfl
theorem a245 (n:Nat) (hn:2 ^ 63<n) (x:Ext) (hx:x.Sm):A245 n [x.av]=some [.fs .u8 (body6 x).1,.int .i64 (body6 x).2]:=by
 show run245 A130 A270 n x.av=_
 rw [eq245,body6_put]
 have h130:=a130 n hn x.kind
 have h270:=a270 n hn x.opts hx.1 hx.2.1
 by_cases c1:x.kind<0
 ·simp [ZY,c1]
 by_cases c2:x.kind > 255
 ·simp [ZY,c1,c2]
 have hm:Int.tmod (x.data.length:Int) 8=((x.data.length % 8:Nat):Int):=by rw [Int.tmod_eq_emod_of_nonneg (by omega)]; omega
 by_cases s1:sort6 x.kind=1
 ·rw [if_neg (by omega),if_pos s1]
  by_cases c3:x.data=[]
  ·rw [if_neg (by simpa using c3)]
   have c3' : x.data.length=0:=by rw [c3]; rfl
   simp only [ZZ,c1,c2,decide_false,h130,s1,h270,show ((1:Int) != 1)=false from rfl,show ((1:Int) == 1)=true from rfl,c3']
   rw [brO_f (by rfl)]
   simp only [ZZ,h130,s1,h270,show ((1:Int) == 1)=true from rfl]
  ·have c3' : (x.data.length:Int) > 0:=by
    have:x.data.length≠0:=fun h=>c3 (List.length_eq_zero_iff.1 h)
    omega
   rw [if_pos c3]
   simp only [ZZ,c1,c2,decide_false,h130,s1,show ((1:Int) != 1)=false from rfl,show ((1:Int) == 1)=true from rfl,Int.ofNat_eq_natCast,c3',decide_true]
 ·by_cases s2:sort6 x.kind=2
  ·rw [if_neg (by omega),if_neg s1]
   by_cases d1:x.opts=[]
   ·by_cases d2:x.data.length % 8=6
    ·have d2' : ((x.data.length:Int) % 8=6):=by omega
     by_cases d3:x.data.length > 2046
     ·have d3' : (x.data.length:Int) > 2046:=by omega
      rw [if_pos (.inr (.inr d3))]
      simp [ZY,c1,c2,h130,s1,s2,d1,hm,d2,d3',d2']
     ·have d3' : ¬ (x.data.length:Int) > 2046:=by omega
      rw [if_neg (by simp [d1]; omega)]
      simp [ZY,c1,c2,h130,s1,s2,d1,hm,d2,d3',d2']
    ·have d2' : ¬ ((x.data.length:Int) % 8=6):=by omega
     rw [if_pos (.inr (.inl d2))]
     simp [ZY,c1,c2,h130,s1,s2,d1,hm,d2,d2']
   ·have d1' : (x.opts.length:Int) > 0:=by
     have:x.opts.length≠0:=fun h=>d1 (List.length_eq_zero_iff.1 h)
     omega
    rw [if_pos (.inl d1)]
    simp [ZY,c1,c2,h130,s1,s2,d1',d1]
  ·rw [if_pos (.inr (.inr ⟨s1,s2⟩))]
   simp [ZY,c1,c2,h130,s1,s2]
def sumO (r:List Int × Int):Sum (List AV) (List AV):=if r.2=0 then .inl [.fs .u8 r.1] else .inr [.fs .u8 [],.int .i64 r.2]
theorem heads6_err {next:Int}:∀ {l:List Ext} {fst:Bool} {out:List Int},(heads6 next fst l out).2≠0→(heads6 next fst l out).1=[]
 | [],fst,out,h=>absurd rfl h
 | x::l,fst,out,h=>by
  rw [heads6] at h ⊢
  split
  ·rfl
  ·rename_i h1
   rw [if_neg h1] at h
   split
   ·rfl
   ·rename_i h2
    rw [if_neg h2] at h
    exact heads6_err h
theorem body6_le {x:Ext} (h:(body6 x).2=0):(body6 x).1.length≤2046:=by
 rw [body6_put] at h ⊢
 split at h
 ·cases h
 ·rename_i h1
  rw [if_neg h1]
  split at h
  ·rename_i h2
   rw [if_pos h2]
   split at h
   ·cases h
   ·rename_i h3
    rw [if_neg h3]
    unfold opts6Put at h ⊢
    rw [put6_eq] at h ⊢
    cases hp:puts6 false x.opts [] with
    | none=>rw [hp] at h; cases h
    | some b=>
     rw [hp] at h
     show (match fin6 b with | none=>(([],75):List Int × Int) | some b=>(b,0)).1.length≤2046
     unfold fin6
     split
     ·simp
     ·rename_i b' hb
      split at hb
      ·rename_i hc
       injection hb with hb
       rw [←hb]; exact hc.2
      ·cases hb
  ·rename_i h2
   rw [if_neg h2]
   split at h
   ·cases h
   ·rename_i h3
    rw [if_neg h3]
    show x.data.length≤2046
    omega
theorem a205 (n:Nat) (hn:2 ^ 63<n) (l:List Ext) (next:Int) (hl:∀ x∈l,x.Sm) (hll:l.length≤2 ^ 20):A205 n [.fv s124 (l.map Ext.av),.int .i64 next,.bool false]=some [.fs .u8 (if l.length > 8 then ([],74) else heads6 next true l []).1,.int .i64 (if l.length > 8 then (([],74):List Int × Int) else heads6 next true l []).2]:=by
 show run205 A245 n (l.map Ext.av) next false=_
 rw [eq205]
 by_cases h8:l.length > 8
 ·have h8' : (l.length:Int) > 8:=by omega
  rw [if_pos h8,brO_t (by simp; omega)]
 rw [if_neg h8,brO_f (by simp; omega)]
 refine jn_it' (fun s:Nat × List Int=>[.fv s124 (l.map Ext.av),.int .i64 next,.bool false,.fs .u8 s.2,.fv s124 (l.map Ext.av),.int .i64 (Int.ofNat (l.map Ext.av).length),.int .i64 (s.1:Nat)]) (fun s=>l.length - s.1)
  (fun s=>sumO (heads6 next (decide (s.1=0)) (l.drop s.1) s.2)) (fun s=>s.1≤l.length∧s.2.length≤2048 * s.1) (0,[]) (by show l.length - 0<n; omega) ⟨Nat.zero_le _,by simp⟩ (fun s K hs hK=>?_) ?_
 ·obtain ⟨i,b⟩:=s
  dsimp only at hs hK ⊢
  simp only [ZZ,List.length_map]
  by_cases hi:i<l.length
  ·have hd:l.drop i=l[i]::l.drop (i+1):=List.drop_eq_getElem_cons hi
   have hx:=hl l[i] (List.getElem_mem hi)
   have hw3:IntKind.wrap .i64 ((i:Int)+1)=((i+1:Nat):Int):=by rw [wrap_id (by omega) (by omega)]; omega
   have hth:∀ hh:i+1<l.length,then6 next (l.drop (i+1))=l[i+1].kind:=fun hh=>by rw [List.drop_eq_getElem_cons hh]; rfl
   have hth2:¬ i+1<l.length→then6 next (l.drop (i+1))=next:=fun hh=>by rw [List.drop_of_length_le (by omega)]; rfl
   have hK1:=hK (i+1,b++(then6 next (l.drop (i+1)) % 256::((body6 l[i]).1.length:Int) / 8 % 256::(body6 l[i]).1)) (by show l.length - (i+1)<l.length - i; omega)
   dsimp only at hK1
   simp only [List.length_map,Int.ofNat_eq_natCast] at hK1
   rw [show decide (i+1=0)=false from rfl] at hK1
   refine (brO_t (by exact decide_eq_true (by simp; omega))).trans ?_
   rw [inR_nat hi]
   simp only [Int.toNat_natCast,getE_map hi,hd]
   have h245:=a245 n hn l[i] hx
   rw [heads6]
   generalize l[i]=x at hx hK1 h245 ⊢
   by_cases c1:x.kind=0∧decide (i=0)=false
   ·rw [if_pos c1]
    have hi0:¬ i=0:=of_decide_eq_false c1.2
    have hi0' : (i:Int) > 0:=by omega
    simp only [ZZ,c1.1,show ((0:Int) == 0)=true from rfl,hi0',decide_true]
    rfl
   ·rw [if_neg c1]
    have hflag:(if x.kind=0 then (if (i:Int) > 0 then true else false) else false)=false:=by
     by_cases q:x.kind=0
     ·have:i=0:=Decidable.byContradiction fun h=>c1 ⟨q,decide_eq_false h⟩
      rw [if_pos q,this]; rfl
     ·rw [if_neg q]
    by_cases c2:(body6 x).2=0
    ·have hle:=body6_le c2
     rw [if_neg (by simpa using c2)]
     have hK1:=hK1 ⟨by show i+1≤l.length; omega,by rw [List.length_append]; simp; omega⟩
     have hdv:Int.tdiv ((body6 x).1.length:Int) 8=((body6 x).1.length:Int) / 8:=Int.tdiv_eq_ediv_of_nonneg (by omega)
     have hwd:IntKind.wrap .i64 (((body6 x).1.length:Int) / 8)=((body6 x).1.length:Int) / 8:=wrap_id (by omega) (by omega)
     have fin:(if x.kind=0 then True else True):=by split <;> trivial
     have c2' : ((body6 x).2 != 0)=false:=by simpa using c2
     have b1:Nat.ble ((b.length+2) * 1) 140737488355328=true:=ble_of (by omega)
     by_cases q:x.kind=0
     ·have hi0:i=0:=Decidable.byContradiction fun h=>c1 ⟨q,decide_eq_false h⟩
      have hi0' : ¬ (i:Int) > 0:=by omega
      by_cases hh:i+1<l.length
      ·have hh' : ((i+1:Nat):Int)<(l.length:Int):=by omega
       simp only [ZZ,q,show ((0:Int) == 0)=true from rfl,hi0',decide_false,h245,c2',hw3,List.length_map,Int.ofNat_eq_natCast,hh',decide_true,inR_nat hh,Int.toNat_natCast,getE_map hh,hdv,hwd,W8,b1]
       rw [brO_t (ble_of (by simp; omega))]
       simp only [ZZ,hw3,List.length_map,Int.ofNat_eq_natCast]
       rw [←hK1,hth hh]
       refine congrArg K ?_
       simp
      ·have hh' : ¬ ((i+1:Nat):Int)<(l.length:Int):=by omega
       simp only [ZZ,q,show ((0:Int) == 0)=true from rfl,hi0',decide_false,h245,c2',hw3,List.length_map,Int.ofNat_eq_natCast,hh',hdv,hwd,W8,b1]
       rw [brO_t (ble_of (by simp; omega))]
       simp only [ZZ,hw3,List.length_map,Int.ofNat_eq_natCast]
       rw [←hK1,hth2 hh]
       refine congrArg K ?_
       simp
     ·have q' : (x.kind == 0)=false:=by simpa using q
      by_cases hh:i+1<l.length
      ·have hh' : ((i+1:Nat):Int)<(l.length:Int):=by omega
       simp only [ZZ,q',h245,c2',hw3,List.length_map,Int.ofNat_eq_natCast,hh',decide_true,inR_nat hh,Int.toNat_natCast,getE_map hh,hdv,hwd,W8,b1]
       rw [brO_t (ble_of (by simp; omega))]
       simp only [ZZ,hw3,List.length_map,Int.ofNat_eq_natCast]
       rw [←hK1,hth hh]
       refine congrArg K ?_
       simp
      ·have hh' : ¬ ((i+1:Nat):Int)<(l.length:Int):=by omega
       simp only [ZZ,q',h245,c2',hw3,List.length_map,Int.ofNat_eq_natCast,hh',decide_false,hdv,hwd,W8,b1]
       rw [brO_t (ble_of (by simp; omega))]
       simp only [ZZ,hw3,List.length_map,Int.ofNat_eq_natCast]
       rw [←hK1,hth2 hh]
       refine congrArg K ?_
       simp
    ·rw [if_pos (by simpa using c2)]
     have c2' : ((body6 x).2 != 0)=true:=by simpa using c2
     have hs:sumO ([],(body6 x).2)=.inr [.fs .u8 [],.int .i64 (body6 x).2]:=by unfold sumO; rw [if_neg c2]
     by_cases q:x.kind=0
     ·have hi0:i=0:=Decidable.byContradiction fun h=>c1 ⟨q,decide_eq_false h⟩
      have hi0' : ¬ (i:Int) > 0:=by omega
      simp only [ZZ,q,show ((0:Int) == 0)=true from rfl,hi0',decide_false,h245,c2',hs]
     ·have q' : (x.kind == 0)=false:=by simpa using q
      simp only [ZZ,q',h245,c2',hs]
  ·have:i=l.length:=by omega
   subst this
   rw [brO_f (by simp),List.drop_length]
   rfl
 ·show jn (some (sumO (heads6 next true (l.drop 0) []))) _=_
  rw [List.drop_zero]
  unfold sumO
  by_cases h0:(heads6 next true l []).2=0
  ·rw [if_pos h0,h0]
   rfl
  ·rw [if_neg h0,heads6_err h0]
   rfl
theorem heads6_bytes {next:Int}:∀ {l:List Ext} {fst:Bool} {out:List Int},Bytes out→(∀ x∈l,Bytes x.data∧∀ o∈x.opts,Bytes o.data)→Bytes (heads6 next fst l out).1
 | [],fst,out,h,_=>h
 | x::l,fst,out,h,hx=>by
  rw [heads6]
  split
  ·exact bytes_nil
  ·split
   ·exact bytes_nil
   ·have:=hx x (List.mem_cons_self ..)
    exact heads6_bytes (h.app (bytes_cons (by omega) (by omega) (bytes_cons (by omega) (by omega) (body6_bytes this.1 this.2)))) (fun y hy=>hx y (List.mem_cons_of_mem _ hy))
theorem heads6_len {next:Int}:∀ {l:List Ext} {fst:Bool} {out:List Int},(heads6 next fst l out).1.length≤out.length+2048 * l.length
 | [],fst,out=>by simp [heads6]
 | x::l,fst,out=>by
  rw [heads6,List.length_cons]
  split
  ·simp
  ·split
   ·simp
   ·rename_i h1 h2
    have h3:=body6_le (Decidable.not_not.1 h2)
    have:=@heads6_len next l false (out++(then6 next l % 256::((body6 x).1.length:Int) / 8 % 256::(body6 x).1))
    rw [List.length_append,List.length_cons,List.length_cons] at this
    omega
theorem exts6_len (h:Ip6):(exts6 h).1.length≤16384:=by
 unfold exts6
 split
 ·simp
 ·have:=@heads6_len (next6 h) h.exts true []
  simp at this
  omega
theorem flat_fsL (ps:List (List Int)):(fsL ps).flatMap AV.toInts=ps.flatten:=by
 induction ps with
 | nil=>rfl
 | cons p ps ih=>show p++_=p++_; rw [←ih]; rfl
theorem a207 (n:Nat) (ps:List (List Int)) (h2:2≤ps.length) (h3:ps.length≤2 ^ 20) (hB:∀ p∈ps,Bytes p) (hl:ps.flatten.length≤2 ^ 40):A207 n [.fv (.fs .u8) (fsL ps),.fs .u8 []]=some [.fs .u8 ps.flatten]:=by
 show G207 n _=_
 unfold G207
 have hlen:(fsL ps).length=ps.length:=by simp [fsL]
 have hall:(fsL ps).all fsOk=true:=by
  rw [List.all_eq_true]
  intro a ha
  unfold fsL at ha
  obtain ⟨p,hp,rfl⟩:=List.mem_map.1 ha
  show (p.all fun x=>decide (0≤x) && decide (x≤255))=true
  rw [List.all_eq_true]
  intro x hx
  have:=hB p hp x hx
  simp; omega
 dsimp only
 rw [if_pos ⟨by omega,by omega,hall,by rw [flat_fsL]; omega⟩,flat_fsL]
theorem w123x (n:Nat):A123 (n+16) [.fs .i64 (wI [8,8,13,2,1,32])]=some [.int .i64 ((8:Nat):Int),.int .i64 0]:=by kernel_rfl
theorem w123y (n:Nat):A123 (n+16) [.fs .i64 (wI [4,8,20,16,8,8])]=some [.int .i64 ((8:Nat):Int),.int .i64 0]:=by kernel_rfl
theorem a136x (n:Nat) (hn:2 ^ 63<n) (h:Ip6) (c:sized6 h=0) (c2:fragged6 h=0) (hh:h.frag.has=true):A136 n [.fs .i64 [8,8,13,2,1,32],.fs .i64 [h.next,0,h.frag.off / 8,0,b2i h.frag.more,h.frag.id]]=some [.fs .u8 (fragB h),.int .i64 0]:=by
 have hz:=sized6_ok c
 have hb:=b2i_r h.frag.more
 obtain ⟨m,rfl⟩ : ∃ m,n=m+16:=⟨n - 16,by omega⟩
 have e:fragB h=mkB 8 (allB (fragPs h)):=by unfold fragB; rw [if_pos hh]
 unfold fragged6 at c2
 rw [if_neg (by rw [hh]; decide)] at c2
 split at c2
 ·cases c2
 ·rename_i h1
  rw [e]
  exact a136 (m+16) (fragPs h) (fun p hp=>by
   unfold fragPs at hp
   simp only [List.mem_cons,List.mem_nil_iff,or_false] at hp
   rcases hp with rfl | rfl | rfl | rfl | rfl | rfl <;> simp <;> omega) 8 rfl (by decide) (by omega) (by show 6<m+16; omega) (by show 6≤64; omega) (w123x m)
theorem a136y (n:Nat) (hn:2 ^ 63<n) (h:Ip6) (c:(made6 h).2=0):A136 n [.fs .i64 [4,8,20,16,8,8],.fs .i64 [6,h.cls,h.flow,(((exts6 h).1++fragB h).length:Int)+(h.data.length:Int),first6 h,h.hop]]=some [.fs .u8 (mkB 8 (allB (ip6Ps h))),.int .i64 0]:=by
 obtain ⟨h1,h2,h3,h4,h5⟩:=made6_ok c
 have hz:=sized6_ok h1
 have hf6:=first6_r h1 h2
 have h4':=h4
 rw [List.length_append] at h4'
 obtain ⟨m,rfl⟩ : ∃ m,n=m+16:=⟨n - 16,by omega⟩
 exact a136 (m+16) (ip6Ps h) (fun p hp=>by
  unfold ip6Ps at hp
  simp only [List.mem_cons,List.mem_nil_iff,or_false] at hp
  rcases hp with rfl | rfl | rfl | rfl | rfl | rfl <;> simp <;> omega) 8 rfl (by decide) (by omega) (by show 6<m+16; omega) (by show 6≤64; omega) (w123y m)
structure Ip6.Sm (h:Ip6):Prop where
 src:h.src.Ok
 dst:h.dst.Ok
 xs:∀ x∈h.exts,x.Sm
 xl:h.exts.length≤2 ^ 20
 xb:∀ x∈h.exts,Bytes x.data∧∀ o∈x.opts,Bytes o.data
 dl:h.data.length≤2 ^ 20
 db:Bytes h.data
theorem fragB_len (h:Ip6):(fragB h).length≤8:=by unfold fragB; split <;> simp [mkB_len]
theorem fragB_bytes (h:Ip6):Bytes (fragB h):=by
 unfold fragB
 split
 ·exact mkB_bytes (allB_01 _) 8
 ·exact bytes_nil
theorem exts6_bytes (h:Ip6) (hs:h.Sm):Bytes (exts6 h).1:=by
 unfold exts6
 split
 ·exact bytes_nil
 ·exact heads6_bytes bytes_nil hs.xb
theorem a159 (n:Nat) (hn:2 ^ 63<n) (h:Ip6) (hs:h.Sm):A159 n [h.av]=some [.fs .u8 (made6 h).1,.int .i64 (made6 h).2]:=by
 show run159 A136 A204 A205 A206 A207 n h.av=_
 rw [eq159]
 have h204:=a204 n h
 have h205:=a205 n hn h.exts (next6 h) hs.xs hs.xl
 have h205:A205 n [.fv s124 (h.exts.map Ext.av),.int .i64 (next6 h),.bool false]=some [.fs .u8 (exts6 h).1,.int .i64 (exts6 h).2]:=h205
 have h206:=a206 n hn h (by have:=hs.dl; omega)
 by_cases c1:sized6 h=0
 ·have c1' : (sized6 h != 0)=false:=by simpa using c1
  have key:∀ (K:List AV→Option (List AV)),jn (brO h.frag.has (some (Sum.inl [h.av,.int .i64 44,.int .i64 44])) (some (Sum.inl [h.av,.int .i64 h.next,.int .i64 h.next]))) (fun d1=>
    jn (brO (decide (((List.length (AV.toElems (AV.item (getE d1 0) 5)):Nat):Int) > 0)) (brO (inR 0 (List.length (AV.toElems (AV.item (getE d1 0) 5)))) (some (Sum.inl [eta s38 (getE d1 0),.int .i64 (AV.toInt (AV.item (getE (AV.toElems (AV.item (getE d1 0) 5)) 0) 0)),.int .i64 (AV.toInt (getE d1 2))])) none) (some (Sum.inl [eta s38 (getE d1 0),.int .i64 (AV.toInt (getE d1 1)),.int .i64 (AV.toInt (getE d1 2))]))) K)=K [h.av,.int .i64 (first6 h),.int .i64 (next6 h)]:=by
   intro K
   cases hh:h.frag.has with
   | true=>
    have e:next6 h=44:=by unfold next6; rw [if_pos hh]
    cases hx:h.exts with
    | nil=>simp [ZY,first6,hx,then6,e]
    | cons x l=>
     simp [ZY,first6,hx,then6,e,getE,inR]
   | false=>
    have e:next6 h=h.next:=by unfold next6; rw [if_neg (by rw [hh]; decide)]
    cases hx:h.exts with
    | nil=>simp [ZY,first6,hx,then6,e]
    | cons x l=>
     simp [ZY,first6,hx,then6,e,getE,inR]
  simp only [ZZ,h204,c1',List.length_map,Int.ofNat_eq_natCast]
  refine Eq.trans (key _) ?_
  simp only [ZZ,h205]
  by_cases c2:(exts6 h).2=0
  ·have c2' : ((exts6 h).2 != 0)=false:=by simpa using c2
   simp only [c2',ZZ,h206]
   by_cases c3:fragged6 h=0
   ·have c3' : (fragged6 h != 0)=false:=by simpa using c3
    simp only [c3',ZZ]
    have hel:=exts6_len h
    have hfl:=fragB_len h
    have hdl:=hs.dl
    have key2:∀ (K:List AV→Option (List AV)),jn (brO h.frag.has (jn (brO h.frag.more (some (Sum.inl [h.av,.int .i64 (first6 h),.fs .u8 (exts6 h).1,.int .i64 1])) (some (Sum.inl [h.av,.int .i64 (first6 h),.fs .u8 (exts6 h).1,.int .i64 0]))) (fun d5=>(A136 n [.fs .i64 [8,8,13,2,1,32],.fs .i64 [AV.toInt (AV.item (getE d5 0) 7),0,IntKind.wrap .i64 (Int.tdiv (AV.toInt (AV.item (AV.item (getE d5 0) 6) 3)) 8),0,AV.toInt (getE d5 3),AV.toInt (AV.item (AV.item (getE d5 0) 6) 2)]]).bind fun r6=>
      brO (Nat.beq (List.length r6) 2) (brO (Nat.ble (((List.length (AV.toInts (getE d5 2)))+(List.length (AV.toInts (getE r6 0)))) * 1) 140737488355328) (some (Sum.inl [eta s38 (getE d5 0),.int .i64 (AV.toInt (getE d5 1)),.fs .u8 (AV.toInts (getE d5 2)++AV.toInts (getE r6 0))])) none) none)) (some (Sum.inl [h.av,.int .i64 (first6 h),.fs .u8 (exts6 h).1]))) K=K [h.av,.int .i64 (first6 h),.fs .u8 ((exts6 h).1++fragB h)]:=by
     intro K
     cases hh:h.frag.has with
     | true=>
      have h136:=a136x n hn h c1 c3 hh
      have hoff:0≤h.frag.off∧h.frag.off≤65528:=by
       unfold fragged6 at c3
       rw [if_neg (by rw [hh]; decide)] at c3
       split at c3
       ·cases c3
       ·omega
      have hdv:Int.tdiv h.frag.off 8=h.frag.off / 8:=Int.tdiv_eq_ediv_of_nonneg hoff.1
      have hw:IntKind.wrap .i64 (h.frag.off / 8)=h.frag.off / 8:=wrap_id (by omega) (by omega)
      have hb:Nat.ble (((exts6 h).1.length+(fragB h).length) * 1) 140737488355328=true:=ble_of (by omega)
      cases hm:h.frag.more with
      | true=>
       rw [hm] at h136
       simp only [b2i,if_true] at h136
       simp only [ZZ,hdv,hw,h136,hb]
      | false=>
       rw [hm] at h136
       simp only [b2i,Bool.false_eq_true,if_false] at h136
       simp only [ZZ,hdv,hw,h136,hb]
     | false=>
      have e:fragB h=[]:=by unfold fragB; rw [if_neg (by rw [hh]; decide)]
      simp only [ZZ,e,List.append_nil]
    refine Eq.trans (key2 _) ?_
    have hX:((exts6 h).1++fragB h).length=(exts6 h).1.length+(fragB h).length:=List.length_append
    have hxb:Bytes ((exts6 h).1++fragB h):=(exts6_bytes h hs).app (fragB_bytes h)
    have hw1:IntKind.wrap .i64 ((((exts6 h).1++fragB h).length:Int)+(h.data.length:Int))=(((exts6 h).1++fragB h).length:Int)+(h.data.length:Int):=wrap_id (by omega) (by omega)
    have hw2:IntKind.wrap .i64 (40+((((exts6 h).1++fragB h).length:Int)+(h.data.length:Int)))=40+((((exts6 h).1++fragB h).length:Int)+(h.data.length:Int)):=wrap_id (by omega) (by omega)
    simp only [ZZ,Int.ofNat_eq_natCast,hw1,hw2]
    by_cases c4:40+((exts6 h).1++fragB h).length+h.data.length > 65535
    ·have e:made6 h=([],2):=by unfold made6; rw [if_neg (by simpa using c1),if_neg (by simpa using c2),if_neg (by simpa using c3),if_pos c4]
     rw [brO_t (by exact decide_eq_true (by omega)),e]
    ·have e:made6 h=(ip6B h,0):=by unfold made6; rw [if_neg (by simpa using c1),if_neg (by simpa using c2),if_neg (by simpa using c3),if_neg c4]
     have h136:=a136y n hn h (by rw [e])
     have l1:=hs.src.1
     have l2:=hs.dst.1
     have es:List.take 16 h.src.a=h.src.a:=List.take_of_length_le (by omega)
     have ed:List.take 16 h.dst.a=h.dst.a:=List.take_of_length_le (by omega)
     have hH:(mkB 8 (allB (ip6Ps h))).length=8:=mkB_len _ _
     have hfl' : [mkB 8 (allB (ip6Ps h)),h.src.a,h.dst.a,(exts6 h).1++fragB h,h.data].flatten=ip6B h:=by
      unfold ip6B
      simp only [List.flatten_cons,List.flatten_nil,List.append_nil,List.append_assoc]
     have h207:=a207 n [mkB 8 (allB (ip6Ps h)),h.src.a,h.dst.a,(exts6 h).1++fragB h,h.data] (by simp) (by simp) (fun p hp=>by
      simp only [List.mem_cons,List.mem_nil_iff,or_false] at hp
      rcases hp with rfl | rfl | rfl | rfl | rfl
      ·exact mkB_bytes (allB_01 _) 8
      ·exact hs.src.2
      ·exact hs.dst.2
      ·exact hxb
      ·exact hs.db) (by
      simp only [List.flatten_cons,List.flatten_nil,List.append_nil,List.length_append,hH,l1,l2]
      omega)
     rw [hfl'] at h207
     have h207:A207 n [.fv (.fs .u8) [.fs .u8 (mkB 8 (allB (ip6Ps h))),.fs .u8 h.src.a,.fs .u8 h.dst.a,.fs .u8 ((exts6 h).1++fragB h),.fs .u8 h.data],.fs .u8 []]=some [.fs .u8 (ip6B h)]:=h207
     rw [brO_f (by exact decide_eq_false (by omega)),e]
     simp only [ZZ,h136,List.drop_zero,es,ed,h207]
   ·have c3' : (fragged6 h != 0)=true:=by simpa using c3
    have e:made6 h=([],fragged6 h):=by unfold made6; rw [if_neg (by simpa using c1),if_neg (by simpa using c2),if_pos c3]
    simp only [c3',ZZ,e]
  ·have c2' : ((exts6 h).2 != 0)=true:=by simpa using c2
   have e:made6 h=([],(exts6 h).2):=by unfold made6; rw [if_neg (by simpa using c1),if_pos c2]
   simp only [c2',ZZ,e]
 ·have c1' : (sized6 h != 0)=true:=by simpa using c1
  have e:made6 h=([],sized6 h):=by unfold made6; rw [if_pos c1]
  simp only [ZZ,h204,c1',e]
theorem a110 (n:Nat) (hn:2 ^ 63<n) (h:Ip6) (hs:h.Sm):A110 n [h.av]=some [.fs .u8 (made6 h).1,.int .i64 (made6 h).2]:=by
 show run110 A159 n h.av=_
 rw [eq110]
 simp only [ZZ,a159 n hn h hs]
theorem a156 (n:Nat) (hn:2 ^ 63<n) (h:Ip6) (hs:h.Sm):A156 n [h.av]=some [.int .i64 (made6 h).2]:=by
 show run156 A159 n h.av=_
 rw [eq156]
 simp only [ZZ,a159 n hn h hs]
end Go.Proofs.YtlmnjnhmhacgkaaDoor.Am
end
