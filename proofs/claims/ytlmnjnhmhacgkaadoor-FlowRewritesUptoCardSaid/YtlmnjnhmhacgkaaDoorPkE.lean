/-
  The packet's plain structures, the fields and their laws.
-/
import Derived.Test.YtlmnjnhmhacgkaaDoorPkD
import Derived.Test.YtlmnjnhmhacgkaaDoorAmG
import Derived.Test.YtlmnjnhmhacgkaaDoorPkC
section
set_option linter.unusedVariables false
set_option linter.unusedSimpArgs false
set_option maxRecDepth 100000
namespace Go.Proofs.YtlmnjnhmhacgkaaDoor.Am
open Go Go.Am Go.Proofs
structure Ip where
 v:Int
 a:List Int
 deriving DecidableEq
def Ip.av (x:Ip):AV:=.agg [.int .i64 x.v,.arr .u8 16 x.a]
def Ip.of (x:AV):Ip:=⟨(x.item 0).toInt,(x.item 1).toInts⟩
def Ip.z:Ip:=⟨0,[0,0,0,0,0,0,0,0,0,0,0,0,0,0,0,0]⟩
@[simp] theorem Ip.of_av (x:Ip):Ip.of x.av=x:=by
  cases x
  simp only [Ip.of,Ip.av,AV.item,List.getD_cons_zero,List.getD_cons_succ,AV.toInt,AV.toBool,AV.toInts,AV.toElems,List.map_map]
@[simp] theorem Ip.eta (x:Ip):eta s27 x.av=x.av:=rfl
theorem Ip.i0 (x:Ip):x.av.item 0=.int .i64 x.v:=rfl
theorem Ip.i1 (x:Ip):x.av.item 1=.arr .u8 16 x.a:=rfl
theorem Ip.fold (c0:Int) (c1:List Int):AV.agg [.int .i64 c0,.arr .u8 16 c1]=Ip.av ⟨c0,c1⟩:=rfl
structure Tag where
 tpid:Int
 pcp:Int
 dei:Bool
 vid:Int
 deriving DecidableEq
def Tag.av (x:Tag):AV:=.agg [.int .i64 x.tpid,.int .i64 x.pcp,.bool x.dei,.int .i64 x.vid]
def Tag.of (x:AV):Tag:=⟨(x.item 0).toInt,(x.item 1).toInt,(x.item 2).toBool,(x.item 3).toInt⟩
def Tag.z:Tag:=⟨0,0,false,0⟩
@[simp] theorem Tag.of_av (x:Tag):Tag.of x.av=x:=by
  cases x
  simp only [Tag.of,Tag.av,AV.item,List.getD_cons_zero,List.getD_cons_succ,AV.toInt,AV.toBool,AV.toInts,AV.toElems,List.map_map]
@[simp] theorem Tag.eta (x:Tag):eta s79 x.av=x.av:=rfl
theorem Tag.i0 (x:Tag):x.av.item 0=.int .i64 x.tpid:=rfl
theorem Tag.i1 (x:Tag):x.av.item 1=.int .i64 x.pcp:=rfl
theorem Tag.i2 (x:Tag):x.av.item 2=.bool x.dei:=rfl
theorem Tag.i3 (x:Tag):x.av.item 3=.int .i64 x.vid:=rfl
theorem Tag.fold (c0:Int) (c1:Int) (c2:Bool) (c3:Int):AV.agg [.int .i64 c0,.int .i64 c1,.bool c2,.int .i64 c3]=Tag.av ⟨c0,c1,c2,c3⟩:=rfl
structure Opt where
 kind:Int
 data:List Int
 deriving DecidableEq
def Opt.av (x:Opt):AV:=.agg [.int .i64 x.kind,.fs .u8 x.data]
def Opt.of (x:AV):Opt:=⟨(x.item 0).toInt,(x.item 1).toInts⟩
def Opt.z:Opt:=⟨0,[]⟩
@[simp] theorem Opt.of_av (x:Opt):Opt.of x.av=x:=by
  cases x
  simp only [Opt.of,Opt.av,AV.item,List.getD_cons_zero,List.getD_cons_succ,AV.toInt,AV.toBool,AV.toInts,AV.toElems,List.map_map]
@[simp] theorem Opt.eta (x:Opt):eta s93 x.av=x.av:=rfl
theorem Opt.i0 (x:Opt):x.av.item 0=.int .i64 x.kind:=rfl
theorem Opt.i1 (x:Opt):x.av.item 1=.fs .u8 x.data:=rfl
theorem Opt.fold (c0:Int) (c1:List Int):AV.agg [.int .i64 c0,.fs .u8 c1]=Opt.av ⟨c0,c1⟩:=rfl
structure Arp where
 op:Int
 smac:List Int
 sip:Ip
 tmac:List Int
 tip:Ip
 deriving DecidableEq
def Arp.av (x:Arp):AV:=.agg [.int .i64 x.op,.arr .u8 6 x.smac,x.sip.av,.arr .u8 6 x.tmac,x.tip.av]
def Arp.of (x:AV):Arp:=⟨(x.item 0).toInt,(x.item 1).toInts,(Ip.of (x.item 2)),(x.item 3).toInts,(Ip.of (x.item 4))⟩
def Arp.z:Arp:=⟨0,[0,0,0,0,0,0],Ip.z,[0,0,0,0,0,0],Ip.z⟩
@[simp] theorem Arp.of_av (x:Arp):Arp.of x.av=x:=by
  cases x
  simp only [Arp.of,Arp.av,AV.item,List.getD_cons_zero,List.getD_cons_succ,AV.toInt,AV.toBool,AV.toInts,AV.toElems,List.map_map,Ip.of_av]
@[simp] theorem Arp.eta (x:Arp):eta s29 x.av=x.av:=rfl
theorem Arp.i0 (x:Arp):x.av.item 0=.int .i64 x.op:=rfl
theorem Arp.i1 (x:Arp):x.av.item 1=.arr .u8 6 x.smac:=rfl
theorem Arp.i2 (x:Arp):x.av.item 2=x.sip.av:=rfl
theorem Arp.i3 (x:Arp):x.av.item 3=.arr .u8 6 x.tmac:=rfl
theorem Arp.i4 (x:Arp):x.av.item 4=x.tip.av:=rfl
theorem Arp.fold (c0:Int) (c1:List Int) (c2:Ip) (c3:List Int) (c4:Ip):AV.agg [.int .i64 c0,.arr .u8 6 c1,c2.av,.arr .u8 6 c3,c4.av]=Arp.av ⟨c0,c1,c2,c3,c4⟩:=rfl
structure Ip4 where
 tos:Int
 id:Int
 df:Bool
 mf:Bool
 off:Int
 ttl:Int
 proto:Int
 src:Ip
 dst:Ip
 opts:List Opt
 data:List Int
 deriving DecidableEq
def Ip4.av (x:Ip4):AV:=.agg [.int .i64 x.tos,.int .i64 x.id,.bool x.df,.bool x.mf,.int .i64 x.off,.int .i64 x.ttl,.int .i64 x.proto,x.src.av,x.dst.av,.fv s93 (x.opts.map Opt.av),.fs .u8 x.data]
def Ip4.of (x:AV):Ip4:=⟨(x.item 0).toInt,(x.item 1).toInt,(x.item 2).toBool,(x.item 3).toBool,(x.item 4).toInt,(x.item 5).toInt,(x.item 6).toInt,(Ip.of (x.item 7)),(Ip.of (x.item 8)),((x.item 9).toElems.map Opt.of),(x.item 10).toInts⟩
def Ip4.z:Ip4:=⟨0,0,false,false,0,0,0,Ip.z,Ip.z,[],[]⟩
@[simp] theorem Ip4.of_av (x:Ip4):Ip4.of x.av=x:=by
  cases x
  simp only [Ip4.of,Ip4.av,AV.item,List.getD_cons_zero,List.getD_cons_succ,AV.toInt,AV.toBool,AV.toInts,AV.toElems,List.map_map,Ip.of_av,Opt.of_av]
  first | rfl | simp [Function.comp_def,Ip.of_av,Opt.of_av]
@[simp] theorem Ip4.eta (x:Ip4):eta s33 x.av=x.av:=rfl
theorem Ip4.i0 (x:Ip4):x.av.item 0=.int .i64 x.tos:=rfl
theorem Ip4.i1 (x:Ip4):x.av.item 1=.int .i64 x.id:=rfl
theorem Ip4.i2 (x:Ip4):x.av.item 2=.bool x.df:=rfl
theorem Ip4.i3 (x:Ip4):x.av.item 3=.bool x.mf:=rfl
theorem Ip4.i4 (x:Ip4):x.av.item 4=.int .i64 x.off:=rfl
theorem Ip4.i5 (x:Ip4):x.av.item 5=.int .i64 x.ttl:=rfl
theorem Ip4.i6 (x:Ip4):x.av.item 6=.int .i64 x.proto:=rfl
theorem Ip4.i7 (x:Ip4):x.av.item 7=x.src.av:=rfl
theorem Ip4.i8 (x:Ip4):x.av.item 8=x.dst.av:=rfl
theorem Ip4.i9 (x:Ip4):x.av.item 9=.fv s93 (x.opts.map Opt.av):=rfl
theorem Ip4.i10 (x:Ip4):x.av.item 10=.fs .u8 x.data:=rfl
theorem Ip4.fold (c0:Int) (c1:Int) (c2:Bool) (c3:Bool) (c4:Int) (c5:Int) (c6:Int) (c7:Ip) (c8:Ip) (c9:List Opt) (c10:List Int):AV.agg [.int .i64 c0,.int .i64 c1,.bool c2,.bool c3,.int .i64 c4,.int .i64 c5,.int .i64 c6,c7.av,c8.av,.fv s93 (c9.map Opt.av),.fs .u8 c10]=Ip4.av ⟨c0,c1,c2,c3,c4,c5,c6,c7,c8,c9,c10⟩:=rfl
structure Frag where
 has:Bool
 more:Bool
 id:Int
 off:Int
 deriving DecidableEq
def Frag.av (x:Frag):AV:=.agg [.bool x.has,.bool x.more,.int .i64 x.id,.int .i64 x.off]
def Frag.of (x:AV):Frag:=⟨(x.item 0).toBool,(x.item 1).toBool,(x.item 2).toInt,(x.item 3).toInt⟩
def Frag.z:Frag:=⟨false,false,0,0⟩
@[simp] theorem Frag.of_av (x:Frag):Frag.of x.av=x:=by
  cases x
  simp only [Frag.of,Frag.av,AV.item,List.getD_cons_zero,List.getD_cons_succ,AV.toInt,AV.toBool,AV.toInts,AV.toElems,List.map_map]
@[simp] theorem Frag.eta (x:Frag):eta s36 x.av=x.av:=rfl
theorem Frag.i0 (x:Frag):x.av.item 0=.bool x.has:=rfl
theorem Frag.i1 (x:Frag):x.av.item 1=.bool x.more:=rfl
theorem Frag.i2 (x:Frag):x.av.item 2=.int .i64 x.id:=rfl
theorem Frag.i3 (x:Frag):x.av.item 3=.int .i64 x.off:=rfl
theorem Frag.fold (c0:Bool) (c1:Bool) (c2:Int) (c3:Int):AV.agg [.bool c0,.bool c1,.int .i64 c2,.int .i64 c3]=Frag.av ⟨c0,c1,c2,c3⟩:=rfl
structure Ext where
 kind:Int
 opts:List Opt
 data:List Int
 deriving DecidableEq
def Ext.av (x:Ext):AV:=.agg [.int .i64 x.kind,.fv s93 (x.opts.map Opt.av),.fs .u8 x.data]
def Ext.of (x:AV):Ext:=⟨(x.item 0).toInt,((x.item 1).toElems.map Opt.of),(x.item 2).toInts⟩
def Ext.z:Ext:=⟨0,[],[]⟩
@[simp] theorem Ext.of_av (x:Ext):Ext.of x.av=x:=by
  cases x
  simp only [Ext.of,Ext.av,AV.item,List.getD_cons_zero,List.getD_cons_succ,AV.toInt,AV.toBool,AV.toInts,AV.toElems,List.map_map,Opt.of_av]
  first | rfl | simp [Function.comp_def,Opt.of_av]
@[simp] theorem Ext.eta (x:Ext):eta s124 x.av=x.av:=rfl
theorem Ext.i0 (x:Ext):x.av.item 0=.int .i64 x.kind:=rfl
theorem Ext.i1 (x:Ext):x.av.item 1=.fv s93 (x.opts.map Opt.av):=rfl
theorem Ext.i2 (x:Ext):x.av.item 2=.fs .u8 x.data:=rfl
theorem Ext.fold (c0:Int) (c1:List Opt) (c2:List Int):AV.agg [.int .i64 c0,.fv s93 (c1.map Opt.av),.fs .u8 c2]=Ext.av ⟨c0,c1,c2⟩:=rfl
structure Ip6 where
 cls:Int
 flow:Int
 hop:Int
 src:Ip
 dst:Ip
 exts:List Ext
 frag:Frag
 next:Int
 data:List Int
 deriving DecidableEq
def Ip6.av (x:Ip6):AV:=.agg [.int .i64 x.cls,.int .i64 x.flow,.int .i64 x.hop,x.src.av,x.dst.av,.fv s124 (x.exts.map Ext.av),x.frag.av,.int .i64 x.next,.fs .u8 x.data]
def Ip6.of (x:AV):Ip6:=⟨(x.item 0).toInt,(x.item 1).toInt,(x.item 2).toInt,(Ip.of (x.item 3)),(Ip.of (x.item 4)),((x.item 5).toElems.map Ext.of),(Frag.of (x.item 6)),(x.item 7).toInt,(x.item 8).toInts⟩
def Ip6.z:Ip6:=⟨0,0,0,Ip.z,Ip.z,[],Frag.z,0,[]⟩
@[simp] theorem Ip6.of_av (x:Ip6):Ip6.of x.av=x:=by
  cases x
  simp only [Ip6.of,Ip6.av,AV.item,List.getD_cons_zero,List.getD_cons_succ,AV.toInt,AV.toBool,AV.toInts,AV.toElems,List.map_map,Ext.of_av,Frag.of_av,Ip.of_av]
  first | rfl | simp [Function.comp_def,Ext.of_av,Frag.of_av,Ip.of_av]
@[simp] theorem Ip6.eta (x:Ip6):eta s38 x.av=x.av:=rfl
theorem Ip6.i0 (x:Ip6):x.av.item 0=.int .i64 x.cls:=rfl
theorem Ip6.i1 (x:Ip6):x.av.item 1=.int .i64 x.flow:=rfl
theorem Ip6.i2 (x:Ip6):x.av.item 2=.int .i64 x.hop:=rfl
theorem Ip6.i3 (x:Ip6):x.av.item 3=x.src.av:=rfl
theorem Ip6.i4 (x:Ip6):x.av.item 4=x.dst.av:=rfl
theorem Ip6.i5 (x:Ip6):x.av.item 5=.fv s124 (x.exts.map Ext.av):=rfl
theorem Ip6.i6 (x:Ip6):x.av.item 6=x.frag.av:=rfl
theorem Ip6.i7 (x:Ip6):x.av.item 7=.int .i64 x.next:=rfl
theorem Ip6.i8 (x:Ip6):x.av.item 8=.fs .u8 x.data:=rfl
theorem Ip6.fold (c0:Int) (c1:Int) (c2:Int) (c3:Ip) (c4:Ip) (c5:List Ext) (c6:Frag) (c7:Int) (c8:List Int):AV.agg [.int .i64 c0,.int .i64 c1,.int .i64 c2,c3.av,c4.av,.fv s124 (c5.map Ext.av),c6.av,.int .i64 c7,.fs .u8 c8]=Ip6.av ⟨c0,c1,c2,c3,c4,c5,c6,c7,c8⟩:=rfl
structure Icmp where
 v:Int
 type:Int
 code:Int
 rest:Int
 data:List Int
 deriving DecidableEq
def Icmp.av (x:Icmp):AV:=.agg [.int .i64 x.v,.int .i64 x.type,.int .i64 x.code,.int .i64 x.rest,.fs .u8 x.data]
def Icmp.of (x:AV):Icmp:=⟨(x.item 0).toInt,(x.item 1).toInt,(x.item 2).toInt,(x.item 3).toInt,(x.item 4).toInts⟩
def Icmp.z:Icmp:=⟨0,0,0,0,[]⟩
@[simp] theorem Icmp.of_av (x:Icmp):Icmp.of x.av=x:=by
  cases x
  simp only [Icmp.of,Icmp.av,AV.item,List.getD_cons_zero,List.getD_cons_succ,AV.toInt,AV.toBool,AV.toInts,AV.toElems,List.map_map]
@[simp] theorem Icmp.eta (x:Icmp):eta s40 x.av=x.av:=rfl
theorem Icmp.i0 (x:Icmp):x.av.item 0=.int .i64 x.v:=rfl
theorem Icmp.i1 (x:Icmp):x.av.item 1=.int .i64 x.type:=rfl
theorem Icmp.i2 (x:Icmp):x.av.item 2=.int .i64 x.code:=rfl
theorem Icmp.i3 (x:Icmp):x.av.item 3=.int .i64 x.rest:=rfl
theorem Icmp.i4 (x:Icmp):x.av.item 4=.fs .u8 x.data:=rfl
theorem Icmp.fold (c0:Int) (c1:Int) (c2:Int) (c3:Int) (c4:List Int):AV.agg [.int .i64 c0,.int .i64 c1,.int .i64 c2,.int .i64 c3,.fs .u8 c4]=Icmp.av ⟨c0,c1,c2,c3,c4⟩:=rfl
structure Udp where
 sport:Int
 dport:Int
 nosum:Bool
 data:List Int
 deriving DecidableEq
def Udp.av (x:Udp):AV:=.agg [.int .i64 x.sport,.int .i64 x.dport,.bool x.nosum,.fs .u8 x.data]
def Udp.of (x:AV):Udp:=⟨(x.item 0).toInt,(x.item 1).toInt,(x.item 2).toBool,(x.item 3).toInts⟩
def Udp.z:Udp:=⟨0,0,false,[]⟩
@[simp] theorem Udp.of_av (x:Udp):Udp.of x.av=x:=by
  cases x
  simp only [Udp.of,Udp.av,AV.item,List.getD_cons_zero,List.getD_cons_succ,AV.toInt,AV.toBool,AV.toInts,AV.toElems,List.map_map]
@[simp] theorem Udp.eta (x:Udp):eta s42 x.av=x.av:=rfl
theorem Udp.i0 (x:Udp):x.av.item 0=.int .i64 x.sport:=rfl
theorem Udp.i1 (x:Udp):x.av.item 1=.int .i64 x.dport:=rfl
theorem Udp.i2 (x:Udp):x.av.item 2=.bool x.nosum:=rfl
theorem Udp.i3 (x:Udp):x.av.item 3=.fs .u8 x.data:=rfl
theorem Udp.fold (c0:Int) (c1:Int) (c2:Bool) (c3:List Int):AV.agg [.int .i64 c0,.int .i64 c1,.bool c2,.fs .u8 c3]=Udp.av ⟨c0,c1,c2,c3⟩:=rfl
structure Tcp where
 sport:Int
 dport:Int
 seq:Int
 ack:Int
 flags:Int
 win:Int
 urg:Int
 opts:List Opt
 data:List Int
 deriving DecidableEq
def Tcp.av (x:Tcp):AV:=.agg [.int .i64 x.sport,.int .i64 x.dport,.int .i64 x.seq,.int .i64 x.ack,.int .i64 x.flags,.int .i64 x.win,.int .i64 x.urg,.fv s93 (x.opts.map Opt.av),.fs .u8 x.data]
def Tcp.of (x:AV):Tcp:=⟨(x.item 0).toInt,(x.item 1).toInt,(x.item 2).toInt,(x.item 3).toInt,(x.item 4).toInt,(x.item 5).toInt,(x.item 6).toInt,((x.item 7).toElems.map Opt.of),(x.item 8).toInts⟩
def Tcp.z:Tcp:=⟨0,0,0,0,0,0,0,[],[]⟩
@[simp] theorem Tcp.of_av (x:Tcp):Tcp.of x.av=x:=by
  cases x
  simp only [Tcp.of,Tcp.av,AV.item,List.getD_cons_zero,List.getD_cons_succ,AV.toInt,AV.toBool,AV.toInts,AV.toElems,List.map_map,Opt.of_av]
  first | rfl | simp [Function.comp_def,Opt.of_av]
@[simp] theorem Tcp.eta (x:Tcp):eta s44 x.av=x.av:=rfl
theorem Tcp.i0 (x:Tcp):x.av.item 0=.int .i64 x.sport:=rfl
theorem Tcp.i1 (x:Tcp):x.av.item 1=.int .i64 x.dport:=rfl
theorem Tcp.i2 (x:Tcp):x.av.item 2=.int .i64 x.seq:=rfl
theorem Tcp.i3 (x:Tcp):x.av.item 3=.int .i64 x.ack:=rfl
theorem Tcp.i4 (x:Tcp):x.av.item 4=.int .i64 x.flags:=rfl
theorem Tcp.i5 (x:Tcp):x.av.item 5=.int .i64 x.win:=rfl
theorem Tcp.i6 (x:Tcp):x.av.item 6=.int .i64 x.urg:=rfl
theorem Tcp.i7 (x:Tcp):x.av.item 7=.fv s93 (x.opts.map Opt.av):=rfl
theorem Tcp.i8 (x:Tcp):x.av.item 8=.fs .u8 x.data:=rfl
theorem Tcp.fold (c0:Int) (c1:Int) (c2:Int) (c3:Int) (c4:Int) (c5:Int) (c6:Int) (c7:List Opt) (c8:List Int):AV.agg [.int .i64 c0,.int .i64 c1,.int .i64 c2,.int .i64 c3,.int .i64 c4,.int .i64 c5,.int .i64 c6,.fv s93 (c7.map Opt.av),.fs .u8 c8]=Tcp.av ⟨c0,c1,c2,c3,c4,c5,c6,c7,c8⟩:=rfl
structure Frm where
 dst:List Int
 src:List Int
 tags:List Tag
 type:Int
 data:List Int
 deriving DecidableEq
def Frm.av (x:Frm):AV:=.agg [.arr .u8 6 x.dst,.arr .u8 6 x.src,.fv s79 (x.tags.map Tag.av),.int .i64 x.type,.fs .u8 x.data]
def Frm.of (x:AV):Frm:=⟨(x.item 0).toInts,(x.item 1).toInts,((x.item 2).toElems.map Tag.of),(x.item 3).toInt,(x.item 4).toInts⟩
def Frm.z:Frm:=⟨[0,0,0,0,0,0],[0,0,0,0,0,0],[],0,[]⟩
@[simp] theorem Frm.of_av (x:Frm):Frm.of x.av=x:=by
  cases x
  simp only [Frm.of,Frm.av,AV.item,List.getD_cons_zero,List.getD_cons_succ,AV.toInt,AV.toBool,AV.toInts,AV.toElems,List.map_map,Tag.of_av]
  first | rfl | simp [Function.comp_def,Tag.of_av]
@[simp] theorem Frm.eta (x:Frm):eta s83 x.av=x.av:=rfl
theorem Frm.i0 (x:Frm):x.av.item 0=.arr .u8 6 x.dst:=rfl
theorem Frm.i1 (x:Frm):x.av.item 1=.arr .u8 6 x.src:=rfl
theorem Frm.i2 (x:Frm):x.av.item 2=.fv s79 (x.tags.map Tag.av):=rfl
theorem Frm.i3 (x:Frm):x.av.item 3=.int .i64 x.type:=rfl
theorem Frm.i4 (x:Frm):x.av.item 4=.fs .u8 x.data:=rfl
theorem Frm.fold (c0:List Int) (c1:List Int) (c2:List Tag) (c3:Int) (c4:List Int):AV.agg [.arr .u8 6 c0,.arr .u8 6 c1,.fv s79 (c2.map Tag.av),.int .i64 c3,.fs .u8 c4]=Frm.av ⟨c0,c1,c2,c3,c4⟩:=rfl
structure Ends where
 src:Ip
 dst:Ip
 v:Int
 proto:Int
 piece:Bool
 deriving DecidableEq
def Ends.av (x:Ends):AV:=.agg [x.src.av,x.dst.av,.int .i64 x.v,.int .i64 x.proto,.bool x.piece]
def Ends.of (x:AV):Ends:=⟨(Ip.of (x.item 0)),(Ip.of (x.item 1)),(x.item 2).toInt,(x.item 3).toInt,(x.item 4).toBool⟩
def Ends.z:Ends:=⟨Ip.z,Ip.z,0,0,false⟩
@[simp] theorem Ends.of_av (x:Ends):Ends.of x.av=x:=by
  cases x
  simp only [Ends.of,Ends.av,AV.item,List.getD_cons_zero,List.getD_cons_succ,AV.toInt,AV.toBool,AV.toInts,AV.toElems,List.map_map,Ip.of_av]
@[simp] theorem Ends.eta (x:Ends):eta s104 x.av=x.av:=rfl
theorem Ends.i0 (x:Ends):x.av.item 0=x.src.av:=rfl
theorem Ends.i1 (x:Ends):x.av.item 1=x.dst.av:=rfl
theorem Ends.i2 (x:Ends):x.av.item 2=.int .i64 x.v:=rfl
theorem Ends.i3 (x:Ends):x.av.item 3=.int .i64 x.proto:=rfl
theorem Ends.i4 (x:Ends):x.av.item 4=.bool x.piece:=rfl
theorem Ends.fold (c0:Ip) (c1:Ip) (c2:Int) (c3:Int) (c4:Bool):AV.agg [c0.av,c1.av,.int .i64 c2,.int .i64 c3,.bool c4]=Ends.av ⟨c0,c1,c2,c3,c4⟩:=rfl
structure Tup where
 proto:Int
 src:Ip
 dst:Ip
 sport:Int
 dport:Int
 deriving DecidableEq
def Tup.av (x:Tup):AV:=.agg [.int .i64 x.proto,x.src.av,x.dst.av,.int .i64 x.sport,.int .i64 x.dport]
def Tup.of (x:AV):Tup:=⟨(x.item 0).toInt,(Ip.of (x.item 1)),(Ip.of (x.item 2)),(x.item 3).toInt,(x.item 4).toInt⟩
def Tup.z:Tup:=⟨0,Ip.z,Ip.z,0,0⟩
@[simp] theorem Tup.of_av (x:Tup):Tup.of x.av=x:=by
  cases x
  simp only [Tup.of,Tup.av,AV.item,List.getD_cons_zero,List.getD_cons_succ,AV.toInt,AV.toBool,AV.toInts,AV.toElems,List.map_map,Ip.of_av]
@[simp] theorem Tup.eta (x:Tup):eta s66 x.av=x.av:=rfl
theorem Tup.i0 (x:Tup):x.av.item 0=.int .i64 x.proto:=rfl
theorem Tup.i1 (x:Tup):x.av.item 1=x.src.av:=rfl
theorem Tup.i2 (x:Tup):x.av.item 2=x.dst.av:=rfl
theorem Tup.i3 (x:Tup):x.av.item 3=.int .i64 x.sport:=rfl
theorem Tup.i4 (x:Tup):x.av.item 4=.int .i64 x.dport:=rfl
theorem Tup.fold (c0:Int) (c1:Ip) (c2:Ip) (c3:Int) (c4:Int):AV.agg [.int .i64 c0,c1.av,c2.av,.int .i64 c3,.int .i64 c4]=Tup.av ⟨c0,c1,c2,c3,c4⟩:=rfl
structure Pkt where
 dst:List Int
 src:List Int
 tags:List Tag
 kind:Int
 arp:Arp
 ip4:Ip4
 ip6:Ip6
 l4:Int
 icmp:Icmp
 udp:Udp
 tcp:Tcp
 deriving DecidableEq
def Pkt.av (x:Pkt):AV:=.agg [.arr .u8 6 x.dst,.arr .u8 6 x.src,.fv s79 (x.tags.map Tag.av),.int .i64 x.kind,x.arp.av,x.ip4.av,x.ip6.av,.int .i64 x.l4,x.icmp.av,x.udp.av,x.tcp.av]
def Pkt.of (x:AV):Pkt:=⟨(x.item 0).toInts,(x.item 1).toInts,((x.item 2).toElems.map Tag.of),(x.item 3).toInt,(Arp.of (x.item 4)),(Ip4.of (x.item 5)),(Ip6.of (x.item 6)),(x.item 7).toInt,(Icmp.of (x.item 8)),(Udp.of (x.item 9)),(Tcp.of (x.item 10))⟩
def Pkt.z:Pkt:=⟨[0,0,0,0,0,0],[0,0,0,0,0,0],[],0,Arp.z,Ip4.z,Ip6.z,0,Icmp.z,Udp.z,Tcp.z⟩
@[simp] theorem Pkt.of_av (x:Pkt):Pkt.of x.av=x:=by
  cases x
  simp only [Pkt.of,Pkt.av,AV.item,List.getD_cons_zero,List.getD_cons_succ,AV.toInt,AV.toBool,AV.toInts,AV.toElems,List.map_map,Arp.of_av,Icmp.of_av,Ip4.of_av,Ip6.of_av,Tag.of_av,Tcp.of_av,Udp.of_av]
  first | rfl | simp [Function.comp_def,Arp.of_av,Icmp.of_av,Ip4.of_av,Ip6.of_av,Tag.of_av,Tcp.of_av,Udp.of_av]
@[simp] theorem Pkt.eta (x:Pkt):eta s46 x.av=x.av:=rfl
theorem Pkt.i0 (x:Pkt):x.av.item 0=.arr .u8 6 x.dst:=rfl
theorem Pkt.i1 (x:Pkt):x.av.item 1=.arr .u8 6 x.src:=rfl
theorem Pkt.i2 (x:Pkt):x.av.item 2=.fv s79 (x.tags.map Tag.av):=rfl
theorem Pkt.i3 (x:Pkt):x.av.item 3=.int .i64 x.kind:=rfl
theorem Pkt.i4 (x:Pkt):x.av.item 4=x.arp.av:=rfl
theorem Pkt.i5 (x:Pkt):x.av.item 5=x.ip4.av:=rfl
theorem Pkt.i6 (x:Pkt):x.av.item 6=x.ip6.av:=rfl
theorem Pkt.i7 (x:Pkt):x.av.item 7=.int .i64 x.l4:=rfl
theorem Pkt.i8 (x:Pkt):x.av.item 8=x.icmp.av:=rfl
theorem Pkt.i9 (x:Pkt):x.av.item 9=x.udp.av:=rfl
theorem Pkt.i10 (x:Pkt):x.av.item 10=x.tcp.av:=rfl
theorem Pkt.fold (c0:List Int) (c1:List Int) (c2:List Tag) (c3:Int) (c4:Arp) (c5:Ip4) (c6:Ip6) (c7:Int) (c8:Icmp) (c9:Udp) (c10:Tcp):AV.agg [.arr .u8 6 c0,.arr .u8 6 c1,.fv s79 (c2.map Tag.av),.int .i64 c3,c4.av,c5.av,c6.av,.int .i64 c7,c8.av,c9.av,c10.av]=Pkt.av ⟨c0,c1,c2,c3,c4,c5,c6,c7,c8,c9,c10⟩:=rfl
structure Chn where
 exts:List Ext
 frag:Frag
 next:Int
 data:List Int
 deriving DecidableEq
def Chn.av (x:Chn):AV:=.agg [.fv s124 (x.exts.map Ext.av),x.frag.av,.int .i64 x.next,.fs .u8 x.data]
def Chn.of (x:AV):Chn:=⟨((x.item 0).toElems.map Ext.of),(Frag.of (x.item 1)),(x.item 2).toInt,(x.item 3).toInts⟩
def Chn.z:Chn:=⟨[],Frag.z,0,[]⟩
@[simp] theorem Chn.of_av (x:Chn):Chn.of x.av=x:=by
  cases x
  simp only [Chn.of,Chn.av,AV.item,List.getD_cons_zero,List.getD_cons_succ,AV.toInt,AV.toBool,AV.toInts,AV.toElems,List.map_map,Ext.of_av,Frag.of_av]
  first | rfl | simp [Function.comp_def,Ext.of_av,Frag.of_av]
theorem Chn.i0 (x:Chn):x.av.item 0=.fv s124 (x.exts.map Ext.av):=rfl
theorem Chn.i1 (x:Chn):x.av.item 1=x.frag.av:=rfl
theorem Chn.i2 (x:Chn):x.av.item 2=.int .i64 x.next:=rfl
theorem Chn.i3 (x:Chn):x.av.item 3=.fs .u8 x.data:=rfl
theorem Chn.fold (c0:List Ext) (c1:Frag) (c2:Int) (c3:List Int):AV.agg [.fv s124 (c0.map Ext.av),c1.av,.int .i64 c2,.fs .u8 c3]=Chn.av ⟨c0,c1,c2,c3⟩:=rfl
theorem Tag.nil:AV.fv s79 []=AV.fv s79 (List.map Tag.av []):=rfl
theorem Opt.nil:AV.fv s93 []=AV.fv s93 (List.map Opt.av []):=rfl
theorem Ext.nil:AV.fv s124 []=AV.fv s124 (List.map Ext.av []):=rfl
theorem ge0 ( x:AV) (l:List AV):getE (x::l) 0=x:=rfl
theorem ge1 (a0 x:AV) (l:List AV):getE (a0::x::l) 1=x:=rfl
theorem ge2 (a0 a1 x:AV) (l:List AV):getE (a0::a1::x::l) 2=x:=rfl
theorem ge3 (a0 a1 a2 x:AV) (l:List AV):getE (a0::a1::a2::x::l) 3=x:=rfl
theorem ge4 (a0 a1 a2 a3 x:AV) (l:List AV):getE (a0::a1::a2::a3::x::l) 4=x:=rfl
theorem ge5 (a0 a1 a2 a3 a4 x:AV) (l:List AV):getE (a0::a1::a2::a3::a4::x::l) 5=x:=rfl
theorem ge6 (a0 a1 a2 a3 a4 a5 x:AV) (l:List AV):getE (a0::a1::a2::a3::a4::a5::x::l) 6=x:=rfl
theorem ge7 (a0 a1 a2 a3 a4 a5 a6 x:AV) (l:List AV):getE (a0::a1::a2::a3::a4::a5::a6::x::l) 7=x:=rfl
theorem ge8 (a0 a1 a2 a3 a4 a5 a6 a7 x:AV) (l:List AV):getE (a0::a1::a2::a3::a4::a5::a6::a7::x::l) 8=x:=rfl
theorem ge9 (a0 a1 a2 a3 a4 a5 a6 a7 a8 x:AV) (l:List AV):getE (a0::a1::a2::a3::a4::a5::a6::a7::a8::x::l) 9=x:=rfl
theorem ge10 (a0 a1 a2 a3 a4 a5 a6 a7 a8 a9 x:AV) (l:List AV):getE (a0::a1::a2::a3::a4::a5::a6::a7::a8::a9::x::l) 10=x:=rfl
theorem ge11 (a0 a1 a2 a3 a4 a5 a6 a7 a8 a9 a10 x:AV) (l:List AV):getE (a0::a1::a2::a3::a4::a5::a6::a7::a8::a9::a10::x::l) 11=x:=rfl
theorem ge12 (a0 a1 a2 a3 a4 a5 a6 a7 a8 a9 a10 a11 x:AV) (l:List AV):getE (a0::a1::a2::a3::a4::a5::a6::a7::a8::a9::a10::a11::x::l) 12=x:=rfl
theorem ge13 (a0 a1 a2 a3 a4 a5 a6 a7 a8 a9 a10 a11 a12 x:AV) (l:List AV):getE (a0::a1::a2::a3::a4::a5::a6::a7::a8::a9::a10::a11::a12::x::l) 13=x:=rfl
theorem tI (k:IntKind) (n:Int):(AV.int k n).toInt=n:=rfl
theorem tB (b:Bool):(AV.bool b).toBool=b:=rfl
theorem tA (k:IntKind) (n:Nat) (l:List Int):(AV.arr k n l).toInts=l:=rfl
theorem tF (k:IntKind) (l:List Int):(AV.fs k l).toInts=l:=rfl
theorem tV (s:Sh) (l:List AV):(AV.fv s l).toElems=l:=rfl
theorem tT (l:List AV):(AV.tup l).toElems=l:=rfl
theorem bT {R:Type} (x y:Option R):brO true x y=x:=rfl
theorem bF {R:Type} (x y:Option R):brO false x y=y:=rfl
theorem bI {R:Type} (b:Bool) (x y:Option R):brO b x y=if b=true then x else y:=by cases b <;> rfl
theorem jL {R:Type} (d:List AV) (k:List AV→Option R):jn (inl (some d)) k=k d:=rfl
theorem jR {R:Type} (r:R) (k:List AV→Option R):jn (inr (some r)) k=some r:=rfl
theorem jl {R:Type} (d:List AV) (k:List AV→Option R):jn (some (.inl d)) k=k d:=rfl
theorem jr {R:Type} (r:R) (k:List AV→Option R):jn (some (.inr r)) k=some r:=rfl
theorem jN {R:Type} (k:List AV→Option R):jn none k=none:=rfl
theorem iL {R:Type} (d:List AV):(inl (some d):Option (Sum (List AV) R))=some (.inl d):=rfl
theorem iR {R:Type} (d:R):(inr (some d):Option (Sum (List AV) R))=some (.inr d):=rfl
theorem iLN {R:Type}:(inl none:Option (Sum (List AV) R))=none:=rfl
theorem iRN {R:Type}:(inr (none:Option R):Option (Sum (List AV) R))=none:=rfl
theorem jC {R:Type} (c:Prop) [Decidable c] (x y:Option (Sum (List AV) R)) (k:List AV→Option R):jn (if c then x else y) k=if c then jn x k else jn y k:=by split <;> rfl
theorem iLC {R:Type} (c:Prop) [Decidable c] (x y:Option (List AV)):(inl (if c then x else y):Option (Sum (List AV) R))=if c then inl x else inl y:=by split <;> rfl
theorem iRC {R:Type} (c:Prop) [Decidable c] (x y:Option R):(inr (if c then x else y):Option (Sum (List AV) R))=if c then inr x else inr y:=by split <;> rfl
theorem oC {α β:Type} (c:Prop) [Decidable c] (x y:Option α) (k:α→Option β):(if c then x else y).bind k=if c then x.bind k else y.bind k:=by split <;> rfl
theorem oS {α β:Type} (a:α) (k:α→Option β):(some a).bind k=k a:=rfl
theorem oN {α β:Type} (k:α→Option β):(none:Option α).bind k=none:=rfl
theorem nl0 (x:AV):Nat.beq (List.length ([]:List AV)) 0=true:=rfl
theorem nl1 (a0:AV):Nat.beq (List.length [a0]) 1=true:=rfl
theorem nl2 (a0 a1:AV):Nat.beq (List.length [a0,a1]) 2=true:=rfl
theorem nl3 (a0 a1 a2:AV):Nat.beq (List.length [a0,a1,a2]) 3=true:=rfl
theorem nl4 (a0 a1 a2 a3:AV):Nat.beq (List.length [a0,a1,a2,a3]) 4=true:=rfl
theorem nl5 (a0 a1 a2 a3 a4:AV):Nat.beq (List.length [a0,a1,a2,a3,a4]) 5=true:=rfl
theorem nl6 (a0 a1 a2 a3 a4 a5:AV):Nat.beq (List.length [a0,a1,a2,a3,a4,a5]) 6=true:=rfl
theorem nl7 (a0 a1 a2 a3 a4 a5 a6:AV):Nat.beq (List.length [a0,a1,a2,a3,a4,a5,a6]) 7=true:=rfl
end Go.Proofs.YtlmnjnhmhacgkaaDoor.Am
end
section
set_option linter.unusedVariables false
set_option maxRecDepth 100000
namespace Go.Proofs.YtlmnjnhmhacgkaaDoor.Am
open Go Go.Am Go.Proofs
theorem ZA:type_of% (And.intro @Ip.eta (And.intro @Ip.i0 (And.intro @Ip.i1 (And.intro @Ip.fold (And.intro @Tag.eta (And.intro @Tag.i0 (And.intro @Tag.i1 (And.intro @Tag.i2 (And.intro @Tag.i3 (And.intro @Tag.fold (And.intro @Opt.eta (And.intro @Opt.i0 (And.intro @Opt.i1 (And.intro @Opt.fold (And.intro @Arp.eta @Arp.i0))))))))))))))):=And.intro @Ip.eta (And.intro @Ip.i0 (And.intro @Ip.i1 (And.intro @Ip.fold (And.intro @Tag.eta (And.intro @Tag.i0 (And.intro @Tag.i1 (And.intro @Tag.i2 (And.intro @Tag.i3 (And.intro @Tag.fold (And.intro @Opt.eta (And.intro @Opt.i0 (And.intro @Opt.i1 (And.intro @Opt.fold (And.intro @Arp.eta @Arp.i0))))))))))))))
theorem ZB:type_of% (And.intro @Arp.i1 (And.intro @Arp.i2 (And.intro @Arp.i3 (And.intro @Arp.i4 (And.intro @Arp.fold (And.intro @Ip4.eta (And.intro @Ip4.i0 (And.intro @Ip4.i1 (And.intro @Ip4.i2 (And.intro @Ip4.i3 (And.intro @Ip4.i4 (And.intro @Ip4.i5 (And.intro @Ip4.i6 (And.intro @Ip4.i7 (And.intro @Ip4.i8 @Ip4.i9))))))))))))))):=And.intro @Arp.i1 (And.intro @Arp.i2 (And.intro @Arp.i3 (And.intro @Arp.i4 (And.intro @Arp.fold (And.intro @Ip4.eta (And.intro @Ip4.i0 (And.intro @Ip4.i1 (And.intro @Ip4.i2 (And.intro @Ip4.i3 (And.intro @Ip4.i4 (And.intro @Ip4.i5 (And.intro @Ip4.i6 (And.intro @Ip4.i7 (And.intro @Ip4.i8 @Ip4.i9))))))))))))))
theorem ZC:type_of% (And.intro @Ip4.i10 (And.intro @Ip4.fold (And.intro @Frag.eta (And.intro @Frag.i0 (And.intro @Frag.i1 (And.intro @Frag.i2 (And.intro @Frag.i3 (And.intro @Frag.fold (And.intro @Ext.eta (And.intro @Ext.i0 (And.intro @Ext.i1 (And.intro @Ext.i2 (And.intro @Ext.fold (And.intro @Ip6.eta (And.intro @Ip6.i0 @Ip6.i1))))))))))))))):=And.intro @Ip4.i10 (And.intro @Ip4.fold (And.intro @Frag.eta (And.intro @Frag.i0 (And.intro @Frag.i1 (And.intro @Frag.i2 (And.intro @Frag.i3 (And.intro @Frag.fold (And.intro @Ext.eta (And.intro @Ext.i0 (And.intro @Ext.i1 (And.intro @Ext.i2 (And.intro @Ext.fold (And.intro @Ip6.eta (And.intro @Ip6.i0 @Ip6.i1))))))))))))))
theorem ZD:type_of% (And.intro @Ip6.i2 (And.intro @Ip6.i3 (And.intro @Ip6.i4 (And.intro @Ip6.i5 (And.intro @Ip6.i6 (And.intro @Ip6.i7 (And.intro @Ip6.i8 (And.intro @Ip6.fold (And.intro @Icmp.eta (And.intro @Icmp.i0 (And.intro @Icmp.i1 (And.intro @Icmp.i2 (And.intro @Icmp.i3 (And.intro @Icmp.i4 (And.intro @Icmp.fold @Udp.eta))))))))))))))):=And.intro @Ip6.i2 (And.intro @Ip6.i3 (And.intro @Ip6.i4 (And.intro @Ip6.i5 (And.intro @Ip6.i6 (And.intro @Ip6.i7 (And.intro @Ip6.i8 (And.intro @Ip6.fold (And.intro @Icmp.eta (And.intro @Icmp.i0 (And.intro @Icmp.i1 (And.intro @Icmp.i2 (And.intro @Icmp.i3 (And.intro @Icmp.i4 (And.intro @Icmp.fold @Udp.eta))))))))))))))
theorem ZE:type_of% (And.intro @Udp.i0 (And.intro @Udp.i1 (And.intro @Udp.i2 (And.intro @Udp.i3 (And.intro @Udp.fold (And.intro @Tcp.eta (And.intro @Tcp.i0 (And.intro @Tcp.i1 (And.intro @Tcp.i2 (And.intro @Tcp.i3 (And.intro @Tcp.i4 (And.intro @Tcp.i5 (And.intro @Tcp.i6 (And.intro @Tcp.i7 (And.intro @Tcp.i8 @Tcp.fold))))))))))))))):=And.intro @Udp.i0 (And.intro @Udp.i1 (And.intro @Udp.i2 (And.intro @Udp.i3 (And.intro @Udp.fold (And.intro @Tcp.eta (And.intro @Tcp.i0 (And.intro @Tcp.i1 (And.intro @Tcp.i2 (And.intro @Tcp.i3 (And.intro @Tcp.i4 (And.intro @Tcp.i5 (And.intro @Tcp.i6 (And.intro @Tcp.i7 (And.intro @Tcp.i8 @Tcp.fold))))))))))))))
theorem ZF:type_of% (And.intro @Frm.eta (And.intro @Frm.i0 (And.intro @Frm.i1 (And.intro @Frm.i2 (And.intro @Frm.i3 (And.intro @Frm.i4 (And.intro @Frm.fold (And.intro @Ends.eta (And.intro @Ends.i0 (And.intro @Ends.i1 (And.intro @Ends.i2 (And.intro @Ends.i3 (And.intro @Ends.i4 (And.intro @Ends.fold (And.intro @Tup.eta @Tup.i0))))))))))))))):=And.intro @Frm.eta (And.intro @Frm.i0 (And.intro @Frm.i1 (And.intro @Frm.i2 (And.intro @Frm.i3 (And.intro @Frm.i4 (And.intro @Frm.fold (And.intro @Ends.eta (And.intro @Ends.i0 (And.intro @Ends.i1 (And.intro @Ends.i2 (And.intro @Ends.i3 (And.intro @Ends.i4 (And.intro @Ends.fold (And.intro @Tup.eta @Tup.i0))))))))))))))
theorem ZG:type_of% (And.intro @Tup.i1 (And.intro @Tup.i2 (And.intro @Tup.i3 (And.intro @Tup.i4 (And.intro @Tup.fold (And.intro @Pkt.eta (And.intro @Pkt.i0 (And.intro @Pkt.i1 (And.intro @Pkt.i2 (And.intro @Pkt.i3 (And.intro @Pkt.i4 (And.intro @Pkt.i5 (And.intro @Pkt.i6 (And.intro @Pkt.i7 (And.intro @Pkt.i8 @Pkt.i9))))))))))))))):=And.intro @Tup.i1 (And.intro @Tup.i2 (And.intro @Tup.i3 (And.intro @Tup.i4 (And.intro @Tup.fold (And.intro @Pkt.eta (And.intro @Pkt.i0 (And.intro @Pkt.i1 (And.intro @Pkt.i2 (And.intro @Pkt.i3 (And.intro @Pkt.i4 (And.intro @Pkt.i5 (And.intro @Pkt.i6 (And.intro @Pkt.i7 (And.intro @Pkt.i8 @Pkt.i9))))))))))))))
theorem ZH:type_of% (And.intro @Pkt.i10 (And.intro @Pkt.fold (And.intro @Chn.i0 (And.intro @Chn.i0 (And.intro @Chn.i1 (And.intro @Chn.i2 (And.intro @Chn.i3 (And.intro @Chn.fold (And.intro @Tag.nil (And.intro @Opt.nil (And.intro @Ext.nil (And.intro @ge0 (And.intro @ge1 (And.intro @ge2 (And.intro @ge3 @ge4))))))))))))))):=And.intro @Pkt.i10 (And.intro @Pkt.fold (And.intro @Chn.i0 (And.intro @Chn.i0 (And.intro @Chn.i1 (And.intro @Chn.i2 (And.intro @Chn.i3 (And.intro @Chn.fold (And.intro @Tag.nil (And.intro @Opt.nil (And.intro @Ext.nil (And.intro @ge0 (And.intro @ge1 (And.intro @ge2 (And.intro @ge3 @ge4))))))))))))))
theorem ZI:type_of% (And.intro @ge5 (And.intro @ge6 (And.intro @ge7 (And.intro @ge8 (And.intro @ge9 (And.intro @ge10 (And.intro @ge11 (And.intro @ge12 (And.intro @ge13 (And.intro @nl0 (And.intro @nl1 (And.intro @nl2 (And.intro @nl3 (And.intro @nl4 (And.intro @nl5 @nl6))))))))))))))):=And.intro @ge5 (And.intro @ge6 (And.intro @ge7 (And.intro @ge8 (And.intro @ge9 (And.intro @ge10 (And.intro @ge11 (And.intro @ge12 (And.intro @ge13 (And.intro @nl0 (And.intro @nl1 (And.intro @nl2 (And.intro @nl3 (And.intro @nl4 (And.intro @nl5 @nl6))))))))))))))
theorem ZJ:type_of% (And.intro @nl7 (And.intro @tI (And.intro @tB (And.intro @tA (And.intro @tF (And.intro @tV (And.intro @tT (And.intro @bT (And.intro @bF (And.intro @jL (And.intro @jR (And.intro @jl (And.intro @jr (And.intro @jN (And.intro @iL @iR))))))))))))))):=And.intro @nl7 (And.intro @tI (And.intro @tB (And.intro @tA (And.intro @tF (And.intro @tV (And.intro @tT (And.intro @bT (And.intro @bF (And.intro @jL (And.intro @jR (And.intro @jl (And.intro @jr (And.intro @jN (And.intro @iL @iR))))))))))))))
theorem ZK:type_of% (And.intro @iLN (And.intro @iRN (And.intro @oS @oN))):=And.intro @iLN (And.intro @iRN (And.intro @oS @oN))
theorem ZX:type_of% (And.intro @bI (And.intro @jC (And.intro @iLC (And.intro @iRC @oC)))):=And.intro @bI (And.intro @jC (And.intro @iLC (And.intro @iRC @oC)))
theorem ZZ:type_of% (And.intro ZA (And.intro ZB (And.intro ZC (And.intro ZD (And.intro ZE (And.intro ZF (And.intro ZG (And.intro ZH (And.intro ZI (And.intro ZJ ZK)))))))))):=And.intro ZA (And.intro ZB (And.intro ZC (And.intro ZD (And.intro ZE (And.intro ZF (And.intro ZG (And.intro ZH (And.intro ZI (And.intro ZJ ZK)))))))))
theorem ZW:type_of% (And.intro @decide_eq_true_eq (And.intro @Bool.not_eq_true' (And.intro (@beq_iff_eq Int _ _) (And.intro (@beq_iff_eq Nat _ _) (And.intro (@beq_iff_eq Bool _ _) (And.intro (@bne_iff_ne Int _ _) (And.intro (@bne_iff_ne Nat _ _) (And.intro (@bne_iff_ne Bool _ _) (And.intro (fun (α:Type) (a b:α)=>@ne_eq α a b) (And.intro @Bool.and_eq_true @Bool.or_eq_true)))))))))):=And.intro @decide_eq_true_eq (And.intro @Bool.not_eq_true' (And.intro (@beq_iff_eq Int _ _) (And.intro (@beq_iff_eq Nat _ _) (And.intro (@beq_iff_eq Bool _ _) (And.intro (@bne_iff_ne Int _ _) (And.intro (@bne_iff_ne Nat _ _) (And.intro (@bne_iff_ne Bool _ _) (And.intro (fun (α:Type) (a b:α)=>@ne_eq α a b) (And.intro @Bool.and_eq_true @Bool.or_eq_true)))))))))
theorem ZY:type_of% (And.intro ZZ (And.intro ZX ZW)):=And.intro ZZ (And.intro ZX ZW)
end Go.Proofs.YtlmnjnhmhacgkaaDoor.Am
end
section
set_option linter.unusedVariables false
set_option linter.unusedSimpArgs false
set_option maxRecDepth 100000
namespace Go.Proofs.YtlmnjnhmhacgkaaDoor.Am
open Go Go.Am Go.Proofs
theorem iter_any {R σ:Type} {g:List AV→(List AV→Option R)→Option R} (enc:σ→List AV) (μ:σ→Nat) (res:σ→R) (Good:σ→Prop)
  (hstep:∀ x k,Good x→(∀ y,μ y<μ x→Good y→k (enc y)=some (res y))→g (enc x) k=some (res x)):∀ n x,μ x<n→Good x→iter g n (enc x)=some (res x):=by
 intro n
 induction n with
 | zero=>intro x h; omega
 | succ n ih=>
  intro x h hg
  exact hstep x (iter g n) hg (fun y hy hgy=>ih y (by omega) hgy)
theorem jn_it {R σ:Type} {g:List AV→(List AV→Option (Sum (List AV) R))→Option (Sum (List AV) R)} {n:Nat} {K:List AV→Option R} {r:Option R} (enc:σ→List AV) (μ:σ→Nat) (out:σ→List AV) (Good:σ→Prop) (x:σ) (hμ:μ x<n) (hg:Good x)
  (hstep:∀ x k,Good x→(∀ y,μ y<μ x→Good y→k (enc y)=some (.inl (out y)))→g (enc x) k=some (.inl (out x))) (hK:K (out x)=r):jn (iter g n (enc x)) K=r:=by
 rw [iter_any enc μ (fun x=>Sum.inl (out x)) Good hstep n x hμ hg]
 exact hK
theorem jn_it' {R σ:Type} {g:List AV→(List AV→Option (Sum (List AV) R))→Option (Sum (List AV) R)} {n:Nat} {K:List AV→Option R} {r:Option R} (enc:σ→List AV) (μ:σ→Nat) (out:σ→Sum (List AV) R) (Good:σ→Prop) (x:σ) (hμ:μ x<n) (hg:Good x)
  (hstep:∀ x k,Good x→(∀ y,μ y<μ x→Good y→k (enc y)=some (out y))→g (enc x) k=some (out x)) (hK:jn (some (out x)) K=r):jn (iter g n (enc x)) K=r:=by
 rw [iter_any enc μ out Good hstep n x hμ hg]
 exact hK
theorem jn_c {R:Type} {x y:Option (Sum (List AV) R)} {K:List AV→Option R} {r:Option R} (h:x=y) (h2:jn y K=r):jn x K=r:=by rw [h]; exact h2
def Bytes (l:List Int):Prop:=∀ x∈l,0≤x∧x≤255
instance (l:List Int):Decidable (Bytes l):=by unfold Bytes; infer_instance
theorem Bytes.get {l:List Int} (h:Bytes l) (i:Nat):0≤getI l i∧getI l i≤255:=by
 unfold getI
 rw [List.getD_eq_getElem?_getD]
 cases e:l[i]? with
 | none=>exact ⟨Int.le_refl _,by decide⟩
 | some x=>exact h x (List.mem_of_getElem? e)
theorem Bytes.take {l:List Int} (h:Bytes l) (n:Nat):Bytes (l.take n):=fun x hx=>h x (List.mem_of_mem_take hx)
theorem Bytes.drop {l:List Int} (h:Bytes l) (n:Nat):Bytes (l.drop n):=fun x hx=>h x (List.mem_of_mem_drop hx)
theorem Bytes.app {l m:List Int} (h:Bytes l) (h' : Bytes m):Bytes (l++m):=fun x hx=>(List.mem_append.1 hx).elim (h x) (h' x)
theorem toNat_ofInt64 {c:Nat} (h:c<18446744073709551616):(BitVec.ofInt 64 (c:Int)).toNat=c:=by
 rw [BitVec.toNat_ofInt]
 show ((c:Int) % (18446744073709551616:Nat)).toNat=c
 omega
theorem or_add {x y:Int} (k:Nat) (hk:k≤60) (h1:0≤x) (h2:x<2 ^ 62) (h3:0≤y) (h4:y<2 ^ k) (hx:x % 2 ^ k=0) :
  (((BitVec.ofInt 64 x ||| BitVec.ofInt 64 y).toNat:Nat):Int)=x+y:=by
 obtain ⟨a,rfl⟩:=Int.eq_ofNat_of_zero_le h1
 obtain ⟨b,rfl⟩:=Int.eq_ofNat_of_zero_le h3
 have hp:(2:Nat) ^ k≤2 ^ 60:=Nat.pow_le_pow_right (by omega) hk
 have e1:(2:Int) ^ k=((2 ^ k:Nat):Int):=by rw [Int.natCast_pow]; rfl
 rw [e1] at h4 hx
 have hb:b<2 ^ k:=by exact_mod_cast h4
 have ha:a % 2 ^ k=0:=by exact_mod_cast hx
 have ha' : a<4611686018427387904:=by omega
 have hb' : b<18446744073709551616:=by omega
 rw [BitVec.toNat_or,toNat_ofInt64 (by omega),toNat_ofInt64 hb']
 have:a ||| b=a+b:=by
  obtain ⟨c,rfl⟩:=Nat.dvd_of_mod_eq_zero ha
  exact (Nat.two_pow_add_eq_or_of_lt hb c).symm
 rw [this]
 simp
theorem byte_bit {x:Int} (h1:0≤x) (h2:x≤255) {s:Nat} (hs:s≤7):IntKind.wrap .u8 (Int.ofNat (BitVec.toNat ((BitVec.ofInt 8 (Int.fdiv x (2 ^ s))) &&& (BitVec.ofInt 8 1))))=x / 2 ^ s % 2:=by
 obtain ⟨a,rfl⟩:=Int.eq_ofNat_of_zero_le h1
 rw [Int.fdiv_eq_ediv_of_nonneg _ (Int.le_of_lt (Int.pow_pos (by decide))),W8]
 have e1:(2:Int) ^ s=((2 ^ s:Nat):Int):=by rw [Int.natCast_pow]; rfl
 rw [e1,←Int.natCast_ediv]
 have hd:a / 2 ^ s≤255:=Nat.le_trans (Nat.div_le_self _ _) (by omega)
 rw [BitVec.toNat_and,BitVec.toNat_ofInt,BitVec.toNat_ofInt]
 generalize a / 2 ^ s=q at hd ⊢
 have e2:((q:Int) % (2 ^ 8:Nat)).toNat=q:=by omega
 have e3:((1:Int) % (2 ^ 8:Nat)).toNat=1:=rfl
 rw [e2,e3,Nat.and_one_is_mod]
 simp
 omega
def wI (ws:List Nat):List Int:=List.map Int.ofNat ws
theorem getI_wI {ws:List Nat} {i:Nat} (h:i<ws.length):getI (wI ws) i=(ws[i]:Int):=by
 unfold getI wI
 simp [List.getD_eq_getElem?_getD,h]
theorem inR_nat {i n:Nat} (h:i<n):inR (i:Int) n=true:=by
 unfold inR
 simp
 exact h
theorem getI_nat (l:List Int) (i:Nat):getI l (Int.toNat (i:Int))=getI l i:=by rw [Int.toNat_natCast]
theorem sum_take_le (ws:List Nat) (i:Nat):(ws.take i).sum≤ws.sum:=by
 have:=List.sum_append (l₁:=ws.take i) (l₂:=ws.drop i)
 rw [List.take_append_drop] at this
 omega
theorem getI_take {l:List Int} {k i:Nat} (h:i<k):getI (l.take k) i=getI l i:=by
 unfold getI
 simp [List.getD_eq_getElem?_getD,List.getElem?_take,h]
end Go.Proofs.YtlmnjnhmhacgkaaDoor.Am
end
section
set_option linter.unusedVariables false
set_option maxRecDepth 100000
namespace Go.Proofs.YtlmnjnhmhacgkaaDoor.Am
open Go Go.Am Go.Proofs
theorem Ip.in_ {x:AV} (h:DWT s27 x):(Ip.of x).av=x:=by
 obtain ⟨cs,rfl,c0,r0,rfl,⟨_,rfl⟩,c1,r1,rfl,⟨_,rfl⟩,h⟩:=h
 cases h; rfl
theorem Tag.in_ {x:AV} (h:DWT s79 x):(Tag.of x).av=x:=by
 obtain ⟨cs,rfl,_,_,rfl,⟨_,rfl⟩,_,_,rfl,⟨_,rfl⟩,_,_,rfl,⟨_,rfl⟩,_,_,rfl,⟨_,rfl⟩,h⟩:=h
 cases h; rfl
theorem Opt.in_ {x:AV} (h:DWT s93 x):(Opt.of x).av=x:=by
 obtain ⟨cs,rfl,_,_,rfl,⟨_,rfl⟩,_,_,rfl,⟨_,rfl⟩,h⟩:=h
 cases h; rfl
theorem list_in {α:Type} {of:AV→α} {av:α→AV} {s:Sh} (hi:∀ x,DWT s x→av (of x)=x) {xs:List AV} (h:∀ y∈xs,DWT s y):(xs.map of).map av=xs:=by
 rw [List.map_map]
 exact (List.map_congr_left (fun x hx=>hi x (h x hx))).trans (List.map_id _)
theorem Arp.in_ {x:AV} (h:DWT s29 x):(Arp.of x).av=x:=by
 obtain ⟨cs,rfl,_,_,rfl,⟨_,rfl⟩,_,_,rfl,⟨_,rfl⟩,a,_,rfl,ha,_,_,rfl,⟨_,rfl⟩,b,_,rfl,hb,h⟩:=h
 cases h
 show AV.agg [_,_,(Ip.of a).av,_,(Ip.of b).av]=_
 rw [Ip.in_ ha,Ip.in_ hb]; rfl
theorem Ip4.in_ {x:AV} (h:DWT s33 x):(Ip4.of x).av=x:=by
 obtain ⟨cs,rfl,_,_,rfl,⟨_,rfl⟩,_,_,rfl,⟨_,rfl⟩,_,_,rfl,⟨_,rfl⟩,_,_,rfl,⟨_,rfl⟩,_,_,rfl,⟨_,rfl⟩,_,_,rfl,⟨_,rfl⟩,_,_,rfl,⟨_,rfl⟩,a,_,rfl,ha,b,_,rfl,hb,_,_,rfl,⟨xs,rfl,hx⟩,_,_,rfl,⟨_,rfl⟩,h⟩:=h
 cases h
 show AV.agg [_,_,_,_,_,_,_,(Ip.of a).av,(Ip.of b).av,.fv s93 ((xs.map Opt.of).map Opt.av),_]=_
 rw [Ip.in_ ha,Ip.in_ hb,list_in (fun x=>Opt.in_) hx]; rfl
theorem Frag.in_ {x:AV} (h:DWT s36 x):(Frag.of x).av=x:=by
 obtain ⟨cs,rfl,_,_,rfl,⟨_,rfl⟩,_,_,rfl,⟨_,rfl⟩,_,_,rfl,⟨_,rfl⟩,_,_,rfl,⟨_,rfl⟩,h⟩:=h
 cases h; rfl
theorem Ext.in_ {x:AV} (h:DWT s124 x):(Ext.of x).av=x:=by
 obtain ⟨cs,rfl,_,_,rfl,⟨_,rfl⟩,_,_,rfl,⟨xs,rfl,hx⟩,_,_,rfl,⟨_,rfl⟩,h⟩:=h
 cases h
 show AV.agg [_,.fv s93 ((xs.map Opt.of).map Opt.av),_]=_
 rw [list_in (fun x=>Opt.in_) hx]; rfl
theorem Ip6.in_ {x:AV} (h:DWT s38 x):(Ip6.of x).av=x:=by
 obtain ⟨cs,rfl,_,_,rfl,⟨_,rfl⟩,_,_,rfl,⟨_,rfl⟩,_,_,rfl,⟨_,rfl⟩,a,_,rfl,ha,b,_,rfl,hb,_,_,rfl,⟨xs,rfl,hx⟩,f,_,rfl,hf,_,_,rfl,⟨_,rfl⟩,_,_,rfl,⟨_,rfl⟩,h⟩:=h
 cases h
 show AV.agg [_,_,_,(Ip.of a).av,(Ip.of b).av,.fv s124 ((xs.map Ext.of).map Ext.av),(Frag.of f).av,_,_]=_
 rw [Ip.in_ ha,Ip.in_ hb,list_in (fun x=>Ext.in_) hx,Frag.in_ hf]; rfl
theorem Icmp.in_ {x:AV} (h:DWT s40 x):(Icmp.of x).av=x:=by
 obtain ⟨cs,rfl,_,_,rfl,⟨_,rfl⟩,_,_,rfl,⟨_,rfl⟩,_,_,rfl,⟨_,rfl⟩,_,_,rfl,⟨_,rfl⟩,_,_,rfl,⟨_,rfl⟩,h⟩:=h
 cases h; rfl
theorem Udp.in_ {x:AV} (h:DWT s42 x):(Udp.of x).av=x:=by
 obtain ⟨cs,rfl,_,_,rfl,⟨_,rfl⟩,_,_,rfl,⟨_,rfl⟩,_,_,rfl,⟨_,rfl⟩,_,_,rfl,⟨_,rfl⟩,h⟩:=h
 cases h; rfl
theorem Tcp.in_ {x:AV} (h:DWT s44 x):(Tcp.of x).av=x:=by
 obtain ⟨cs,rfl,_,_,rfl,⟨_,rfl⟩,_,_,rfl,⟨_,rfl⟩,_,_,rfl,⟨_,rfl⟩,_,_,rfl,⟨_,rfl⟩,_,_,rfl,⟨_,rfl⟩,_,_,rfl,⟨_,rfl⟩,_,_,rfl,⟨_,rfl⟩,_,_,rfl,⟨xs,rfl,hx⟩,_,_,rfl,⟨_,rfl⟩,h⟩:=h
 cases h
 show AV.agg [_,_,_,_,_,_,_,.fv s93 ((xs.map Opt.of).map Opt.av),_]=_
 rw [list_in (fun x=>Opt.in_) hx]; rfl
theorem Tup.in_ {x:AV} (h:DWT s66 x):(Tup.of x).av=x:=by
 obtain ⟨cs,rfl,_,_,rfl,⟨_,rfl⟩,a,_,rfl,ha,b,_,rfl,hb,_,_,rfl,⟨_,rfl⟩,_,_,rfl,⟨_,rfl⟩,h⟩:=h
 cases h
 show AV.agg [_,(Ip.of a).av,(Ip.of b).av,_,_]=_
 rw [Ip.in_ ha,Ip.in_ hb]; rfl
theorem Pkt.in_ {x:AV} (h:DWT s46 x):(Pkt.of x).av=x:=by
 obtain ⟨cs,rfl,_,_,rfl,⟨_,rfl⟩,_,_,rfl,⟨_,rfl⟩,_,_,rfl,⟨xs,rfl,hx⟩,_,_,rfl,⟨_,rfl⟩,a,_,rfl,ha,b,_,rfl,hb,c,_,rfl,hc,_,_,rfl,⟨_,rfl⟩,d,_,rfl,hd,e,_,rfl,he,f,_,rfl,hf,h⟩:=h
 cases h
 show AV.agg [_,_,.fv s79 ((xs.map Tag.of).map Tag.av),_,(Arp.of a).av,(Ip4.of b).av,(Ip6.of c).av,_,(Icmp.of d).av,(Udp.of e).av,(Tcp.of f).av]=_
 rw [list_in (fun x=>Tag.in_) hx,Arp.in_ ha,Ip4.in_ hb,Ip6.in_ hc,Icmp.in_ hd,Udp.in_ he,Tcp.in_ hf]; rfl
end Go.Proofs.YtlmnjnhmhacgkaaDoor.Am
end
section
set_option linter.unusedVariables false
set_option linter.unusedSimpArgs false
set_option maxRecDepth 100000
namespace Go.Proofs.YtlmnjnhmhacgkaaDoor.Am
open Go Go.Am Go.Proofs
def endsOf (p:Pkt):Ends:=
 if p.kind=2 then ⟨p.ip4.src,p.ip4.dst,4,p.ip4.proto,p.ip4.mf || decide (p.ip4.off > 0)⟩
 else ⟨p.ip6.src,p.ip6.dst,6,p.ip6.next,p.ip6.frag.has⟩
theorem a55 (n:Nat) (p:Pkt):A55 n [p.av]=some [(endsOf p).av]:=by
 show run55 n p.av=_
 rw [eq55]
 simp only [ZY]
 unfold endsOf
 by_cases h:p.kind=2
 ·rw [if_pos h,if_pos h]
  by_cases h2:p.ip4.mf=true
  ·rw [if_pos h2]; simp [h2]
  ·rw [if_neg h2]; simp [h2]
 ·rw [if_neg h,if_neg h]
def half (r:Int):Int:=IntKind.wrap .i64 (Int.ofNat (BitVec.toNat ((BitVec.ofInt 64 (Int.fdiv r (Int.ofNat (2 ^ (Min.min (Int.toNat 16) (IntKind.bits .i64)))))) &&& (BitVec.ofInt 64 65535))))
def echo (m:Icmp) (ask answer:Int):Int × Int × Bool:=
 if m.code≠0 then (0,0,false) else if m.type=ask then (half m.rest,0,true) else if m.type=answer then (0,half m.rest,true) else (0,0,false)
theorem a61 (n:Nat) (m:Icmp) (a b:Int):A61 n [m.av,.int .i64 a,.int .i64 b]=some [.int .i64 (echo m a b).1,.int .i64 (echo m a b).2.1,.bool (echo m a b).2.2]:=by
 show run61 n m.av a b=_
 rw [eq61]
 simp only [ZY]
 unfold echo half
 split
 ·rfl
 ·split
  ·rfl
  ·split <;> rfl
def tuple (p:Pkt):Tup × Bool:=
 if p.kind≠2∧p.kind≠3 then (Tup.z,false) else
 let x:=endsOf p
 if p.l4=3 then (⟨6,x.src,x.dst,p.tcp.sport,p.tcp.dport⟩,true)
 else if p.l4=2 then (⟨17,x.src,x.dst,p.udp.sport,p.udp.dport⟩,true)
 else if p.l4=1 then
  (let e:=if x.v=6 then echo p.icmp 128 129 else echo p.icmp 8 0
   if e.2.2=true then (⟨if x.v=6 then 58 else 1,x.src,x.dst,e.1,e.2.1⟩,true) else (Tup.z,false))
 else (Tup.z,false)
theorem Ip.zf:AV.agg [(.int .i64 0),(.arr .u8 16 [0,0,0,0,0,0,0,0,0,0,0,0,0,0,0,0])]=Ip.z.av:=rfl
theorem a27 (n:Nat) (p:Pkt):A27 n [p.av]=some [(tuple p).1.av,.bool (tuple p).2]:=by
 show run27 A55 A61 n p.av=_
 rw [eq27]
 simp only [ZY,a55,a61,Ip.zf]
 unfold tuple
 by_cases h2:p.kind=2
 ·have h3:(endsOf p).v=4:=by simp [endsOf,h2]
  by_cases q3:p.l4=3
  ·simp [h2,q3,h3,ZY,a55,a61]
  by_cases q2:p.l4=2
  ·simp [h2,q2,h3,ZY,a55,a61]
  by_cases q1:p.l4=1
  ·cases he:(echo p.icmp 8 0).2.2 <;> simp [h2,q1,h3,he,ZY,a55,a61] <;> rfl
  ·simp [h2,q1,q2,q3,h3,ZY,a55,a61]; rfl
 ·by_cases h2' : p.kind=3
  ·have h3:(endsOf p).v=6:=by simp [endsOf,h2]
   by_cases q3:p.l4=3
   ·simp [h2',q3,h3,ZY,a55,a61]
   by_cases q2:p.l4=2
   ·simp [h2',q2,h3,ZY,a55,a61]
   by_cases q1:p.l4=1
   ·cases he:(echo p.icmp 128 129).2.2 <;> simp [h2',q1,h3,he,ZY,a55,a61] <;> rfl
   ·simp [h2',q1,q2,q3,h3,ZY,a55,a61]; rfl
  ·simp [h2,h2',ZY]; rfl
def byteOf (bs:List Int) (i:Nat):Int:=getI bs (8 * i) * 128+getI bs (8 * i+1) * 64+getI bs (8 * i+2) * 32+getI bs (8 * i+3) * 16+getI bs (8 * i+4) * 8+getI bs (8 * i+5) * 4+getI bs (8 * i+6) * 2+getI bs (8 * i+7)
def mkB (k:Nat) (bs:List Int):List Int:=(List.range k).map (byteOf bs)
def bitsOf (w:Nat) (v:Int):List Int:=(List.range w).map fun t=>v / 2 ^ (w - 1 - t) % 2
def allB:List (Nat × Int)→List Int
 | []=>[]
 | p::l=>bitsOf p.1 p.2++allB l
def Bits (l:List Int):Prop:=∀ x∈l,x=0∨x=1
def wSum (ps:List (Nat × Int)):Nat:=(ps.map Prod.fst).sum
theorem bits_len (w:Nat) (v:Int):(bitsOf w v).length=w:=by simp [bitsOf]
theorem bits_01 (w:Nat) (v:Int):Bits (bitsOf w v):=by
 intro x hx
 obtain ⟨t,_,rfl⟩:=List.mem_map.1 hx
 omega
theorem allB_len (ps:List (Nat × Int)):(allB ps).length=wSum ps:=by
 induction ps with
 | nil=>rfl
 | cons p l ih=>simp [allB,bits_len,ih,wSum]
theorem allB_01 (ps:List (Nat × Int)):Bits (allB ps):=by
 induction ps with
 | nil=>intro x hx; cases hx
 | cons p l ih=>intro x hx; exact (List.mem_append.1 hx).elim (bits_01 _ _ x) (ih x)
theorem allB_app (ps qs:List (Nat × Int)):allB (ps++qs)=allB ps++allB qs:=by
 induction ps with
 | nil=>rfl
 | cons p l ih=>simp [allB,ih]
theorem Bits.get {l:List Int} (h:Bits l) (i:Nat):getI l i=0∨getI l i=1:=by
 unfold getI
 rw [List.getD_eq_getElem?_getD]
 cases e:l[i]? with
 | none=>exact .inl rfl
 | some x=>exact h x (List.mem_of_getElem? e)
theorem getI_ge {l:List Int} {i:Nat} (h:l.length≤i):getI l i=0:=by
 unfold getI
 rw [List.getD_eq_getElem?_getD,List.getElem?_eq_none h]; rfl
theorem getI_app (l m:List Int) (i:Nat):getI (l++m) i=if i<l.length then getI l i else getI m (i - l.length):=by
 unfold getI
 rw [List.getD_eq_getElem?_getD,List.getD_eq_getElem?_getD,List.getD_eq_getElem?_getD]
 split
 ·rw [List.getElem?_append_left (by assumption)]
 ·rw [List.getElem?_append_right (by omega)]
theorem Bits.r {l:List Int} (h:Bits l) (i:Nat):0≤getI l i∧getI l i≤1:=by
 have:=h.get i
 omega
theorem byteOf_r {bs:List Int} (h:Bits bs) (i:Nat):0≤byteOf bs i∧byteOf bs i≤255:=by
 have h0:=h.r (8 * i); have h1:=h.r (8 * i+1); have h2:=h.r (8 * i+2); have h3:=h.r (8 * i+3)
 have h4:=h.r (8 * i+4); have h5:=h.r (8 * i+5); have h6:=h.r (8 * i+6); have h7:=h.r (8 * i+7)
 unfold byteOf
 omega
theorem mkB_len (k:Nat) (bs:List Int):(mkB k bs).length=k:=by simp [mkB]
theorem mkB_bytes {bs:List Int} (h:Bits bs) (k:Nat):Bytes (mkB k bs):=by
 intro x hx
 obtain ⟨i,_,rfl⟩:=List.mem_map.1 hx
 exact byteOf_r h i
theorem getI_mkB {k i:Nat} (bs:List Int) (h:i<k):getI (mkB k bs) i=byteOf bs i:=by
 unfold getI mkB
 simp [List.getD_eq_getElem?_getD,h]
theorem byteOf_app {bs:List Int} (x:Int) (i:Nat):byteOf (bs++[x]) i=if i=bs.length / 8 then byteOf bs i+x * 2 ^ (7 - bs.length % 8) else byteOf bs i:=by
 have g:∀ t:Nat,getI (bs++[x]) t=if t=bs.length then x else getI bs t:=by
  intro t
  rw [getI_app]
  by_cases h:t<bs.length
  ·rw [if_pos h,if_neg (by omega)]
  ·rw [if_neg h]
   by_cases h2:t=bs.length
   ·rw [if_pos h2,h2]; simp [getI]
   ·rw [if_neg h2,getI_ge (l:=bs) (by omega),getI_ge (l:=[x]) (by simp; omega)]
 unfold byteOf
 rw [g,g,g,g,g,g,g,g]
 by_cases hi:i=bs.length / 8
 ·rw [if_pos hi]
  have hz:∀ t,bs.length≤t→getI bs t=0:=fun t h=>getI_ge h
  have hd:=Nat.div_add_mod bs.length 8
  have hm:bs.length % 8<8:=Nat.mod_lt _ (by decide)
  rw [←hi] at hd
  generalize bs.length % 8=r at hm hd ⊢
  match r,hm with
  | 0,_=>simp only [hz (8 * i) (by omega),←hd]; simp [hz (8 * i) (by omega)]; omega
  | 1,_=>simp only [←hd]; simp [hz (8 * i+1) (by omega)]; omega
  | 2,_=>simp only [←hd]; simp [hz (8 * i+2) (by omega)]; omega
  | 3,_=>simp only [←hd]; simp [hz (8 * i+3) (by omega)]; omega
  | 4,_=>simp only [←hd]; simp [hz (8 * i+4) (by omega)]; omega
  | 5,_=>simp only [←hd]; simp [hz (8 * i+5) (by omega)]; omega
  | 6,_=>simp only [←hd]; simp [hz (8 * i+6) (by omega)]; omega
  | 7,_=>simp only [←hd]; simp [hz (8 * i+7) (by omega)]
 ·rw [if_neg hi,if_neg (by omega),if_neg (by omega),if_neg (by omega),if_neg (by omega),if_neg (by omega),if_neg (by omega),if_neg (by omega),if_neg (by omega)]
theorem mkB_app {bs:List Int} (x:Int) {k:Nat} (h:bs.length<8 * k):mkB k (bs++[x])=(mkB k bs).set (bs.length / 8) (byteOf bs (bs.length / 8)+x * 2 ^ (7 - bs.length % 8)):=by
 apply List.ext_getElem
 ·simp [mkB]
 ·intro i h1 h2
  rw [List.getElem_set]
  simp only [mkB,List.getElem_map,List.getElem_range]
  rw [byteOf_app]
  by_cases hi:i=bs.length / 8
  ·rw [if_pos hi,if_pos hi.symm,hi]
  ·rw [if_neg hi,if_neg (fun h=>hi h.symm)]
theorem byteOf_low {bs:List Int} (h:Bits bs):byteOf bs (bs.length / 8) % 2 ^ (8 - bs.length % 8)=0:=by
 have hz:∀ t,bs.length≤t→getI bs t=0:=fun t h=>getI_ge h
 have hd:=Nat.div_add_mod bs.length 8
 have hm:bs.length % 8<8:=Nat.mod_lt _ (by decide)
 generalize bs.length / 8=i at hd ⊢
 unfold byteOf
 generalize bs.length % 8=r at hm hd ⊢
 match r,hm with
 | 0,_=>rw [hz (8 * i) (by omega),hz (8 * i+1) (by omega),hz (8 * i+2) (by omega),hz (8 * i+3) (by omega),hz (8 * i+4) (by omega),hz (8 * i+5) (by omega),hz (8 * i+6) (by omega),hz (8 * i+7) (by omega)]; rfl
 | 1,_=>rw [hz (8 * i+1) (by omega),hz (8 * i+2) (by omega),hz (8 * i+3) (by omega),hz (8 * i+4) (by omega),hz (8 * i+5) (by omega),hz (8 * i+6) (by omega),hz (8 * i+7) (by omega)]; show _ % 128=_; omega
 | 2,_=>rw [hz (8 * i+2) (by omega),hz (8 * i+3) (by omega),hz (8 * i+4) (by omega),hz (8 * i+5) (by omega),hz (8 * i+6) (by omega),hz (8 * i+7) (by omega)]; show _ % 64=_; omega
 | 3,_=>rw [hz (8 * i+3) (by omega),hz (8 * i+4) (by omega),hz (8 * i+5) (by omega),hz (8 * i+6) (by omega),hz (8 * i+7) (by omega)]; show _ % 32=_; omega
 | 4,_=>rw [hz (8 * i+4) (by omega),hz (8 * i+5) (by omega),hz (8 * i+6) (by omega),hz (8 * i+7) (by omega)]; show _ % 16=_; omega
 | 5,_=>rw [hz (8 * i+5) (by omega),hz (8 * i+6) (by omega),hz (8 * i+7) (by omega)]; show _ % 8=_; omega
 | 6,_=>rw [hz (8 * i+6) (by omega),hz (8 * i+7) (by omega)]; show _ % 4=_; omega
 | 7,_=>rw [hz (8 * i+7) (by omega)]; show _ % 2=_; omega
theorem put_bit {x v:Int} {kk s:Nat} (hx1:0≤x) (hx2:x≤255) (hx:x % 2 ^ (s+1)=0) (hs:s≤7) (hkk:kk≤40) (hv1:0≤v) (hv2:v<2 ^ 40) :
  IntKind.wrap .u8 (Int.ofNat (BitVec.toNat ((BitVec.ofInt 8 x) ||| (BitVec.ofInt 8 (IntKind.wrap .u8 ((IntKind.wrap .u8 (IntKind.wrap .i64 (Int.ofNat (BitVec.toNat ((BitVec.ofInt 64 (Int.fdiv v (2 ^ (Min.min (Int.toNat (kk:Int)) 64)))) &&& (BitVec.ofInt 64 1)))))) * (2 ^ (Min.min (Int.toNat (s:Int)) 8))))))))=x+v / 2 ^ kk % 2 * 2 ^ s:=by
 have e1:Min.min (Int.toNat (kk:Int)) 64=kk:=by omega
 have e2:Min.min (Int.toNat (s:Int)) 8=s:=by omega
 rw [e1,e2,Int.fdiv_eq_ediv_of_nonneg _ (Int.le_of_lt (Int.pow_pos (by decide)))]
 obtain ⟨a,rfl⟩:=Int.eq_ofNat_of_zero_le hv1
 obtain ⟨c,rfl⟩:=Int.eq_ofNat_of_zero_le hx1
 have e3:((a:Int) / 2 ^ kk)=((a / 2 ^ kk:Nat):Int):=by rw [Int.natCast_ediv,Int.natCast_pow]; rfl
 rw [e3]
 have hd:a / 2 ^ kk≤a:=Nat.div_le_self _ _
 generalize a / 2 ^ kk=q at hd ⊢
 have hq:q<18446744073709551616:=by omega
 have e4:(BitVec.ofInt 64 ((q:Nat):Int) &&& BitVec.ofInt 64 1).toNat=q % 2:=by
  rw [BitVec.toNat_and,toNat_ofInt64 hq]
  exact Nat.and_one_is_mod q
 rw [e4]
 have e5:IntKind.wrap .i64 (Int.ofNat (q % 2))=((q % 2:Nat):Int):=wrap_id (x:=((q % 2:Nat):Int)) (by omega) (by omega)
 rw [e5,W8,W8,W8]
 have h2:q % 2<2:=Nat.mod_lt _ (by decide)
 have e6:(((q:Nat):Int) % 2)=((q % 2:Nat):Int):=by omega
 rw [e6]
 generalize q % 2=r at h2 ⊢
 have key:∀ (s:Fin 8) (r:Fin 2) (c:Fin 256),c.val % 2 ^ (s.val+1)=0→(BitVec.ofInt 8 (c.val:Int) ||| BitVec.ofInt 8 ((r.val:Int) % 256 * 2 ^ s.val % 256)).toNat % 256=c.val+r.val * 2 ^ s.val:=by decide +kernel
 have hc:c % 2 ^ (s+1)=0:=by
  have e1:(2:Int) ^ (s+1)=((2 ^ (s+1):Nat):Int):=by rw [Int.natCast_pow]; rfl
  rw [e1] at hx
  exact_mod_cast hx
 have:=key ⟨s,by omega⟩ ⟨r,h2⟩ ⟨c,by omega⟩ hc
 simp only at this
 have e7:((r:Int) % 256 * 2 ^ s % 256)=((r:Nat):Int) % 256 * 2 ^ s % 256:=rfl
 have e8:∀ z:Nat,(Int.ofNat z) % 256=((z % 256:Nat):Int):=fun z=>by simp
 rw [e8,this]
 simp
theorem bytes_u8:(Go.TypeInfo.bytes (GetElem.getElem (Go.Tables.types (Go.Program.toTables Go.Proofs.Tryd.prog)) 5 (Nat.le_of_ble_eq_true rfl)))=1:=by kernel_rfl
theorem mkB_nil (k:Nat):mkB k []=List.replicate k 0:=by
 apply List.ext_getElem
 ·simp [mkB]
 ·intro i h1 h2
  simp [mkB,byteOf,getI]
theorem bits_take {w:Nat} {v:Int} {t:Nat} (h:t<w):(bitsOf w v).take (t+1)=(bitsOf w v).take t++[v / 2 ^ (w - 1 - t) % 2]:=by
 rw [List.take_succ_eq_append_getElem (by rw [bits_len]; exact h)]
 simp [bitsOf]
theorem wSum_take {ps:List (Nat × Int)} {i:Nat} (h:i<ps.length):wSum (ps.take (i+1))=wSum (ps.take i)+ps[i].1:=by
 unfold wSum
 rw [List.take_succ_eq_append_getElem h,List.map_append,List.sum_append]; simp
theorem wSum_take_le (ps:List (Nat × Int)) (i:Nat):wSum (ps.take i)≤wSum ps:=by
 unfold wSum
 rw [List.map_take]
 exact sum_take_le _ _
theorem getI_snd {ps:List (Nat × Int)} {i:Nat} (h:i<ps.length):getI (ps.map Prod.snd) i=ps[i].2:=by
 unfold getI
 simp [List.getD_eq_getElem?_getD,h]
theorem getI_fst {ps:List (Nat × Int)} {i:Nat} (h:i<ps.length):getI (wI (ps.map Prod.fst)) i=(ps[i].1:Int):=by
 rw [getI_wI (by simpa using h)]
 simp
theorem a136 (n:Nat) (ps:List (Nat × Int)) (hw:∀ p∈ps,1≤p.1∧p.1≤32∧0≤p.2∧p.2<2 ^ p.1) (k:Nat) (hk:wSum ps=8 * k) (hk2:k<2 ^ 40) (hn:33<n) (hn2:ps.length<n) (hn3:ps.length≤64)
  (h123:A123 n [.fs .i64 (wI (ps.map Prod.fst))]=some [.int .i64 k,.int .i64 0]):A136 n [.fs .i64 (wI (ps.map Prod.fst)),.fs .i64 (ps.map Prod.snd)]=some [.fs .u8 (mkB k (allB ps)),.int .i64 0]:=by
 show run136 A123 n (wI (ps.map Prod.fst)) (ps.map Prod.snd)=_
 rw [eq136,h123]
 have hl1:(wI (ps.map Prod.fst)).length=ps.length:=by simp [wI]
 have hl2:(ps.map Prod.snd).length=ps.length:=by simp
 simp only [ZZ,show ((0:Int) != 0)=false from rfl,hl1,hl2,bytes_u8]
 rw [brO_f (by simp),brO_t (by simp; omega),Int.toNat_natCast]
 generalize hW:wI (ps.map Prod.fst)=W
 generalize hV:ps.map Prod.snd=V
 rw [hW] at hl1; rw [hV] at hl2
 rw [←mkB_nil]
 refine jn_it (fun i:Nat=>[.fs .i64 V,.fs .u8 (mkB k (allB (ps.take i))),.int .i64 (wSum (ps.take i):Nat),.fs .i64 W,.int .i64 (Int.ofNat ps.length),.int .i64 (i:Nat)]) (fun i=>ps.length - i)
  (fun _=>[.fs .u8 (mkB k (allB ps))]) (fun i=>i≤ps.length) 0 (by show ps.length - 0<n; omega) (Nat.zero_le _) (fun i K hi hK=>?_) ?_
 ·simp only [ZZ,hl1,hl2]
  by_cases hi2:i<ps.length
  ·have hS:=wSum_take hi2
   have hS2:wSum (ps.take (i+1))≤8 * k:=by rw [←hk]; exact wSum_take_le ps (i+1)
   obtain ⟨q1,q2,q3,q4⟩:=hw ps[i] (List.getElem_mem hi2)
   have g1:getI W i=(ps[i].1:Int):=by rw [←hW]; exact getI_fst hi2
   have g2:getI V i=ps[i].2:=by rw [←hV]; exact getI_snd hi2
   have hA:allB (ps.take (i+1))=allB (ps.take i)++bitsOf ps[i].1 ps[i].2:=by
    rw [List.take_succ_eq_append_getElem hi2,allB_app]; simp [allB]
   have hAl:=allB_len (ps.take i)
   have hA1:=allB_01 (ps.take i)
   generalize hw_:ps[i].1=w at *
   generalize hv_:ps[i].2=v at *
   have hv32:v<2 ^ 32:=by
    have:(2:Nat) ^ w≤2 ^ 32:=Nat.pow_le_pow_right (by omega) (by omega)
    have h2:(2:Int) ^ w≤2 ^ 32:=by exact_mod_cast this
    omega
   have u1:IntKind.wrap .u64 (w:Int)=w:=wrap_u (by omega) (by omega)
   have u2:Min.min (Int.toNat (w:Int)) 64=w:=by omega
   have u3:Int.fdiv v (2 ^ w)=0:=by
    rw [Int.fdiv_eq_ediv_of_nonneg _ (Int.le_of_lt (Int.pow_pos (by decide)))]
    exact Int.ediv_eq_zero_of_lt q3 q4
   have u4:IntKind.wrap .i64 ((w:Int) - 1)=(w:Int) - 1:=wrap_id (by omega) (by omega)
   rw [brO_t (by simpa using hi2),inR_nat hi2,bT,bT]
   simp only [getI_nat,g1,g2,u1,u2,u3,ZZ,show ((0:Int) != 0)=false from rfl]
   rw [brO_f (by simpa using q3)]
   rw [brO_t (by simp)]
   simp only [ZZ,u4]
   have hd:([.fs .i64 V,.fs .u8 (mkB k (allB (ps.take i))),.int .i64 (wSum (ps.take i):Nat),.int .i64 v,.int .i64 ((w:Int) - 1),.fs .i64 W,.int .i64 (Int.ofNat ps.length),.int .i64 (i:Nat)]:List AV)=(fun t:Nat=>([.fs .i64 V,.fs .u8 (mkB k (allB (ps.take i)++(bitsOf w v).take t)),.int .i64 ((wSum (ps.take i)+t:Nat):Int),.int .i64 v,.int .i64 ((w:Int) - 1 - (t:Nat)),.fs .i64 W,.int .i64 (Int.ofNat ps.length),.int .i64 (i:Nat)]:List AV)) 0:=by simp
   rw [hd]
   refine jn_it (fun t:Nat=>[.fs .i64 V,.fs .u8 (mkB k (allB (ps.take i)++(bitsOf w v).take t)),.int .i64 ((wSum (ps.take i)+t:Nat):Int),.int .i64 v,.int .i64 ((w:Int) - 1 - (t:Nat)),.fs .i64 W,.int .i64 (Int.ofNat ps.length),.int .i64 (i:Nat)]) (fun t=>w - t)
    (fun _=>[.fs .i64 V,.fs .u8 (mkB k (allB (ps.take (i+1)))),.int .i64 (wSum (ps.take (i+1)):Nat),.fs .i64 W,.int .i64 (Int.ofNat ps.length),.int .i64 (i:Nat)]) (fun t=>t≤w) 0 (by show w - 0<n; omega) (Nat.zero_le _) (fun t K2 ht hK2=>?_) ?_
   ·simp only [ZZ]
    by_cases ht2:t<w
    ·have hq:wSum (ps.take i)+t<8 * k:=by omega
     have hbl:(allB (ps.take i)++(bitsOf w v).take t).length=wSum (ps.take i)+t:=by
      rw [List.length_append,hAl,List.length_take,bits_len]; omega
     have hb1:Bits (allB (ps.take i)++(bitsOf w v).take t):=by
      intro x hx
      exact (List.mem_append.1 hx).elim (hA1 x) (fun h=>bits_01 w v x (List.mem_of_mem_take h))
     have hb2:allB (ps.take i)++(bitsOf w v).take (t+1)=(allB (ps.take i)++(bitsOf w v).take t)++[v / 2 ^ (w - 1 - t) % 2]:=by
      rw [bits_take ht2,List.append_assoc]
     have:=hK2 (t+1) (by show w - (t+1)<w - t; omega) (by show t+1≤w; omega)
     rw [hb2] at this
     generalize allB (ps.take i)++(bitsOf w v).take t=bs at hbl hb1 this ⊢
     have hrr:=byteOf_r hb1 (bs.length / 8)
     have hlow:=byteOf_low hb1
     have hmk:=mkB_app (k:=k) (v / 2 ^ (w - 1 - t) % 2) (by rw [hbl]; exact hq)
     have hlen:=mkB_len k bs
     rw [hmk] at this
     rw [hbl] at hrr hlow this
     generalize hj:wSum (ps.take i)+t=j at hq hrr hlow this ⊢
     have d1:Int.tdiv (j:Int) 8=((j / 8:Nat):Int):=by rw [Int.tdiv_eq_ediv_of_nonneg (by omega)]; omega
     have d2:Int.tmod (j:Int) 8=((j % 8:Nat):Int):=by rw [Int.tmod_eq_emod_of_nonneg (by omega)]; omega
     have d3:IntKind.wrap .u64 ((j % 8:Nat):Int)=((j % 8:Nat):Int):=wrap_u (by omega) (by omega)
     have d4:IntKind.wrap .u64 (7 - ((j % 8:Nat):Int))=((7 - j % 8:Nat):Int):=by rw [wrap_u (by omega) (by omega)]; omega
     have d5:IntKind.wrap .u64 ((w:Int) - 1 - (t:Nat))=((w - 1 - t:Nat):Int):=by rw [wrap_u (by omega) (by omega)]; omega
     have d6:IntKind.wrap .i64 ((w:Int) - 1 - (t:Nat) - 1)=(w:Int) - 1 - ((t+1:Nat):Int):=by rw [W_id (by omega) (by omega)]; omega
     have w1:IntKind.wrap .i64 ((j / 8:Nat):Int)=((j / 8:Nat):Int):=wrap_id (by omega) (by omega)
     have w2:IntKind.wrap .i64 ((j:Int)+1)=((j+1:Nat):Int):=by rw [wrap_id (by omega) (by omega)]; omega
     have hin:inR ((j / 8:Nat):Int) k=true:=inR_nat (by omega)
     have hble:Nat.ble (j / 8+1) k=true:=by rw [Nat.ble_eq]; omega
     have hgm:getI (mkB k bs) (j / 8)=byteOf bs (j / 8):=getI_mkB bs (by omega)
     rw [brO_t (by simp; omega)]
     simp only [d1,w1,hlen,hin,hble,ZZ,d2,d3,d4,d5,d6,w2,getI_nat,hgm,Int.toNat_natCast]
     rw [brO_t (by simp),brO_t (by simp)]
     have hpb:=put_bit (x:=byteOf bs (j / 8)) (v:=v) (kk:=w - 1 - t) (s:=7 - j % 8) hrr.1 hrr.2 (by rw [show 7 - j % 8+1=8 - j % 8 by omega]; exact hlow) (by omega) (by omega) q3 (by omega)
     rw [Int.toNat_natCast,Int.toNat_natCast] at hpb
     rw [hpb,←this,←hj]
     rfl
    ·have:t=w:=by omega
     subst this
     rw [brO_f (by simp; omega),hA,hS]
     rw [List.take_of_length_le (l:=bitsOf _ _) (by rw [bits_len]; exact Nat.le_refl _)]
   ·simp only [ZZ]
    have:=hK (i+1) (by show ps.length - (i+1)<ps.length - i; omega) (by show i+1≤ps.length; omega)
    rw [wrap_id (by omega) (by omega),←this]
    rfl
  ·have:i=ps.length:=by omega
   subst this
   rw [brO_f (by simp)]
   simp
 ·simp only [ZZ]
def addS:Bool→List Int→Int
 | _,[]=>0
 | true,b::l=>b * 256+addS false l
 | false,b::l=>b+addS true l
def hi:Bool→List Int→Bool
 | h,[]=>h
 | h,_::l=>hi (!h) l
def fd (x:Int):Int:=if x=0 then 0 else (x - 1) % 65535+1
def sum16 (l:List Int):Int:=fd (addS true l)
theorem addS_app (l m:List Int):∀ h,addS h (l++m)=addS h l+addS (hi h l) m:=by
 induction l with
 | nil=>intro h; cases h <;> simp [addS,hi]
 | cons b l ih=>intro h; cases h <;> simp [addS,hi,ih] <;> omega
theorem hi_app (l m:List Int):∀ h,hi h (l++m)=hi (hi h l) m:=by
 induction l with
 | nil=>intro h; rfl
 | cons b l ih=>intro h; simp [hi,ih]
theorem addS_r {l:List Int} (hl:Bytes l):∀ h,0≤addS h l∧addS h l≤65280 * l.length:=by
 induction l with
 | nil=>intro h; cases h <;> simp [addS]
 | cons b l ih=>
  intro h
  have hb:=hl b (List.mem_cons_self ..)
  have h1:=ih (fun x hx=>hl x (List.mem_cons_of_mem _ hx)) true
  have h2:=ih (fun x hx=>hl x (List.mem_cons_of_mem _ hx)) false
  cases h <;> simp only [addS,List.length_cons] <;> omega
theorem fd_r {x:Int} (h:0≤x):0≤fd x∧fd x≤65535:=by unfold fd; split <;> omega
theorem fd_small {x:Int} (h:0≤x) (h2:x≤65535):fd x=x:=by unfold fd; split <;> omega
theorem fd_add {a b:Int} (h:0≤a) (h2:0≤b):fd (fd a+b)=fd (a+b):=by
 unfold fd
 by_cases h0:a=0
 ·rw [if_pos h0,h0]
 ·rw [if_neg h0,if_neg (by omega),if_neg (by omega)]; omega
theorem low16 {x:Int} (h1:0≤x) (h2:x<2 ^ 62):IntKind.wrap .i64 (Int.ofNat (BitVec.toNat ((BitVec.ofInt 64 x) &&& (BitVec.ofInt 64 65535))))=x % 65536:=by
 obtain ⟨a,rfl⟩:=Int.eq_ofNat_of_zero_le h1
 have e:(BitVec.ofInt 64 ((a:Nat):Int) &&& BitVec.ofInt 64 65535).toNat=a % 65536:=by
  rw [BitVec.toNat_and,toNat_ofInt64 (by omega)]
  exact Nat.and_two_pow_sub_one_eq_mod a 16
 rw [e]
 exact (wrap_id (x:=((a % 65536:Nat):Int)) (by omega) (by omega)).trans (by omega)
theorem hi16 {x:Int} (h1:0≤x):Int.fdiv x (Int.ofNat (2 ^ (Min.min (Int.toNat 16) (IntKind.bits .i64))))=x / 65536:=by
 have:Int.ofNat (2 ^ (Min.min (Int.toNat 16) (IntKind.bits .i64)))=65536:=by decide
 rw [this,Int.fdiv_eq_ediv_of_nonneg _ (by decide)]
theorem a178 (n:Nat) (x:Int) (h1:0≤x) (h2:x<2 ^ 62) (hn:2 ^ 63<n):A178 n [.int .i64 x]=some [.int .i64 (fd x)]:=by
 show run178 n x=_
 rw [eq178]
 refine jn_it (fun y:Int=>[.int .i64 y]) (fun y=>y.toNat) (fun y=>[.int .i64 (fd y)]) (fun y=>0≤y∧y<2 ^ 62) x (by show x.toNat<n; omega) ⟨h1,h2⟩ (fun y K hy hK=>?_) rfl
 simp only [ZZ]
 by_cases hb:y > 65535
 ·rw [brO_t (by simpa using hb),low16 hy.1 hy.2,hi16 hy.1,wrap_id (by omega) (by omega)]
  rw [hK (y % 65536+y / 65536) (by show (y % 65536+y / 65536).toNat<y.toNat; omega) (by omega)]
  have:fd (y % 65536+y / 65536)=fd y:=by unfold fd; rw [if_neg (by omega),if_neg (by omega)]; omega
  rw [this]
 ·rw [brO_f (by simp; omega),fd_small hy.1 (by omega)]
theorem shl8 (x:Int):x * (Int.ofNat (2 ^ (Min.min (Int.toNat 8) (IntKind.bits .i64))))=x * 256:=by
 have:(Int.ofNat (2 ^ (Min.min (Int.toNat 8) (IntKind.bits .i64))))=256:=by decide
 rw [this]
theorem addS_take {l:List Int} {t:Nat} (h:t<l.length) (b:Bool):addS b (l.take (t+1))=addS b (l.take t)+(if hi b (l.take t)=true then l[t] * 256 else l[t]):=by
 rw [List.take_succ_eq_append_getElem h,addS_app]
 cases hi b (l.take t) <;> simp [addS]
theorem hi_take {l:List Int} {t:Nat} (h:t<l.length) (b:Bool):hi b (l.take (t+1)) = !(hi b (l.take t)):=by
 rw [List.take_succ_eq_append_getElem h,hi_app]
 simp [hi]
theorem getI_lt {l:List Int} {t:Nat} (h:t<l.length):getI l t=l[t]:=by
 unfold getI
 simp [List.getD_eq_getElem?_getD,h]
def fsL (ps:List (List Int)):List AV:=ps.map (AV.fs .u8)
theorem fsL_at {ps:List (List Int)} {i:Nat} (h:i<ps.length):(getE (fsL ps) i).toInts=ps[i]:=by
 unfold getE fsL
 simp [List.getD_eq_getElem?_getD,h,AV.toInts]
theorem a127 (n:Nat) (ps:List (List Int)) (hps:∀ p∈ps,Bytes p∧p.length<2 ^ 44) (hl:ps.length<2 ^ 44) (hn:2 ^ 63<n):A127 n [.fv (.fs .u8) (fsL ps)]=some [.int .i64 (sum16 ps.flatten)]:=by
 show run127 A178 n (fsL ps)=_
 rw [eq127]
 have hlen:(fsL ps).length=ps.length:=by simp [fsL]
 refine jn_it (fun i:Nat=>[.int .i64 (fd (addS true (ps.take i).flatten)),.bool (hi true (ps.take i).flatten),.fv (.fs .u8) (fsL ps),.int .i64 (Int.ofNat (fsL ps).length),.int .i64 (i:Nat)]) (fun i=>ps.length - i)
  (fun _=>[.int .i64 (sum16 ps.flatten)]) (fun i=>i≤ps.length) 0 (by show ps.length - 0<n; omega) (Nat.zero_le _) (fun i K hi_ hK=>?_) ?_
 ·simp only [ZZ,hlen]
  by_cases hi2:i<ps.length
  ·have hp:=hps ps[i] (List.getElem_mem hi2)
   have hflat:(ps.take (i+1)).flatten=(ps.take i).flatten++ps[i]:=by
    rw [List.take_succ_eq_append_getElem hi2,List.flatten_append]; simp
   have hbase:Bytes (ps.take i).flatten:=by
    intro x hx
    obtain ⟨l,hl,hx⟩:=List.mem_flatten.1 hx
    exact (hps l (List.mem_of_mem_take hl)).1 x hx
   have hb0:=addS_r hbase true
   have hfr:=fd_r hb0.1
   rw [brO_t (by simpa using hi2),inR_nat hi2,bT,Int.toNat_natCast,fsL_at hi2]
   have hK1:=hK (i+1) (by show ps.length - (i+1)<ps.length - i; omega) (by show i+1≤ps.length; omega)
   rw [hflat,addS_app,hi_app,←fd_add hb0.1 (addS_r hp.1 _).1] at hK1
   generalize fd (addS true (ps.take i).flatten)=base at hfr hK1 ⊢
   generalize hi true (ps.take i).flatten=h at hK1 ⊢
   generalize ps[i]=p at hp hK1 ⊢
   have hd:([.int .i64 base,.bool h,.fv (.fs .u8) (fsL ps),.int .i64 (Int.ofNat ps.length),.int .i64 (i:Nat),.fs .u8 p,.int .i64 (Int.ofNat p.length),.int .i64 0]:List AV)=(fun t:Nat=>([.int .i64 (base+addS h (p.take t)),.bool (hi h (p.take t)),.fv (.fs .u8) (fsL ps),.int .i64 (Int.ofNat ps.length),.int .i64 (i:Nat),.fs .u8 p,.int .i64 (Int.ofNat p.length),.int .i64 (t:Nat)]:List AV)) 0:=by
    cases h <;> simp [addS,hi]
   rw [hd]
   refine jn_c (jn_it (r:=some (Sum.inl ([.int .i64 (fd (base+addS h p)),.bool (hi h p),.fv (.fs .u8) (fsL ps),.int .i64 (Int.ofNat ps.length),.int .i64 (i:Nat)]:List AV))) (fun t:Nat=>[.int .i64 (base+addS h (p.take t)),.bool (hi h (p.take t)),.fv (.fs .u8) (fsL ps),.int .i64 (Int.ofNat ps.length),.int .i64 (i:Nat),.fs .u8 p,.int .i64 (Int.ofNat p.length),.int .i64 (t:Nat)]) (fun t=>p.length - t)
    (fun _=>[.int .i64 (base+addS h p),.bool (hi h p),.fv (.fs .u8) (fsL ps),.int .i64 (Int.ofNat ps.length),.int .i64 (i:Nat)]) (fun t=>t≤p.length) 0 (by show p.length - 0<n; omega) (Nat.zero_le _) (fun t K2 ht hK2=>?_) ?_) ?_
   ·simp only [ZZ]
    have hT:=addS_r (hp.1.take t) h
    have hTl:(p.take t).length≤p.length:=by rw [List.length_take]; omega
    by_cases ht2:t<p.length
    ·have hg:=getI_lt ht2
     have hgr:=hp.1.get t
     rw [hg] at hgr
     have:=hK2 (t+1) (by show p.length - (t+1)<p.length - t; omega) (by show t+1≤p.length; omega)
     rw [addS_take ht2,hi_take ht2] at this
     have w1:IntKind.wrap .i64 p[t]=p[t]:=wrap_id (by omega) (by omega)
     have w2:IntKind.wrap .i64 (p[t] * 256)=p[t] * 256:=wrap_id (by omega) (by omega)
     have w3:IntKind.wrap .i64 ((t:Int)+1)=((t+1:Nat):Int):=by rw [wrap_id (by omega) (by omega)]; omega
     have w4:IntKind.wrap .i64 (base+addS h (p.take t)+p[t] * 256)=base+addS h (p.take t)+p[t] * 256:=wrap_id (by omega) (by omega)
     have w5:IntKind.wrap .i64 (base+addS h (p.take t)+p[t])=base+addS h (p.take t)+p[t]:=wrap_id (by omega) (by omega)
     rw [brO_t (by simpa using ht2),inR_nat ht2,bT]
     simp only [Int.toNat_natCast,hg,w1,shl8,w2]
     cases hh:hi h (p.take t) with
     | true=>
      rw [hh] at this
      simp only [ZZ,w4,w3]
      rw [←this,if_pos rfl,Int.add_assoc]
     | false=>
      rw [hh] at this
      simp only [ZZ,w5,w3]
      rw [←this,if_neg (by decide),Int.add_assoc]
    ·have:t=p.length:=by omega
     subst this
     rw [brO_f (by simp),List.take_length]
   ·simp only [ZZ]
    have:=addS_r hp.1 h
    rw [a178 n _ (by omega) (by omega) hn]
    rfl
   ·simp only [ZZ]
    rw [←hK1,wrap_id (by omega) (by omega),hlen]
    rfl
  ·have:i=ps.length:=by omega
   subst this
   rw [brO_f (by simp),List.take_length]
   rfl
 ·rfl
end Go.Proofs.YtlmnjnhmhacgkaaDoor.Am
end
