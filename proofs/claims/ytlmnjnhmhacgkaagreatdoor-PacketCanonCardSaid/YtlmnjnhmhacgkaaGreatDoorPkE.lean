/-
  The packet's plain structures, the fields and their laws.
-/
import Derived.Test.YtlmnjnhmhacgkaaGreatDoorPkD
import Derived.Test.YtlmnjnhmhacgkaaGreatDoorAmG
import Derived.Test.YtlmnjnhmhacgkaaGreatDoorPkC
import Derived.KernelRfl
section
set_option linter.unusedVariables false
set_option linter.unusedSimpArgs false
set_option maxRecDepth 100000
namespace Go.Proofs.YtlmnjnhmhacgkaaGreatDoor.Am
open Go Go.Am Go.Proofs
structure Ip where
 v:Int
 a:List Int
 deriving DecidableEq
def Ip.av (x:Ip):AV:=.agg [.int .i64 x.v,.arr .u8 16 x.a]
def Ip.of (x:AV):Ip:=⟨(x.item 0).toInt,(x.item 1).qq⟩
def Ip.z:Ip:=⟨0,[0,0,0,0,0,0,0,0,0,0,0,0,0,0,0,0]⟩
@[simp] theorem Ip.of_av (x:Ip):Ip.of x.av=x:=by
  cases x
  simp only [Ip.of,Ip.av,AV.item,List.getD_cons_zero,List.getD_cons_succ,AV.toInt,AV.toBool,AV.qq,AV.qz,List.map_map]
@[simp] theorem Ip.eta (x:Ip):eta s27 x.av=x.av:=rfl
theorem Ip.i0 (x:Ip):x.av.item 0=.int .i64 x.v:=rfl
theorem Ip.i1 (x:Ip):x.av.item 1=.arr .u8 16 x.a:=rfl
theorem Ip.fold (c0:Int) (c1:List Int):AV.agg [.int .i64 c0,.arr .u8 16 c1]=Ip.av ⟨c0,c1⟩:=rfl
structure Tag where
 tpid:Int
 pcp:Int
 dei:Bool
 vid:Int
 deriving DecidableEq
def Tag.av (x:Tag):AV:=.agg [.int .i64 x.tpid,.int .i64 x.pcp,.bool x.dei,.int .i64 x.vid]
def Tag.of (x:AV):Tag:=⟨(x.item 0).toInt,(x.item 1).toInt,(x.item 2).toBool,(x.item 3).toInt⟩
def Tag.z:Tag:=⟨0,0,false,0⟩
@[simp] theorem Tag.of_av (x:Tag):Tag.of x.av=x:=by
  cases x
  simp only [Tag.of,Tag.av,AV.item,List.getD_cons_zero,List.getD_cons_succ,AV.toInt,AV.toBool,AV.qq,AV.qz,List.map_map]
@[simp] theorem Tag.eta (x:Tag):eta s79 x.av=x.av:=rfl
theorem Tag.i0 (x:Tag):x.av.item 0=.int .i64 x.tpid:=rfl
theorem Tag.i1 (x:Tag):x.av.item 1=.int .i64 x.pcp:=rfl
theorem Tag.i2 (x:Tag):x.av.item 2=.bool x.dei:=rfl
theorem Tag.i3 (x:Tag):x.av.item 3=.int .i64 x.vid:=rfl
theorem Tag.fold (c0:Int) (c1:Int) (c2:Bool) (c3:Int):AV.agg [.int .i64 c0,.int .i64 c1,.bool c2,.int .i64 c3]=Tag.av ⟨c0,c1,c2,c3⟩:=rfl
structure Opt where
 kind:Int
 data:List Int
 deriving DecidableEq
def Opt.av (x:Opt):AV:=.agg [.int .i64 x.kind,.fs .u8 x.data]
def Opt.of (x:AV):Opt:=⟨(x.item 0).toInt,(x.item 1).qq⟩
def Opt.z:Opt:=⟨0,[]⟩
@[simp] theorem Opt.of_av (x:Opt):Opt.of x.av=x:=by
  cases x
  simp only [Opt.of,Opt.av,AV.item,List.getD_cons_zero,List.getD_cons_succ,AV.toInt,AV.toBool,AV.qq,AV.qz,List.map_map]
@[simp] theorem Opt.eta (x:Opt):eta s93 x.av=x.av:=rfl
theorem Opt.i0 (x:Opt):x.av.item 0=.int .i64 x.kind:=rfl
theorem Opt.i1 (x:Opt):x.av.item 1=.fs .u8 x.data:=rfl
theorem Opt.fold (c0:Int) (c1:List Int):AV.agg [.int .i64 c0,.fs .u8 c1]=Opt.av ⟨c0,c1⟩:=rfl
structure Arp where
 op:Int
 smac:List Int
 sip:Ip
 tmac:List Int
 tip:Ip
 deriving DecidableEq
def Arp.av (x:Arp):AV:=.agg [.int .i64 x.op,.arr .u8 6 x.smac,x.sip.av,.arr .u8 6 x.tmac,x.tip.av]
def Arp.of (x:AV):Arp:=⟨(x.item 0).toInt,(x.item 1).qq,(Ip.of (x.item 2)),(x.item 3).qq,(Ip.of (x.item 4))⟩
def Arp.z:Arp:=⟨0,[0,0,0,0,0,0],Ip.z,[0,0,0,0,0,0],Ip.z⟩
@[simp] theorem Arp.of_av (x:Arp):Arp.of x.av=x:=by
  cases x
  simp only [Arp.of,Arp.av,AV.item,List.getD_cons_zero,List.getD_cons_succ,AV.toInt,AV.toBool,AV.qq,AV.qz,List.map_map,Ip.of_av]
@[simp] theorem Arp.eta (x:Arp):eta s29 x.av=x.av:=rfl
theorem Arp.i0 (x:Arp):x.av.item 0=.int .i64 x.op:=rfl
theorem Arp.i1 (x:Arp):x.av.item 1=.arr .u8 6 x.smac:=rfl
theorem Arp.i2 (x:Arp):x.av.item 2=x.sip.av:=rfl
theorem Arp.i3 (x:Arp):x.av.item 3=.arr .u8 6 x.tmac:=rfl
theorem Arp.i4 (x:Arp):x.av.item 4=x.tip.av:=rfl
theorem Arp.fold (c0:Int) (c1:List Int) (c2:Ip) (c3:List Int) (c4:Ip):AV.agg [.int .i64 c0,.arr .u8 6 c1,c2.av,.arr .u8 6 c3,c4.av]=Arp.av ⟨c0,c1,c2,c3,c4⟩:=rfl
structure Ip4 where
 tos:Int
 id:Int
 df:Bool
 mf:Bool
 off:Int
 ttl:Int
 proto:Int
 src:Ip
 dst:Ip
 opts:List Opt
 data:List Int
 deriving DecidableEq
def Ip4.av (x:Ip4):AV:=.agg [.int .i64 x.tos,.int .i64 x.id,.bool x.df,.bool x.mf,.int .i64 x.off,.int .i64 x.ttl,.int .i64 x.proto,x.src.av,x.dst.av,.fv s93 (x.opts.map Opt.av),.fs .u8 x.data]
def Ip4.of (x:AV):Ip4:=⟨(x.item 0).toInt,(x.item 1).toInt,(x.item 2).toBool,(x.item 3).toBool,(x.item 4).toInt,(x.item 5).toInt,(x.item 6).toInt,(Ip.of (x.item 7)),(Ip.of (x.item 8)),((x.item 9).qz.map Opt.of),(x.item 10).qq⟩
def Ip4.z:Ip4:=⟨0,0,false,false,0,0,0,Ip.z,Ip.z,[],[]⟩
@[simp] theorem Ip4.of_av (x:Ip4):Ip4.of x.av=x:=by
  cases x
  simp only [Ip4.of,Ip4.av,AV.item,List.getD_cons_zero,List.getD_cons_succ,AV.toInt,AV.toBool,AV.qq,AV.qz,List.map_map,Ip.of_av,Opt.of_av]
  first | rfl | simp [Function.comp_def,Ip.of_av,Opt.of_av]
@[simp] theorem Ip4.eta (x:Ip4):eta s33 x.av=x.av:=rfl
theorem Ip4.i0 (x:Ip4):x.av.item 0=.int .i64 x.tos:=rfl
theorem Ip4.i1 (x:Ip4):x.av.item 1=.int .i64 x.id:=rfl
theorem Ip4.i2 (x:Ip4):x.av.item 2=.bool x.df:=rfl
theorem Ip4.i3 (x:Ip4):x.av.item 3=.bool x.mf:=rfl
theorem Ip4.i4 (x:Ip4):x.av.item 4=.int .i64 x.off:=rfl
theorem Ip4.i5 (x:Ip4):x.av.item 5=.int .i64 x.ttl:=rfl
theorem Ip4.i6 (x:Ip4):x.av.item 6=.int .i64 x.proto:=rfl
theorem Ip4.i7 (x:Ip4):x.av.item 7=x.src.av:=rfl
theorem Ip4.i8 (x:Ip4):x.av.item 8=x.dst.av:=rfl
theorem Ip4.i9 (x:Ip4):x.av.item 9=.fv s93 (x.opts.map Opt.av):=rfl
theorem Ip4.i10 (x:Ip4):x.av.item 10=.fs .u8 x.data:=rfl
theorem Ip4.fold (c0:Int) (c1:Int) (c2:Bool) (c3:Bool) (c4:Int) (c5:Int) (c6:Int) (c7:Ip) (c8:Ip) (c9:List Opt) (c10:List Int):AV.agg [.int .i64 c0,.int .i64 c1,.bool c2,.bool c3,.int .i64 c4,.int .i64 c5,.int .i64 c6,c7.av,c8.av,.fv s93 (c9.map Opt.av),.fs .u8 c10]=Ip4.av ⟨c0,c1,c2,c3,c4,c5,c6,c7,c8,c9,c10⟩:=rfl
structure Frag where
 has:Bool
 more:Bool
 id:Int
 off:Int
 deriving DecidableEq
def Frag.av (x:Frag):AV:=.agg [.bool x.has,.bool x.more,.int .i64 x.id,.int .i64 x.off]
def Frag.of (x:AV):Frag:=⟨(x.item 0).toBool,(x.item 1).toBool,(x.item 2).toInt,(x.item 3).toInt⟩
def Frag.z:Frag:=⟨false,false,0,0⟩
@[simp] theorem Frag.of_av (x:Frag):Frag.of x.av=x:=by
  cases x
  simp only [Frag.of,Frag.av,AV.item,List.getD_cons_zero,List.getD_cons_succ,AV.toInt,AV.toBool,AV.qq,AV.qz,List.map_map]
@[simp] theorem Frag.eta (x:Frag):eta s36 x.av=x.av:=rfl
theorem Frag.i0 (x:Frag):x.av.item 0=.bool x.has:=rfl
theorem Frag.i1 (x:Frag):x.av.item 1=.bool x.more:=rfl
theorem Frag.i2 (x:Frag):x.av.item 2=.int .i64 x.id:=rfl
theorem Frag.i3 (x:Frag):x.av.item 3=.int .i64 x.off:=rfl
theorem Frag.fold (c0:Bool) (c1:Bool) (c2:Int) (c3:Int):AV.agg [.bool c0,.bool c1,.int .i64 c2,.int .i64 c3]=Frag.av ⟨c0,c1,c2,c3⟩:=rfl
structure Ext where
 kind:Int
 opts:List Opt
 data:List Int
 deriving DecidableEq
def Ext.av (x:Ext):AV:=.agg [.int .i64 x.kind,.fv s93 (x.opts.map Opt.av),.fs .u8 x.data]
def Ext.of (x:AV):Ext:=⟨(x.item 0).toInt,((x.item 1).qz.map Opt.of),(x.item 2).qq⟩
def Ext.z:Ext:=⟨0,[],[]⟩
@[simp] theorem Ext.of_av (x:Ext):Ext.of x.av=x:=by
  cases x
  simp only [Ext.of,Ext.av,AV.item,List.getD_cons_zero,List.getD_cons_succ,AV.toInt,AV.toBool,AV.qq,AV.qz,List.map_map,Opt.of_av]
  first | rfl | simp [Function.comp_def,Opt.of_av]
@[simp] theorem Ext.eta (x:Ext):eta s124 x.av=x.av:=rfl
theorem Ext.i0 (x:Ext):x.av.item 0=.int .i64 x.kind:=rfl
theorem Ext.i1 (x:Ext):x.av.item 1=.fv s93 (x.opts.map Opt.av):=rfl
theorem Ext.i2 (x:Ext):x.av.item 2=.fs .u8 x.data:=rfl
theorem Ext.fold (c0:Int) (c1:List Opt) (c2:List Int):AV.agg [.int .i64 c0,.fv s93 (c1.map Opt.av),.fs .u8 c2]=Ext.av ⟨c0,c1,c2⟩:=rfl
structure Ip6 where
 cls:Int
 flow:Int
 hop:Int
 src:Ip
 dst:Ip
 exts:List Ext
 frag:Frag
 next:Int
 data:List Int
 deriving DecidableEq
def Ip6.av (x:Ip6):AV:=.agg [.int .i64 x.cls,.int .i64 x.flow,.int .i64 x.hop,x.src.av,x.dst.av,.fv s124 (x.exts.map Ext.av),x.frag.av,.int .i64 x.next,.fs .u8 x.data]
def Ip6.of (x:AV):Ip6:=⟨(x.item 0).toInt,(x.item 1).toInt,(x.item 2).toInt,(Ip.of (x.item 3)),(Ip.of (x.item 4)),((x.item 5).qz.map Ext.of),(Frag.of (x.item 6)),(x.item 7).toInt,(x.item 8).qq⟩
def Ip6.z:Ip6:=⟨0,0,0,Ip.z,Ip.z,[],Frag.z,0,[]⟩
@[simp] theorem Ip6.of_av (x:Ip6):Ip6.of x.av=x:=by
  cases x
  simp only [Ip6.of,Ip6.av,AV.item,List.getD_cons_zero,List.getD_cons_succ,AV.toInt,AV.toBool,AV.qq,AV.qz,List.map_map,Ext.of_av,Frag.of_av,Ip.of_av]
  first | rfl | simp [Function.comp_def,Ext.of_av,Frag.of_av,Ip.of_av]
@[simp] theorem Ip6.eta (x:Ip6):eta s38 x.av=x.av:=rfl
theorem Ip6.i0 (x:Ip6):x.av.item 0=.int .i64 x.cls:=rfl
theorem Ip6.i1 (x:Ip6):x.av.item 1=.int .i64 x.flow:=rfl
theorem Ip6.i2 (x:Ip6):x.av.item 2=.int .i64 x.hop:=rfl
theorem Ip6.i3 (x:Ip6):x.av.item 3=x.src.av:=rfl
theorem Ip6.i4 (x:Ip6):x.av.item 4=x.dst.av:=rfl
theorem Ip6.i5 (x:Ip6):x.av.item 5=.fv s124 (x.exts.map Ext.av):=rfl
theorem Ip6.i6 (x:Ip6):x.av.item 6=x.frag.av:=rfl
theorem Ip6.i7 (x:Ip6):x.av.item 7=.int .i64 x.next:=rfl
theorem Ip6.i8 (x:Ip6):x.av.item 8=.fs .u8 x.data:=rfl
theorem Ip6.fold (c0:Int) (c1:Int) (c2:Int) (c3:Ip) (c4:Ip) (c5:List Ext) (c6:Frag) (c7:Int) (c8:List Int):AV.agg [.int .i64 c0,.int .i64 c1,.int .i64 c2,c3.av,c4.av,.fv s124 (c5.map Ext.av),c6.av,.int .i64 c7,.fs .u8 c8]=Ip6.av ⟨c0,c1,c2,c3,c4,c5,c6,c7,c8⟩:=rfl
structure Icmp where
 v:Int
 type:Int
 code:Int
 rest:Int
 data:List Int
 deriving DecidableEq
def Icmp.av (x:Icmp):AV:=.agg [.int .i64 x.v,.int .i64 x.type,.int .i64 x.code,.int .i64 x.rest,.fs .u8 x.data]
def Icmp.of (x:AV):Icmp:=⟨(x.item 0).toInt,(x.item 1).toInt,(x.item 2).toInt,(x.item 3).toInt,(x.item 4).qq⟩
def Icmp.z:Icmp:=⟨0,0,0,0,[]⟩
@[simp] theorem Icmp.of_av (x:Icmp):Icmp.of x.av=x:=by
  cases x
  simp only [Icmp.of,Icmp.av,AV.item,List.getD_cons_zero,List.getD_cons_succ,AV.toInt,AV.toBool,AV.qq,AV.qz,List.map_map]
@[simp] theorem Icmp.eta (x:Icmp):eta s40 x.av=x.av:=rfl
theorem Icmp.i0 (x:Icmp):x.av.item 0=.int .i64 x.v:=rfl
theorem Icmp.i1 (x:Icmp):x.av.item 1=.int .i64 x.type:=rfl
theorem Icmp.i2 (x:Icmp):x.av.item 2=.int .i64 x.code:=rfl
theorem Icmp.i3 (x:Icmp):x.av.item 3=.int .i64 x.rest:=rfl
theorem Icmp.i4 (x:Icmp):x.av.item 4=.fs .u8 x.data:=rfl
theorem Icmp.fold (c0:Int) (c1:Int) (c2:Int) (c3:Int) (c4:List Int):AV.agg [.int .i64 c0,.int .i64 c1,.int .i64 c2,.int .i64 c3,.fs .u8 c4]=Icmp.av ⟨c0,c1,c2,c3,c4⟩:=rfl
structure Udp where
 sport:Int
 dport:Int
 nosum:Bool
 data:List Int
 deriving DecidableEq
def Udp.av (x:Udp):AV:=.agg [.int .i64 x.sport,.int .i64 x.dport,.bool x.nosum,.fs .u8 x.data]
def Udp.of (x:AV):Udp:=⟨(x.item 0).toInt,(x.item 1).toInt,(x.item 2).toBool,(x.item 3).qq⟩
def Udp.z:Udp:=⟨0,0,false,[]⟩
@[simp] theorem Udp.of_av (x:Udp):Udp.of x.av=x:=by
  cases x
  simp only [Udp.of,Udp.av,AV.item,List.getD_cons_zero,List.getD_cons_succ,AV.toInt,AV.toBool,AV.qq,AV.qz,List.map_map]
@[simp] theorem Udp.eta (x:Udp):eta s42 x.av=x.av:=rfl
theorem Udp.i0 (x:Udp):x.av.item 0=.int .i64 x.sport:=rfl
theorem Udp.i1 (x:Udp):x.av.item 1=.int .i64 x.dport:=rfl
theorem Udp.i2 (x:Udp):x.av.item 2=.bool x.nosum:=rfl
theorem Udp.i3 (x:Udp):x.av.item 3=.fs .u8 x.data:=rfl
theorem Udp.fold (c0:Int) (c1:Int) (c2:Bool) (c3:List Int):AV.agg [.int .i64 c0,.int .i64 c1,.bool c2,.fs .u8 c3]=Udp.av ⟨c0,c1,c2,c3⟩:=rfl
structure Tcp where
 sport:Int
 dport:Int
 seq:Int
 ack:Int
 flags:Int
 win:Int
 urg:Int
 opts:List Opt
 data:List Int
 deriving DecidableEq
def Tcp.av (x:Tcp):AV:=.agg [.int .i64 x.sport,.int .i64 x.dport,.int .i64 x.seq,.int .i64 x.ack,.int .i64 x.flags,.int .i64 x.win,.int .i64 x.urg,.fv s93 (x.opts.map Opt.av),.fs .u8 x.data]
def Tcp.of (x:AV):Tcp:=⟨(x.item 0).toInt,(x.item 1).toInt,(x.item 2).toInt,(x.item 3).toInt,(x.item 4).toInt,(x.item 5).toInt,(x.item 6).toInt,((x.item 7).qz.map Opt.of),(x.item 8).qq⟩
def Tcp.z:Tcp:=⟨0,0,0,0,0,0,0,[],[]⟩
@[simp] theorem Tcp.of_av (x:Tcp):Tcp.of x.av=x:=by
  cases x
  simp only [Tcp.of,Tcp.av,AV.item,List.getD_cons_zero,List.getD_cons_succ,AV.toInt,AV.toBool,AV.qq,AV.qz,List.map_map,Opt.of_av]
  first | rfl | simp [Function.comp_def,Opt.of_av]
@[simp] theorem Tcp.eta (x:Tcp):eta s44 x.av=x.av:=rfl
theorem Tcp.i0 (x:Tcp):x.av.item 0=.int .i64 x.sport:=rfl
theorem Tcp.i1 (x:Tcp):x.av.item 1=.int .i64 x.dport:=rfl
theorem Tcp.i2 (x:Tcp):x.av.item 2=.int .i64 x.seq:=rfl
theorem Tcp.i3 (x:Tcp):x.av.item 3=.int .i64 x.ack:=rfl
theorem Tcp.i4 (x:Tcp):x.av.item 4=.int .i64 x.flags:=rfl
theorem Tcp.i5 (x:Tcp):x.av.item 5=.int .i64 x.win:=rfl
theorem Tcp.i6 (x:Tcp):x.av.item 6=.int .i64 x.urg:=rfl
theorem Tcp.i7 (x:Tcp):x.av.item 7=.fv s93 (x.opts.map Opt.av):=rfl
theorem Tcp.i8 (x:Tcp):x.av.item 8=.fs .u8 x.data:=rfl
theorem Tcp.fold (c0:Int) (c1:Int) (c2:Int) (c3:Int) (c4:Int) (c5:Int) (c6:Int) (c7:List Opt) (c8:List Int):AV.agg [.int .i64 c0,.int .i64 c1,.int .i64 c2,.int .i64 c3,.int .i64 c4,.int .i64 c5,.int .i64 c6,.fv s93 (c7.map Opt.av),.fs .u8 c8]=Tcp.av ⟨c0,c1,c2,c3,c4,c5,c6,c7,c8⟩:=rfl
structure Frm where
 dst:List Int
 src:List Int
 tags:List Tag
 type:Int
 data:List Int
 deriving DecidableEq
def Frm.av (x:Frm):AV:=.agg [.arr .u8 6 x.dst,.arr .u8 6 x.src,.fv s79 (x.tags.map Tag.av),.int .i64 x.type,.fs .u8 x.data]
def Frm.of (x:AV):Frm:=⟨(x.item 0).qq,(x.item 1).qq,((x.item 2).qz.map Tag.of),(x.item 3).toInt,(x.item 4).qq⟩
def Frm.z:Frm:=⟨[0,0,0,0,0,0],[0,0,0,0,0,0],[],0,[]⟩
@[simp] theorem Frm.of_av (x:Frm):Frm.of x.av=x:=by
  cases x
  simp only [Frm.of,Frm.av,AV.item,List.getD_cons_zero,List.getD_cons_succ,AV.toInt,AV.toBool,AV.qq,AV.qz,List.map_map,Tag.of_av]
  first | rfl | simp [Function.comp_def,Tag.of_av]
@[simp] theorem Frm.eta (x:Frm):eta s83 x.av=x.av:=rfl
theorem Frm.i0 (x:Frm):x.av.item 0=.arr .u8 6 x.dst:=rfl
theorem Frm.i1 (x:Frm):x.av.item 1=.arr .u8 6 x.src:=rfl
theorem Frm.i2 (x:Frm):x.av.item 2=.fv s79 (x.tags.map Tag.av):=rfl
theorem Frm.i3 (x:Frm):x.av.item 3=.int .i64 x.type:=rfl
theorem Frm.i4 (x:Frm):x.av.item 4=.fs .u8 x.data:=rfl
theorem Frm.fold (c0:List Int) (c1:List Int) (c2:List Tag) (c3:Int) (c4:List Int):AV.agg [.arr .u8 6 c0,.arr .u8 6 c1,.fv s79 (c2.map Tag.av),.int .i64 c3,.fs .u8 c4]=Frm.av ⟨c0,c1,c2,c3,c4⟩:=rfl
structure Ends where
 src:Ip
 dst:Ip
 v:Int
 proto:Int
 piece:Bool
 deriving DecidableEq
def Ends.av (x:Ends):AV:=.agg [x.src.av,x.dst.av,.int .i64 x.v,.int .i64 x.proto,.bool x.piece]
def Ends.of (x:AV):Ends:=⟨(Ip.of (x.item 0)),(Ip.of (x.item 1)),(x.item 2).toInt,(x.item 3).toInt,(x.item 4).toBool⟩
def Ends.z:Ends:=⟨Ip.z,Ip.z,0,0,false⟩
@[simp] theorem Ends.of_av (x:Ends):Ends.of x.av=x:=by
  cases x
  simp only [Ends.of,Ends.av,AV.item,List.getD_cons_zero,List.getD_cons_succ,AV.toInt,AV.toBool,AV.qq,AV.qz,List.map_map,Ip.of_av]
@[simp] theorem Ends.eta (x:Ends):eta s104 x.av=x.av:=rfl
theorem Ends.i0 (x:Ends):x.av.item 0=x.src.av:=rfl
theorem Ends.i1 (x:Ends):x.av.item 1=x.dst.av:=rfl
theorem Ends.i2 (x:Ends):x.av.item 2=.int .i64 x.v:=rfl
theorem Ends.i3 (x:Ends):x.av.item 3=.int .i64 x.proto:=rfl
theorem Ends.i4 (x:Ends):x.av.item 4=.bool x.piece:=rfl
theorem Ends.fold (c0:Ip) (c1:Ip) (c2:Int) (c3:Int) (c4:Bool):AV.agg [c0.av,c1.av,.int .i64 c2,.int .i64 c3,.bool c4]=Ends.av ⟨c0,c1,c2,c3,c4⟩:=rfl
structure Tup where
 proto:Int
 src:Ip
 dst:Ip
 sport:Int
 dport:Int
 deriving DecidableEq
def Tup.av (x:Tup):AV:=.agg [.int .i64 x.proto,x.src.av,x.dst.av,.int .i64 x.sport,.int .i64 x.dport]
def Tup.of (x:AV):Tup:=⟨(x.item 0).toInt,(Ip.of (x.item 1)),(Ip.of (x.item 2)),(x.item 3).toInt,(x.item 4).toInt⟩
def Tup.z:Tup:=⟨0,Ip.z,Ip.z,0,0⟩
@[simp] theorem Tup.of_av (x:Tup):Tup.of x.av=x:=by
  cases x
  simp only [Tup.of,Tup.av,AV.item,List.getD_cons_zero,List.getD_cons_succ,AV.toInt,AV.toBool,AV.qq,AV.qz,List.map_map,Ip.of_av]
@[simp] theorem Tup.eta (x:Tup):eta s66 x.av=x.av:=rfl
theorem Tup.i0 (x:Tup):x.av.item 0=.int .i64 x.proto:=rfl
theorem Tup.i1 (x:Tup):x.av.item 1=x.src.av:=rfl
theorem Tup.i2 (x:Tup):x.av.item 2=x.dst.av:=rfl
theorem Tup.i3 (x:Tup):x.av.item 3=.int .i64 x.sport:=rfl
theorem Tup.i4 (x:Tup):x.av.item 4=.int .i64 x.dport:=rfl
theorem Tup.fold (c0:Int) (c1:Ip) (c2:Ip) (c3:Int) (c4:Int):AV.agg [.int .i64 c0,c1.av,c2.av,.int .i64 c3,.int .i64 c4]=Tup.av ⟨c0,c1,c2,c3,c4⟩:=rfl
structure Pkt where
 dst:List Int
 src:List Int
 tags:List Tag
 kind:Int
 arp:Arp
 ip4:Ip4
 ip6:Ip6
 l4:Int
 icmp:Icmp
 udp:Udp
 tcp:Tcp
 deriving DecidableEq
def Pkt.av (x:Pkt):AV:=.agg [.arr .u8 6 x.dst,.arr .u8 6 x.src,.fv s79 (x.tags.map Tag.av),.int .i64 x.kind,x.arp.av,x.ip4.av,x.ip6.av,.int .i64 x.l4,x.icmp.av,x.udp.av,x.tcp.av]
def Pkt.of (x:AV):Pkt:=⟨(x.item 0).qq,(x.item 1).qq,((x.item 2).qz.map Tag.of),(x.item 3).toInt,(Arp.of (x.item 4)),(Ip4.of (x.item 5)),(Ip6.of (x.item 6)),(x.item 7).toInt,(Icmp.of (x.item 8)),(Udp.of (x.item 9)),(Tcp.of (x.item 10))⟩
def Pkt.z:Pkt:=⟨[0,0,0,0,0,0],[0,0,0,0,0,0],[],0,Arp.z,Ip4.z,Ip6.z,0,Icmp.z,Udp.z,Tcp.z⟩
@[simp] theorem Pkt.of_av (x:Pkt):Pkt.of x.av=x:=by
  cases x
  simp only [Pkt.of,Pkt.av,AV.item,List.getD_cons_zero,List.getD_cons_succ,AV.toInt,AV.toBool,AV.qq,AV.qz,List.map_map,Arp.of_av,Icmp.of_av,Ip4.of_av,Ip6.of_av,Tag.of_av,Tcp.of_av,Udp.of_av]
  first | rfl | simp [Function.comp_def,Arp.of_av,Icmp.of_av,Ip4.of_av,Ip6.of_av,Tag.of_av,Tcp.of_av,Udp.of_av]
@[simp] theorem Pkt.eta (x:Pkt):eta s46 x.av=x.av:=rfl
theorem Pkt.i0 (x:Pkt):x.av.item 0=.arr .u8 6 x.dst:=rfl
theorem Pkt.i1 (x:Pkt):x.av.item 1=.arr .u8 6 x.src:=rfl
theorem Pkt.i2 (x:Pkt):x.av.item 2=.fv s79 (x.tags.map Tag.av):=rfl
theorem Pkt.i3 (x:Pkt):x.av.item 3=.int .i64 x.kind:=rfl
theorem Pkt.i4 (x:Pkt):x.av.item 4=x.arp.av:=rfl
theorem Pkt.i5 (x:Pkt):x.av.item 5=x.ip4.av:=rfl
theorem Pkt.i6 (x:Pkt):x.av.item 6=x.ip6.av:=rfl
theorem Pkt.i7 (x:Pkt):x.av.item 7=.int .i64 x.l4:=rfl
theorem Pkt.i8 (x:Pkt):x.av.item 8=x.icmp.av:=rfl
theorem Pkt.i9 (x:Pkt):x.av.item 9=x.udp.av:=rfl
theorem Pkt.i10 (x:Pkt):x.av.item 10=x.tcp.av:=rfl
theorem Pkt.fold (c0:List Int) (c1:List Int) (c2:List Tag) (c3:Int) (c4:Arp) (c5:Ip4) (c6:Ip6) (c7:Int) (c8:Icmp) (c9:Udp) (c10:Tcp):AV.agg [.arr .u8 6 c0,.arr .u8 6 c1,.fv s79 (c2.map Tag.av),.int .i64 c3,c4.av,c5.av,c6.av,.int .i64 c7,c8.av,c9.av,c10.av]=Pkt.av ⟨c0,c1,c2,c3,c4,c5,c6,c7,c8,c9,c10⟩:=rfl
structure Chn where
 exts:List Ext
 frag:Frag
 next:Int
 data:List Int
 deriving DecidableEq
def Chn.av (x:Chn):AV:=.agg [.fv s124 (x.exts.map Ext.av),x.frag.av,.int .i64 x.next,.fs .u8 x.data]
def Chn.of (x:AV):Chn:=⟨((x.item 0).qz.map Ext.of),(Frag.of (x.item 1)),(x.item 2).toInt,(x.item 3).qq⟩
def Chn.z:Chn:=⟨[],Frag.z,0,[]⟩
@[simp] theorem Chn.of_av (x:Chn):Chn.of x.av=x:=by
  cases x
  simp only [Chn.of,Chn.av,AV.item,List.getD_cons_zero,List.getD_cons_succ,AV.toInt,AV.toBool,AV.qq,AV.qz,List.map_map,Ext.of_av,Frag.of_av]
  first | rfl | simp [Function.comp_def,Ext.of_av,Frag.of_av]
@[simp] theorem Chn.eta (x:Chn):eta s152 x.av=x.av:=rfl
theorem Chn.i0 (x:Chn):x.av.item 0=.fv s124 (x.exts.map Ext.av):=rfl
theorem Chn.i1 (x:Chn):x.av.item 1=x.frag.av:=rfl
theorem Chn.i2 (x:Chn):x.av.item 2=.int .i64 x.next:=rfl
theorem Chn.i3 (x:Chn):x.av.item 3=.fs .u8 x.data:=rfl
theorem Chn.fold (c0:List Ext) (c1:Frag) (c2:Int) (c3:List Int):AV.agg [.fv s124 (c0.map Ext.av),c1.av,.int .i64 c2,.fs .u8 c3]=Chn.av ⟨c0,c1,c2,c3⟩:=rfl
theorem Tag.nil:AV.fv s79 []=AV.fv s79 (List.map Tag.av []):=rfl
theorem Opt.nil:AV.fv s93 []=AV.fv s93 (List.map Opt.av []):=rfl
theorem Ext.nil:AV.fv s124 []=AV.fv s124 (List.map Ext.av []):=rfl
theorem ge0 ( x:AV) (l:List AV):getE (x::l) 0=x:=rfl
theorem ge1 (a0 x:AV) (l:List AV):getE (a0::x::l) 1=x:=rfl
theorem ge2 (a0 a1 x:AV) (l:List AV):getE (a0::a1::x::l) 2=x:=rfl
theorem ge3 (a0 a1 a2 x:AV) (l:List AV):getE (a0::a1::a2::x::l) 3=x:=rfl
theorem ge4 (a0 a1 a2 a3 x:AV) (l:List AV):getE (a0::a1::a2::a3::x::l) 4=x:=rfl
theorem ge5 (a0 a1 a2 a3 a4 x:AV) (l:List AV):getE (a0::a1::a2::a3::a4::x::l) 5=x:=rfl
theorem ge6 (a0 a1 a2 a3 a4 a5 x:AV) (l:List AV):getE (a0::a1::a2::a3::a4::a5::x::l) 6=x:=rfl
theorem ge7 (a0 a1 a2 a3 a4 a5 a6 x:AV) (l:List AV):getE (a0::a1::a2::a3::a4::a5::a6::x::l) 7=x:=rfl
theorem ge8 (a0 a1 a2 a3 a4 a5 a6 a7 x:AV) (l:List AV):getE (a0::a1::a2::a3::a4::a5::a6::a7::x::l) 8=x:=rfl
theorem ge9 (a0 a1 a2 a3 a4 a5 a6 a7 a8 x:AV) (l:List AV):getE (a0::a1::a2::a3::a4::a5::a6::a7::a8::x::l) 9=x:=rfl
theorem VD (a0 a1 a2 a3 a4 a5 a6 a7 a8 a9 x:AV) (l:List AV):getE (a0::a1::a2::a3::a4::a5::a6::a7::a8::a9::x::l) 10=x:=rfl
theorem VH (a0 a1 a2 a3 a4 a5 a6 a7 a8 a9 a10 x:AV) (l:List AV):getE (a0::a1::a2::a3::a4::a5::a6::a7::a8::a9::a10::x::l) 11=x:=rfl
theorem VZ (a0 a1 a2 a3 a4 a5 a6 a7 a8 a9 a10 a11 x:AV) (l:List AV):getE (a0::a1::a2::a3::a4::a5::a6::a7::a8::a9::a10::a11::x::l) 12=x:=rfl
theorem VO (a0 a1 a2 a3 a4 a5 a6 a7 a8 a9 a10 a11 a12 x:AV) (l:List AV):getE (a0::a1::a2::a3::a4::a5::a6::a7::a8::a9::a10::a11::a12::x::l) 13=x:=rfl
theorem tI (k:IntKind) (n:Int):(AV.int k n).toInt=n:=rfl
theorem tB (b:Bool):(AV.bool b).toBool=b:=rfl
theorem tA (k:IntKind) (n:Nat) (l:List Int):(AV.arr k n l).qq=l:=rfl
theorem tF (k:IntKind) (l:List Int):(AV.fs k l).qq=l:=rfl
theorem tV (s:Sh) (l:List AV):(AV.fv s l).qz=l:=rfl
theorem tT (l:List AV):(AV.tup l).qz=l:=rfl
theorem bT {R:Type} (x y:Option R):brO true x y=x:=rfl
theorem bF {R:Type} (x y:Option R):brO false x y=y:=rfl
theorem bI {R:Type} (b:Bool) (x y:Option R):brO b x y=if b=true then x else y:=by cases b <;> rfl
theorem jL {R:Type} (d:List AV) (k:List AV->Option R):jn (inl (some d)) k=k d:=rfl
theorem jR {R:Type} (r:R) (k:List AV->Option R):jn (inr (some r)) k=some r:=rfl
theorem jl {R:Type} (d:List AV) (k:List AV->Option R):jn (some (.inl d)) k=k d:=rfl
theorem jr {R:Type} (r:R) (k:List AV->Option R):jn (some (.inr r)) k=some r:=rfl
theorem jN {R:Type} (k:List AV->Option R):jn none k=none:=rfl
theorem iL {R:Type} (d:List AV):(inl (some d):Option (Sum (List AV) R))=some (.inl d):=rfl
theorem iR {R:Type} (d:R):(inr (some d):Option (Sum (List AV) R))=some (.inr d):=rfl
theorem iLN {R:Type}:(inl none:Option (Sum (List AV) R))=none:=rfl
theorem iRN {R:Type}:(inr (none:Option R):Option (Sum (List AV) R))=none:=rfl
theorem jC {R:Type} (c:Prop) [Decidable c] (x y:Option (Sum (List AV) R)) (k:List AV->Option R):jn (if c then x else y) k=if c then jn x k else jn y k:=by split <;> rfl
theorem iLC {R:Type} (c:Prop) [Decidable c] (x y:Option (List AV)):(inl (if c then x else y):Option (Sum (List AV) R))=if c then inl x else inl y:=by split <;> rfl
theorem iRC {R:Type} (c:Prop) [Decidable c] (x y:Option R):(inr (if c then x else y):Option (Sum (List AV) R))=if c then inr x else inr y:=by split <;> rfl
theorem oC {α β:Type} (c:Prop) [Decidable c] (x y:Option α) (k:α->Option β):(if c then x else y).bind k=if c then x.bind k else y.bind k:=by split <;> rfl
theorem oS {α β:Type} (a:α) (k:α->Option β):(some a).bind k=k a:=rfl
theorem oN {α β:Type} (k:α->Option β):(none:Option α).bind k=none:=rfl
theorem nl0 (x:AV):Nat.beq (List.length ([]:List AV)) 0=true:=rfl
theorem nl1 (a0:AV):Nat.beq (List.length [a0]) 1=true:=rfl
theorem nl2 (a0 a1:AV):Nat.beq (List.length [a0,a1]) 2=true:=rfl
theorem nl3 (a0 a1 a2:AV):Nat.beq (List.length [a0,a1,a2]) 3=true:=rfl
theorem nl4 (a0 a1 a2 a3:AV):Nat.beq (List.length [a0,a1,a2,a3]) 4=true:=rfl
theorem nl5 (a0 a1 a2 a3 a4:AV):Nat.beq (List.length [a0,a1,a2,a3,a4]) 5=true:=rfl
theorem nl6 (a0 a1 a2 a3 a4 a5:AV):Nat.beq (List.length [a0,a1,a2,a3,a4,a5]) 6=true:=rfl
theorem nl7 (a0 a1 a2 a3 a4 a5 a6:AV):Nat.beq (List.length [a0,a1,a2,a3,a4,a5,a6]) 7=true:=rfl
end Go.Proofs.YtlmnjnhmhacgkaaGreatDoor.Am
end
section
set_option linter.unusedVariables false
set_option maxRecDepth 100000
namespace Go.Proofs.YtlmnjnhmhacgkaaGreatDoor.Am
open Go Go.Am Go.Proofs
theorem ZA:type_of% (And.intro @Ip.eta (And.intro @Ip.i0 (And.intro @Ip.i1 (And.intro @Ip.fold (And.intro @Tag.eta (And.intro @Tag.i0 (And.intro @Tag.i1 (And.intro @Tag.i2 (And.intro @Tag.i3 (And.intro @Tag.fold (And.intro @Opt.eta (And.intro @Opt.i0 (And.intro @Opt.i1 (And.intro @Opt.fold (And.intro @Arp.eta @Arp.i0))))))))))))))):=And.intro @Ip.eta (And.intro @Ip.i0 (And.intro @Ip.i1 (And.intro @Ip.fold (And.intro @Tag.eta (And.intro @Tag.i0 (And.intro @Tag.i1 (And.intro @Tag.i2 (And.intro @Tag.i3 (And.intro @Tag.fold (And.intro @Opt.eta (And.intro @Opt.i0 (And.intro @Opt.i1 (And.intro @Opt.fold (And.intro @Arp.eta @Arp.i0))))))))))))))
theorem ZB:type_of% (And.intro @Arp.i1 (And.intro @Arp.i2 (And.intro @Arp.i3 (And.intro @Arp.i4 (And.intro @Arp.fold (And.intro @Ip4.eta (And.intro @Ip4.i0 (And.intro @Ip4.i1 (And.intro @Ip4.i2 (And.intro @Ip4.i3 (And.intro @Ip4.i4 (And.intro @Ip4.i5 (And.intro @Ip4.i6 (And.intro @Ip4.i7 (And.intro @Ip4.i8 @Ip4.i9))))))))))))))):=And.intro @Arp.i1 (And.intro @Arp.i2 (And.intro @Arp.i3 (And.intro @Arp.i4 (And.intro @Arp.fold (And.intro @Ip4.eta (And.intro @Ip4.i0 (And.intro @Ip4.i1 (And.intro @Ip4.i2 (And.intro @Ip4.i3 (And.intro @Ip4.i4 (And.intro @Ip4.i5 (And.intro @Ip4.i6 (And.intro @Ip4.i7 (And.intro @Ip4.i8 @Ip4.i9))))))))))))))
theorem ZC:type_of% (And.intro @Ip4.i10 (And.intro @Ip4.fold (And.intro @Frag.eta (And.intro @Frag.i0 (And.intro @Frag.i1 (And.intro @Frag.i2 (And.intro @Frag.i3 (And.intro @Frag.fold (And.intro @Ext.eta (And.intro @Ext.i0 (And.intro @Ext.i1 (And.intro @Ext.i2 (And.intro @Ext.fold (And.intro @Ip6.eta (And.intro @Ip6.i0 @Ip6.i1))))))))))))))):=And.intro @Ip4.i10 (And.intro @Ip4.fold (And.intro @Frag.eta (And.intro @Frag.i0 (And.intro @Frag.i1 (And.intro @Frag.i2 (And.intro @Frag.i3 (And.intro @Frag.fold (And.intro @Ext.eta (And.intro @Ext.i0 (And.intro @Ext.i1 (And.intro @Ext.i2 (And.intro @Ext.fold (And.intro @Ip6.eta (And.intro @Ip6.i0 @Ip6.i1))))))))))))))
theorem ZD:type_of% (And.intro @Ip6.i2 (And.intro @Ip6.i3 (And.intro @Ip6.i4 (And.intro @Ip6.i5 (And.intro @Ip6.i6 (And.intro @Ip6.i7 (And.intro @Ip6.i8 (And.intro @Ip6.fold (And.intro @Icmp.eta (And.intro @Icmp.i0 (And.intro @Icmp.i1 (And.intro @Icmp.i2 (And.intro @Icmp.i3 (And.intro @Icmp.i4 (And.intro @Icmp.fold @Udp.eta))))))))))))))):=And.intro @Ip6.i2 (And.intro @Ip6.i3 (And.intro @Ip6.i4 (And.intro @Ip6.i5 (And.intro @Ip6.i6 (And.intro @Ip6.i7 (And.intro @Ip6.i8 (And.intro @Ip6.fold (And.intro @Icmp.eta (And.intro @Icmp.i0 (And.intro @Icmp.i1 (And.intro @Icmp.i2 (And.intro @Icmp.i3 (And.intro @Icmp.i4 (And.intro @Icmp.fold @Udp.eta))))))))))))))
theorem ZE:type_of% (And.intro @Udp.i0 (And.intro @Udp.i1 (And.intro @Udp.i2 (And.intro @Udp.i3 (And.intro @Udp.fold (And.intro @Tcp.eta (And.intro @Tcp.i0 (And.intro @Tcp.i1 (And.intro @Tcp.i2 (And.intro @Tcp.i3 (And.intro @Tcp.i4 (And.intro @Tcp.i5 (And.intro @Tcp.i6 (And.intro @Tcp.i7 (And.intro @Tcp.i8 @Tcp.fold))))))))))))))):=And.intro @Udp.i0 (And.intro @Udp.i1 (And.intro @Udp.i2 (And.intro @Udp.i3 (And.intro @Udp.fold (And.intro @Tcp.eta (And.intro @Tcp.i0 (And.intro @Tcp.i1 (And.intro @Tcp.i2 (And.intro @Tcp.i3 (And.intro @Tcp.i4 (And.intro @Tcp.i5 (And.intro @Tcp.i6 (And.intro @Tcp.i7 (And.intro @Tcp.i8 @Tcp.fold))))))))))))))
theorem ZF:type_of% (And.intro @Frm.eta (And.intro @Frm.i0 (And.intro @Frm.i1 (And.intro @Frm.i2 (And.intro @Frm.i3 (And.intro @Frm.i4 (And.intro @Frm.fold (And.intro @Ends.eta (And.intro @Ends.i0 (And.intro @Ends.i1 (And.intro @Ends.i2 (And.intro @Ends.i3 (And.intro @Ends.i4 (And.intro @Ends.fold (And.intro @Tup.eta @Tup.i0))))))))))))))):=And.intro @Frm.eta (And.intro @Frm.i0 (And.intro @Frm.i1 (And.intro @Frm.i2 (And.intro @Frm.i3 (And.intro @Frm.i4 (And.intro @Frm.fold (And.intro @Ends.eta (And.intro @Ends.i0 (And.intro @Ends.i1 (And.intro @Ends.i2 (And.intro @Ends.i3 (And.intro @Ends.i4 (And.intro @Ends.fold (And.intro @Tup.eta @Tup.i0))))))))))))))
theorem ZG:type_of% (And.intro @Tup.i1 (And.intro @Tup.i2 (And.intro @Tup.i3 (And.intro @Tup.i4 (And.intro @Tup.fold (And.intro @Pkt.eta (And.intro @Pkt.i0 (And.intro @Pkt.i1 (And.intro @Pkt.i2 (And.intro @Pkt.i3 (And.intro @Pkt.i4 (And.intro @Pkt.i5 (And.intro @Pkt.i6 (And.intro @Pkt.i7 (And.intro @Pkt.i8 @Pkt.i9))))))))))))))):=And.intro @Tup.i1 (And.intro @Tup.i2 (And.intro @Tup.i3 (And.intro @Tup.i4 (And.intro @Tup.fold (And.intro @Pkt.eta (And.intro @Pkt.i0 (And.intro @Pkt.i1 (And.intro @Pkt.i2 (And.intro @Pkt.i3 (And.intro @Pkt.i4 (And.intro @Pkt.i5 (And.intro @Pkt.i6 (And.intro @Pkt.i7 (And.intro @Pkt.i8 @Pkt.i9))))))))))))))
theorem ZH:type_of% (And.intro @Pkt.i10 (And.intro @Pkt.fold (And.intro @Chn.eta (And.intro @Chn.i0 (And.intro @Chn.i1 (And.intro @Chn.i2 (And.intro @Chn.i3 (And.intro @Chn.fold (And.intro @Tag.nil (And.intro @Opt.nil (And.intro @Ext.nil (And.intro @ge0 (And.intro @ge1 (And.intro @ge2 (And.intro @ge3 @ge4))))))))))))))):=And.intro @Pkt.i10 (And.intro @Pkt.fold (And.intro @Chn.eta (And.intro @Chn.i0 (And.intro @Chn.i1 (And.intro @Chn.i2 (And.intro @Chn.i3 (And.intro @Chn.fold (And.intro @Tag.nil (And.intro @Opt.nil (And.intro @Ext.nil (And.intro @ge0 (And.intro @ge1 (And.intro @ge2 (And.intro @ge3 @ge4))))))))))))))
theorem ZI:type_of% (And.intro @ge5 (And.intro @ge6 (And.intro @ge7 (And.intro @ge8 (And.intro @ge9 (And.intro @VD (And.intro @VH (And.intro @VZ (And.intro @VO (And.intro @nl0 (And.intro @nl1 (And.intro @nl2 (And.intro @nl3 (And.intro @nl4 (And.intro @nl5 @nl6))))))))))))))):=And.intro @ge5 (And.intro @ge6 (And.intro @ge7 (And.intro @ge8 (And.intro @ge9 (And.intro @VD (And.intro @VH (And.intro @VZ (And.intro @VO (And.intro @nl0 (And.intro @nl1 (And.intro @nl2 (And.intro @nl3 (And.intro @nl4 (And.intro @nl5 @nl6))))))))))))))
theorem ZJ:type_of% (And.intro @nl7 (And.intro @tI (And.intro @tB (And.intro @tA (And.intro @tF (And.intro @tV (And.intro @tT (And.intro @bT (And.intro @bF (And.intro @jL (And.intro @jR (And.intro @jl (And.intro @jr (And.intro @jN (And.intro @iL @iR))))))))))))))):=And.intro @nl7 (And.intro @tI (And.intro @tB (And.intro @tA (And.intro @tF (And.intro @tV (And.intro @tT (And.intro @bT (And.intro @bF (And.intro @jL (And.intro @jR (And.intro @jl (And.intro @jr (And.intro @jN (And.intro @iL @iR))))))))))))))
theorem ZK:type_of% (And.intro @iLN (And.intro @iRN (And.intro @oS @oN))):=And.intro @iLN (And.intro @iRN (And.intro @oS @oN))
theorem ZX:type_of% (And.intro @bI (And.intro @jC (And.intro @iLC (And.intro @iRC @oC)))):=And.intro @bI (And.intro @jC (And.intro @iLC (And.intro @iRC @oC)))
theorem ZZ:type_of% (And.intro ZA (And.intro ZB (And.intro ZC (And.intro ZD (And.intro ZE (And.intro ZF (And.intro ZG (And.intro ZH (And.intro ZI (And.intro ZJ ZK)))))))))):=And.intro ZA (And.intro ZB (And.intro ZC (And.intro ZD (And.intro ZE (And.intro ZF (And.intro ZG (And.intro ZH (And.intro ZI (And.intro ZJ ZK)))))))))
theorem ZW:type_of% (And.intro @decide_eq_true_eq (And.intro @Bool.not_eq_true' (And.intro (@beq_iff_eq Int _ _) (And.intro (@beq_iff_eq Nat _ _) (And.intro (@beq_iff_eq Bool _ _) (And.intro (@bne_iff_ne Int _ _) (And.intro (@bne_iff_ne Nat _ _) (And.intro (@bne_iff_ne Bool _ _) (And.intro (fun (α:Type) (a b:α)=>@ne_eq α a b) (And.intro @Bool.and_eq_true @Bool.or_eq_true)))))))))):=And.intro @decide_eq_true_eq (And.intro @Bool.not_eq_true' (And.intro (@beq_iff_eq Int _ _) (And.intro (@beq_iff_eq Nat _ _) (And.intro (@beq_iff_eq Bool _ _) (And.intro (@bne_iff_ne Int _ _) (And.intro (@bne_iff_ne Nat _ _) (And.intro (@bne_iff_ne Bool _ _) (And.intro (fun (α:Type) (a b:α)=>@ne_eq α a b) (And.intro @Bool.and_eq_true @Bool.or_eq_true)))))))))
theorem ZY:type_of% (And.intro ZZ (And.intro ZX ZW)):=And.intro ZZ (And.intro ZX ZW)
end Go.Proofs.YtlmnjnhmhacgkaaGreatDoor.Am
end
section
set_option linter.unusedVariables false
set_option linter.unusedSimpArgs false
set_option maxRecDepth 100000
namespace Go.Proofs.YtlmnjnhmhacgkaaGreatDoor.Am
open Go Go.Am Go.Proofs
theorem lh {R σ:Type} {g:List AV->(List AV->Option R)->Option R} (enc:σ->List AV) (μ:σ->Nat) (res:σ->R) (Good:σ->Prop)
  (hstep:∀ x k,Good x->(∀ y,μ y<μ x->Good y->k (enc y)=some (res y))->g (enc x) k=some (res x)):∀ n x,μ x<n->Good x->iter g n (enc x)=some (res x):=by
 intro n
 induction n with
 | zero=>intro x h; omega
 | succ n ih=>
  intro x h hg;exact hstep x (iter g n) hg (fun y hy hgy=>ih y (by omega) hgy)
theorem xi {R σ:Type} {g:List AV->(List AV->Option (Sum (List AV) R))->Option (Sum (List AV) R)} {n:Nat} {K:List AV->Option R} {r:Option R} (enc:σ->List AV) (μ:σ->Nat) (out:σ->List AV) (Good:σ->Prop) (x:σ) (hμ:μ x<n) (hg:Good x)
  (hstep:∀ x k,Good x->(∀ y,μ y<μ x->Good y->k (enc y)=some (.inl (out y)))->g (enc x) k=some (.inl (out x))) (hK:K (out x)=r):jn (iter g n (enc x)) K=r:=by
 rw [lh enc μ (fun x=>Sum.inl (out x)) Good hstep n x hμ hg];exact hK
theorem wZ {R σ:Type} {g:List AV->(List AV->Option (Sum (List AV) R))->Option (Sum (List AV) R)} {n:Nat} {K:List AV->Option R} {r:Option R} (enc:σ->List AV) (μ:σ->Nat) (out:σ->Sum (List AV) R) (Good:σ->Prop) (x:σ) (hμ:μ x<n) (hg:Good x)
  (hstep:∀ x k,Good x->(∀ y,μ y<μ x->Good y->k (enc y)=some (out y))->g (enc x) k=some (out x)) (hK:jn (some (out x)) K=r):jn (iter g n (enc x)) K=r:=by
 rw [lh enc μ out Good hstep n x hμ hg];exact hK
theorem pD {R:Type} {x y:Option (Sum (List AV) R)} {K:List AV->Option R} {r:Option R} (h:x=y) (h2:jn y K=r):jn x K=r:=by rw [h]; exact h2
def Bytes (l:List Int):Prop:=∀ x∈l,0<=x/\x<=255
instance (l:List Int):Decidable (Bytes l):=by unfold Bytes; infer_instance
theorem Bytes.get {l:List Int} (h:Bytes l) (i:Nat):0<=qk l i/\qk l i<=255:=by
 unfold qk;rw [List.getD_eq_getElem?_getD]
 cases e:l[i]? with
 | none=>exact ⟨Int.le_refl _,by decide⟩
 | some x=>exact h x (List.mem_of_getElem? e)
theorem Bytes.take {l:List Int} (h:Bytes l) (n:Nat):Bytes (l.take n):=fun x hx=>h x (List.mem_of_mem_take hx)
theorem Bytes.drop {l:List Int} (h:Bytes l) (n:Nat):Bytes (l.drop n):=fun x hx=>h x (List.mem_of_mem_drop hx)
theorem Bytes.app {l m:List Int} (h:Bytes l) (h' : Bytes m):Bytes (l++m):=fun x hx=>(List.mem_append.1 hx).elim (h x) (h' x)
theorem zt {c:Nat} (h:c<18446744073709551616):(BitVec.ofInt 64 (c:Int)).toNat=c:=by
 rw [BitVec.toNat_ofInt]
 show ((c:Int) % (18446744073709551616:Nat)).toNat=c;omega
theorem QF {x y:Int} (k:Nat) (hk:k<=60) (h1:0<=x) (h2:x<2 ^ 62) (h3:0<=y) (h4:y<2 ^ k) (hx:x % 2 ^ k=0) :
  (((BitVec.ofInt 64 x ||| BitVec.ofInt 64 y).toNat:Nat):Int)=x+y:=by
 obtain ⟨a,rfl⟩:=Int.eq_ofNat_of_zero_le h1;obtain ⟨b,rfl⟩:=Int.eq_ofNat_of_zero_le h3;have hp:(2:Nat) ^ k<=2 ^ 60:=Nat.pow_le_pow_right (by omega) hk;have e1:(2:Int) ^ k=((2 ^ k:Nat):Int):=by rw [Int.natCast_pow]; rfl
 rw [e1] at h4 hx;have hb:b<2 ^ k:=by exact_mod_cast h4
 have ha:a % 2 ^ k=0:=by exact_mod_cast hx
 have ha' : a<4611686018427387904:=by omega
 have hb' : b<18446744073709551616:=by omega
 rw [BitVec.toNat_or,zt (by omega),zt hb']
 have:a ||| b=a+b:=by
  obtain ⟨c,rfl⟩:=Nat.dvd_of_mod_eq_zero ha;exact (Nat.two_pow_add_eq_or_of_lt hb c).symm
 rw [this];simp
def jy (l:List Int) (j:Nat):Int:=qk l (j / 8) / 2 ^ (7 - j % 8) % 2
def fld (l:List Int) (j:Nat):Nat->Int
 | 0=>0
 | w+1=>2 * fld l j w+jy l (j+w)
def vx (l:List Int):Nat->List Nat->List Int
 | _,[]=>[]
 | j,w::ws=>fld l j w::vx l (j+w) ws
theorem ij (l:List Int) (j:Nat):0<=jy l j/\jy l j<2:=by unfold jy; omega
theorem cA (l:List Int) (j w:Nat):0<=fld l j w/\fld l j w<2 ^ w:=by
 induction w with
 | zero=>simp [fld]
 | succ w ih=>
  have:=ij l (j+w);simp only [fld,Int.pow_succ];omega
theorem ru {x:Int} (h1:0<=x) (h2:x<=255) {s:Nat} (hs:s<=7):IntKind.wrap .u8 (Int.ofNat (BitVec.toNat ((BitVec.ofInt 8 (Int.fdiv x (2 ^ s))) &&& (BitVec.ofInt 8 1))))=x / 2 ^ s % 2:=by
 obtain ⟨a,rfl⟩:=Int.eq_ofNat_of_zero_le h1;rw [Int.fdiv_eq_ediv_of_nonneg _ (Int.le_of_lt (Int.pow_pos (by decide))),W8];have e1:(2:Int) ^ s=((2 ^ s:Nat):Int):=by rw [Int.natCast_pow]; rfl
 rw [e1,<-Int.natCast_ediv];have hd:a / 2 ^ s<=255:=Nat.le_trans (Nat.div_le_self _ _) (by omega);rw [BitVec.toNat_and,BitVec.toNat_ofInt,BitVec.toNat_ofInt];generalize a / 2 ^ s=q at hd ⊢;have e2:((q:Int) % (2 ^ 8:Nat)).toNat=q:=by omega
 have e3:((1:Int) % (2 ^ 8:Nat)).toNat=1:=rfl;rw [e2,e3,Nat.and_one_is_mod];simp;omega
theorem Qx (l:List Int) (hl:Bytes l) (v:Int) (j:Nat) (h1:0<=v) (h2:v<2 ^ 40) :
  IntKind.wrap .i64 (Int.ofNat (BitVec.toNat ((BitVec.ofInt 64 (IntKind.wrap .i64 (v * (Int.ofNat (2 ^ (Min.min (Int.toNat 1) (IntKind.bits .i64))))))) ||| (BitVec.ofInt 64 (IntKind.wrap .i64 (IntKind.wrap .u8 (Int.ofNat (BitVec.toNat ((BitVec.ofInt 8 (Int.fdiv (qk l (j / 8)) (2 ^ (Min.min (Int.toNat (7 - ((j % 8:Nat):Int))) 8)))) &&& (BitVec.ofInt 8 1))))))))))
   = 2 * v+jy l j:=by
 have hb:=hl.get (j / 8);have e1:Min.min (Int.toNat (7 - ((j % 8:Nat):Int))) 8=7 - j % 8:=by omega
 rw [e1,ru hb.1 hb.2 (by omega)];have e2:(Int.ofNat (2 ^ (Min.min (Int.toNat 1) (IntKind.bits .i64))):Int)=2:=by decide
 rw [e2];have hr:=ij l j;unfold jy at hr ⊢;rw [qv (x:=v * 2) (by omega) (by omega),qv (x:=qk l (j / 8) / 2 ^ (7 - j % 8) % 2) (by omega) (by omega)];have:=QF (x:=v * 2) (y:=qk l (j / 8) / 2 ^ (7 - j % 8) % 2) 1 (by omega) (by omega) (by omega) (by omega) (by omega) (by omega)
 show IntKind.wrap .i64 (((BitVec.ofInt 64 (v * 2) ||| BitVec.ofInt 64 (qk l (j / 8) / 2 ^ (7 - j % 8) % 2)).toNat:Nat):Int)=_;rw [this,qv (by omega) (by omega)];omega
theorem a125 (n:Nat) (b:List Int) (y z:Int) (h1:0<=y) (h2:0<=z) (h3:y+z<=b.length) (hb:b.length<2 ^ 60):A125 n [.fs .u8 b,.int .i64 y,.int .i64 z]=some [.fs .u8 ((b.drop y.toNat).take z.toNat)]:=by
 show run125 n b y z=_;rw [eq125];have e1:¬ y<0:=by omega
 have e2:¬ y >(b.length:Int):=by omega
 have e3:IntKind.wrap .i64 ((b.length:Int) - y)=b.length - y:=qv (by omega) (by omega);have e4:¬ z >(b.length:Int) - y:=by omega
 have e5:IntKind.wrap .i64 (y+z)=y+z:=qv (by omega) (by omega);simp only [ZY,e1,e2,e3,e4,e5,Int.ofNat_eq_natCast,decide_false,if_false,if_true,decide_true,Bool.false_eq_true];have e6:0<=y/\y<=y+z/\y+z<=y+z/\y+z<=(b.length:Int):=by omega
 rw [if_pos e6];have e7:(y+z).toNat - y.toNat=z.toNat:=by omega
 rw [e7]
def WOk (ws:List Nat):Prop:=∀ w∈ws,1<=w/\w<=32
def wI (ws:List Nat):List Int:=List.map Int.ofNat ws
theorem eX {ws:List Nat} {i:Nat} (h:i<ws.length):qk (wI ws) i=(ws[i]:Int):=by
 unfold qk wI;simp [List.getD_eq_getElem?_getD,h]
theorem ql {i n:Nat} (h:i<n):inR (i:Int) n=true:=by
 unfold inR;simp;exact h
theorem oM (l:List Int) (ws:List Nat):∀ (us:List Nat) (j:Nat),vx l j (ws++us)=vx l j ws++vx l (j+ws.sum) us:=by
 induction ws with
 | nil=>intro us j; simp [vx]
 | cons w ws ih=>intro us j; simp [vx,ih,Nat.add_assoc]
theorem QI (l:List Int) (ws:List Nat):∀ (j:Nat),(vx l j ws).length=ws.length:=by
 induction ws with
 | nil=>intro j; rfl
 | cons w ws ih=>intro j; simp [vx,ih]
theorem fR (l:List Int) (i:Nat):qk l (Int.toNat (i:Int))=qk l i:=by rw [Int.toNat_natCast]
theorem QS {ws:List Nat} {i:Nat} (h:i<ws.length):(ws.take (i+1)).sum=(ws.take i).sum+ws[i]:=by
 rw [List.take_succ_eq_append_getElem h,List.sum_append]; simp
theorem uu (ws:List Nat) (i:Nat):(ws.take i).sum<=ws.sum:=by
 have:=List.sum_append (l₁:=ws.take i) (l₂:=ws.drop i);rw [List.take_append_drop] at this;omega
theorem gH {l:List Int} {k i:Nat} (h:i<k):qk (l.take k) i=qk l i:=by
 unfold qk;simp [List.getD_eq_getElem?_getD,List.getElem?_take,h]
theorem sW {l:List Int} {k j:Nat} (h:j<8 * k):jy (l.take k) j=jy l j:=by
 unfold jy;rw [gH (by omega)]
theorem Qf {l:List Int} {k j w:Nat} (h:j+w<=8 * k):fld (l.take k) j w=fld l j w:=by
 induction w with
 | zero=>rfl
 | succ w ih=>rw [fld,fld,ih (by omega),sW (by omega)]
theorem pw (l:List Int) (k:Nat):∀ (ws:List Nat) (j:Nat),j+ws.sum<=8 * k->vx l j ws=vx (l.take k) j ws
 | [],_,_=>rfl
 | w::ws,j,h=>by
  rw [List.sum_cons] at h;rw [vx,vx,Qf (by omega),<-pw l k ws (j+w) (by omega)]
theorem a83 (n:Nat) (b:List Int) (at_:Nat) (ws:List Nat) (hw:WOk ws) (k:Nat) (hk:ws.sum=8 * k) (hk2:k<2 ^ 40) (hn:33<n) (hn2:ws.length<n) (hn3:ws.length<=64) (hl:at_+k<=b.length) (hb:b.length<2 ^ 60) (hB:Bytes b)
  (h123:A123 n [.fs .i64 (wI ws)]=some [.int .i64 k,.int .i64 0]):A83 n [.fs .u8 b,.int .i64 at_,.fs .i64 (wI ws)]=some [.fs .i64 (vx (b.drop at_) 0 ws),.int .i64 ((at_+k:Nat):Int),.int .i64 0]:=by
 show run83 A123 A125 A126 n b at_ (wI ws)=_;rw [eq83,h123];have e1:decide ((at_:Int)<0)=false:=by simp
 have e2:decide ((at_:Int) > Int.ofNat b.length)=false:=decide_eq_false (by simp; omega);have e3:IntKind.wrap .i64 (Int.ofNat b.length - at_)=b.length - at_:=qv (by simp; omega) (by simp; omega);have e4:decide ((k:Int) >(b.length:Int) - at_)=false:=by simp; omega
 have e5:=a125 n b at_ k (by omega) (by omega) (by omega) hb;rw [Int.toNat_natCast,Int.toNat_natCast] at e5;simp only [ZZ,show ((0:Int) != 0)=false from rfl,e1,e2,e3,e5,Bool.false_or];rw [qi (by simp; omega)];have hw1:(wI ws).length=ws.length:=by simp [wI]
 have hP:(List.take k (List.drop at_ b)).length=k:=by simp; omega
 have hPB:Bytes (List.take k (List.drop at_ b)):=(hB.drop _).take _;have hfl:vx (b.drop at_) 0 ws=vx (List.take k (List.drop at_ b)) 0 ws:=pw _ _ _ _ (by omega);rw [hfl];generalize List.take k (List.drop at_ b)=P at hP hPB ⊢;rw [hw1];refine xi (fun i:Nat=>[.int .i64 at_,.fs .i64 (vx P 0 (ws.take i)),.int .i64 0,.int .i64 0,.int .i64 k,.fs .u8 P,.int .i64 ((ws.take i).sum:Nat),.fs .i64 (wI ws),.int .i64 (Int.ofNat ws.length),.int .i64 (i:Nat)]) (fun i=>ws.length - i)
  (fun _=>[.int .i64 at_,.fs .i64 (vx P 0 ws),.int .i64 0,.int .i64 0,.int .i64 k]) (fun i=>i<=ws.length) 0 (by show ws.length - 0<n; omega) (Nat.zero_le _) (fun i K hi hK=>?_) ?_
 ·simp only [ZZ]
  by_cases hi2:i<ws.length
  ·have hS:=QS hi2;have hS2:(ws.take (i+1)).sum<=8 * k:=by rw [<-hk]; exact uu ws (i+1)
   have hwi:=hw ws[i] (List.getElem_mem hi2);rw [qp (by simpa using hi2),hw1,ql hi2,bT,fR,eX hi2]
   refine pD (xi (r:=some (Sum.inl ([.int .i64 at_,.fs .i64 (vx P 0 (ws.take i)++[fld P (ws.take i).sum ws[i]]),.int .i64 0,.int .i64 0,.int .i64 k,.fs .u8 P,.int .i64 ((ws.take (i+1)).sum:Nat),.fs .i64 (wI ws),.int .i64 (Int.ofNat ws.length),.int .i64 (i:Nat)]:List AV))) (fun t:Nat=>[.int .i64 at_,.fs .i64 (vx P 0 (ws.take i)),.int .i64 0,.int .i64 0,.int .i64 k,.fs .u8 P,.int .i64 (((ws.take i).sum+t:Nat):Int),.int .i64 (fld P (ws.take i).sum t),.fs .i64 (wI ws),.int .i64 (Int.ofNat ws.length),.int .i64 (i:Nat),.int .i64 ((ws[i]:Nat):Int),.int .i64 (t:Nat)]) (fun t=>ws[i] - t)
    (fun _=>[.int .i64 at_,.fs .i64 (vx P 0 (ws.take i)),.int .i64 0,.int .i64 0,.int .i64 k,.fs .u8 P,.int .i64 ((ws.take (i+1)).sum:Nat),.int .i64 (fld P (ws.take i).sum ws[i]),.fs .i64 (wI ws),.int .i64 (Int.ofNat ws.length),.int .i64 (i:Nat)]) (fun t=>t<=ws[i]) 0 (by show ws[i] - 0<n; omega) (Nat.zero_le _) (fun t K2 ht hK2=>?_) ?_) ?_
   ·simp only [ZZ]
    by_cases ht2:t<ws[i]
    ·have q:=(ws.take i).sum+t;have hq:(ws.take i).sum+t<8 * k:=by omega
     generalize hj:(ws.take i).sum+t=j at hq;have d1:Int.tdiv (j:Int) 8=((j / 8:Nat):Int):=by rw [Int.tdiv_eq_ediv_of_nonneg (by omega)]; omega
     have d2:Int.tmod (j:Int) 8=((j % 8:Nat):Int):=by rw [Int.tmod_eq_emod_of_nonneg (by omega)]; omega
     have d3:IntKind.wrap .u64 ((j % 8:Nat):Int)=((j % 8:Nat):Int):=kA (by omega) (by omega);have d4:IntKind.wrap .u64 (7 - ((j % 8:Nat):Int))=7 - ((j % 8:Nat):Int):=kA (by omega) (by omega);have hfr:=cA P (ws.take i).sum t
     have hp40:(2:Int) ^ t<=2 ^ 32:=by
      have:(2:Nat) ^ t<=2 ^ 32:=Nat.pow_le_pow_right (by omega) (by omega)
      exact_mod_cast this
     have w1:IntKind.wrap .i64 ((j / 8:Nat):Int)=((j / 8:Nat):Int):=qv (by omega) (by omega);have w2:IntKind.wrap .i64 ((j:Int)+1)=(j:Int)+1:=qv (by omega) (by omega);have w3:IntKind.wrap .i64 ((t:Int)+1)=(t:Int)+1:=qv (by omega) (by omega);have w4:=a126 n P ((j / 8:Nat):Int) (by omega) (by omega);rw [qp (by simpa using ht2)];simp only [d1,w1,w2,w3,w4,ZZ,d2,d3,d4,fR];rw [qi (by simp; omega),qp (by simp; omega),Qx P hPB _ j hfr.1 (by omega)];have:=hK2 (t+1) (by show ws[i] - (t+1)<ws[i] - t; omega) (by show t+1<=ws[i]; omega);rw [<-this,<-hj];rfl
    ·have:t=ws[i]:=by omega
     subst this;rw [qi (by simp),<-hS]
   ·simp only [ZZ];rw [qp (by rw [QI]; simp; omega)]
   ·simp only [ZZ];have:=hK (i+1) (by show ws.length - (i+1)<ws.length - i; omega) (by show i+1<=ws.length; omega);rw [qv (by omega) (by omega),<-this]
    show K _=K _;rw [List.take_succ_eq_append_getElem hi2,oM];simp [vx]
  ·have:i=ws.length:=by omega
   subst this;rw [qi (by simp)];simp
 ·simp only [ZZ];rw [qv (by omega) (by omega)];simp
def qm (p:Pkt):Ends:=
 if p.kind=2 then ⟨p.ip4.src,p.ip4.dst,4,p.ip4.proto,p.ip4.mf || decide (p.ip4.off > 0)⟩
 else ⟨p.ip6.src,p.ip6.dst,6,p.ip6.next,p.ip6.frag.has⟩
theorem a55 (n:Nat) (p:Pkt):A55 n [p.av]=some [(qm p).av]:=by
 show run55 n p.av=_;rw [eq55];simp only [ZY];unfold qm
 by_cases h:p.kind=2
 ·rw [if_pos h,if_pos h]
  by_cases h2:p.ip4.mf=true
  ·rw [if_pos h2]; simp [h2]
  ·rw [if_neg h2]; simp [h2]
 ·rw [if_neg h,if_neg h]
def qn (bs:List Int) (i:Nat):Int:=qk bs (8 * i) * 128+qk bs (8 * i+1) * 64+qk bs (8 * i+2) * 32+qk bs (8 * i+3) * 16+qk bs (8 * i+4) * 8+qk bs (8 * i+5) * 4+qk bs (8 * i+6) * 2+qk bs (8 * i+7)
def mkB (k:Nat) (bs:List Int):List Int:=(List.range k).map (qn bs)
def wU (w:Nat) (v:Int):List Int:=(List.range w).map fun t=>v / 2 ^ (w - 1 - t) % 2
def zx:List (Nat × Int)->List Int
 | []=>[]
 | p::l=>wU p.1 p.2++zx l
def Bits (l:List Int):Prop:=∀ x∈l,x=0\/x=1
def kM (ps:List (Nat × Int)):Nat:=(ps.map Prod.fst).sum
theorem qV (w:Nat) (v:Int):(wU w v).length=w:=by simp [wU]
theorem eu (w:Nat) (v:Int):Bits (wU w v):=by
 intro x hx;obtain ⟨t,_,rfl⟩:=List.mem_map.1 hx;omega
theorem Qe (ps:List (Nat × Int)):(zx ps).length=kM ps:=by
 induction ps with
 | nil=>rfl
 | cons p l ih=>simp [zx,qV,ih,kM]
theorem vI (ps:List (Nat × Int)):Bits (zx ps):=by
 induction ps with
 | nil=>intro x hx; cases hx
 | cons p l ih=>intro x hx; exact (List.mem_append.1 hx).elim (eu _ _ x) (ih x)
theorem oO (ps qs:List (Nat × Int)):zx (ps++qs)=zx ps++zx qs:=by
 induction ps with
 | nil=>rfl
 | cons p l ih=>simp [zx,ih]
theorem Bits.get {l:List Int} (h:Bits l) (i:Nat):qk l i=0\/qk l i=1:=by
 unfold qk;rw [List.getD_eq_getElem?_getD]
 cases e:l[i]? with
 | none=>exact .inl rfl
 | some x=>exact h x (List.mem_of_getElem? e)
theorem uU {l:List Int} {i:Nat} (h:l.length<=i):qk l i=0:=by
 unfold qk;rw [List.getD_eq_getElem?_getD,List.getElem?_eq_none h]; rfl
theorem zk (l m:List Int) (i:Nat):qk (l++m) i=if i<l.length then qk l i else qk m (i - l.length):=by
 unfold qk;rw [List.getD_eq_getElem?_getD,List.getD_eq_getElem?_getD,List.getD_eq_getElem?_getD]
 split
 ·rw [List.getElem?_append_left (by assumption)]
 ·rw [List.getElem?_append_right (by omega)]
theorem Bits.r {l:List Int} (h:Bits l) (i:Nat):0<=qk l i/\qk l i<=1:=by
 have:=h.get i;omega
theorem dg {bs:List Int} (h:Bits bs) (i:Nat):0<=qn bs i/\qn bs i<=255:=by
 have h0:=h.r (8 * i); have h1:=h.r (8 * i+1); have h2:=h.r (8 * i+2); have h3:=h.r (8 * i+3);have h4:=h.r (8 * i+4); have h5:=h.r (8 * i+5); have h6:=h.r (8 * i+6); have h7:=h.r (8 * i+7);unfold qn;omega
theorem qR (k:Nat) (bs:List Int):(mkB k bs).length=k:=by simp [mkB]
theorem jM {bs:List Int} (h:Bits bs) (k:Nat):Bytes (mkB k bs):=by
 intro x hx;obtain ⟨i,_,rfl⟩:=List.mem_map.1 hx;exact dg h i
theorem me {k i:Nat} (bs:List Int) (h:i<k):qk (mkB k bs) i=qn bs i:=by
 unfold qk mkB;simp [List.getD_eq_getElem?_getD,h]
theorem pJ {bs:List Int} (h:Bits bs) {k j:Nat} (hj:j<8 * k):jy (mkB k bs) j=qk bs j:=by
 unfold jy;rw [me _ (by omega)];have h0:=h.r (8 * (j / 8)); have h1:=h.r (8 * (j / 8)+1); have h2:=h.r (8 * (j / 8)+2); have h3:=h.r (8 * (j / 8)+3);have h4:=h.r (8 * (j / 8)+4); have h5:=h.r (8 * (j / 8)+5); have h6:=h.r (8 * (j / 8)+6); have h7:=h.r (8 * (j / 8)+7);have hj' : qk bs j=qk bs (8 * (j / 8)+j % 8):=by rw [Nat.div_add_mod]
 rw [hj'];have hm:j % 8<8:=Nat.mod_lt _ (by decide);unfold qn;generalize j % 8=r at hm ⊢
 match r,hm with
 | 0,_=>simp only [Nat.reduceSub,Int.reducePow,Nat.add_zero]; omega
 | 1,_=>simp only [Nat.reduceSub,Int.reducePow,Nat.add_zero]; omega
 | 2,_=>simp only [Nat.reduceSub,Int.reducePow,Nat.add_zero]; omega
 | 3,_=>simp only [Nat.reduceSub,Int.reducePow,Nat.add_zero]; omega
 | 4,_=>simp only [Nat.reduceSub,Int.reducePow,Nat.add_zero]; omega
 | 5,_=>simp only [Nat.reduceSub,Int.reducePow,Nat.add_zero]; omega
 | 6,_=>simp only [Nat.reduceSub,Int.reducePow,Nat.add_zero]; omega
 | 7,_=>simp only [Nat.reduceSub,Int.reducePow,Nat.add_zero]; omega
theorem lO {bs:List Int} (x:Int) (i:Nat):qn (bs++[x]) i=if i=bs.length / 8 then qn bs i+x * 2 ^ (7 - bs.length % 8) else qn bs i:=by
 have g:∀ t:Nat,qk (bs++[x]) t=if t=bs.length then x else qk bs t:=by
  intro t;rw [zk]
  by_cases h:t<bs.length
  ·rw [if_pos h,if_neg (by omega)]
  ·rw [if_neg h]
   by_cases h2:t=bs.length
   ·rw [if_pos h2,h2]; simp [qk]
   ·rw [if_neg h2,uU (l:=bs) (by omega),uU (l:=[x]) (by simp; omega)]
 unfold qn;rw [g,g,g,g,g,g,g,g]
 by_cases hi:i=bs.length / 8
 ·rw [if_pos hi];have hz:∀ t,bs.length<=t->qk bs t=0:=fun t h=>uU h
  have hd:=Nat.div_add_mod bs.length 8;have hm:bs.length % 8<8:=Nat.mod_lt _ (by decide);rw [<-hi] at hd;generalize bs.length % 8=r at hm hd ⊢
  match r,hm with
  | 0,_=>simp only [hz (8 * i) (by omega),<-hd]; simp [hz (8 * i) (by omega)]; omega
  | 1,_=>simp only [<-hd]; simp [hz (8 * i+1) (by omega)]; omega
  | 2,_=>simp only [<-hd]; simp [hz (8 * i+2) (by omega)]; omega
  | 3,_=>simp only [<-hd]; simp [hz (8 * i+3) (by omega)]; omega
  | 4,_=>simp only [<-hd]; simp [hz (8 * i+4) (by omega)]; omega
  | 5,_=>simp only [<-hd]; simp [hz (8 * i+5) (by omega)]; omega
  | 6,_=>simp only [<-hd]; simp [hz (8 * i+6) (by omega)]; omega
  | 7,_=>simp only [<-hd]; simp [hz (8 * i+7) (by omega)]
 ·rw [if_neg hi,if_neg (by omega),if_neg (by omega),if_neg (by omega),if_neg (by omega),if_neg (by omega),if_neg (by omega),if_neg (by omega),if_neg (by omega)]
theorem Wv {bs:List Int} (x:Int) {k:Nat} (h:bs.length<8 * k):mkB k (bs++[x])=(mkB k bs).set (bs.length / 8) (qn bs (bs.length / 8)+x * 2 ^ (7 - bs.length % 8)):=by
 apply List.ext_getElem
 ·simp [mkB]
 ·intro i h1 h2;rw [List.getElem_set];simp only [mkB,List.getElem_map,List.getElem_range];rw [lO]
  by_cases hi:i=bs.length / 8
  ·rw [if_pos hi,if_pos hi.symm,hi]
  ·rw [if_neg hi,if_neg (fun h=>hi h.symm)]
theorem sA {bs:List Int} (h:Bits bs):qn bs (bs.length / 8) % 2 ^ (8 - bs.length % 8)=0:=by
 have hz:∀ t,bs.length<=t->qk bs t=0:=fun t h=>uU h
 have hd:=Nat.div_add_mod bs.length 8;have hm:bs.length % 8<8:=Nat.mod_lt _ (by decide);generalize bs.length / 8=i at hd ⊢;unfold qn;generalize bs.length % 8=r at hm hd ⊢
 match r,hm with
 | 0,_=>rw [hz (8 * i) (by omega),hz (8 * i+1) (by omega),hz (8 * i+2) (by omega),hz (8 * i+3) (by omega),hz (8 * i+4) (by omega),hz (8 * i+5) (by omega),hz (8 * i+6) (by omega),hz (8 * i+7) (by omega)]; rfl
 | 1,_=>rw [hz (8 * i+1) (by omega),hz (8 * i+2) (by omega),hz (8 * i+3) (by omega),hz (8 * i+4) (by omega),hz (8 * i+5) (by omega),hz (8 * i+6) (by omega),hz (8 * i+7) (by omega)]; show _ % 128=_; omega
 | 2,_=>rw [hz (8 * i+2) (by omega),hz (8 * i+3) (by omega),hz (8 * i+4) (by omega),hz (8 * i+5) (by omega),hz (8 * i+6) (by omega),hz (8 * i+7) (by omega)]; show _ % 64=_; omega
 | 3,_=>rw [hz (8 * i+3) (by omega),hz (8 * i+4) (by omega),hz (8 * i+5) (by omega),hz (8 * i+6) (by omega),hz (8 * i+7) (by omega)]; show _ % 32=_; omega
 | 4,_=>rw [hz (8 * i+4) (by omega),hz (8 * i+5) (by omega),hz (8 * i+6) (by omega),hz (8 * i+7) (by omega)]; show _ % 16=_; omega
 | 5,_=>rw [hz (8 * i+5) (by omega),hz (8 * i+6) (by omega),hz (8 * i+7) (by omega)]; show _ % 8=_; omega
 | 6,_=>rw [hz (8 * i+6) (by omega),hz (8 * i+7) (by omega)]; show _ % 4=_; omega
 | 7,_=>rw [hz (8 * i+7) (by omega)]; show _ % 2=_; omega
theorem ZS {x v:Int} {kk s:Nat} (hx1:0<=x) (hx2:x<=255) (hx:x % 2 ^ (s+1)=0) (hs:s<=7) (hkk:kk<=40) (hv1:0<=v) (hv2:v<2 ^ 40) :
  IntKind.wrap .u8 (Int.ofNat (BitVec.toNat ((BitVec.ofInt 8 x) ||| (BitVec.ofInt 8 (IntKind.wrap .u8 ((IntKind.wrap .u8 (IntKind.wrap .i64 (Int.ofNat (BitVec.toNat ((BitVec.ofInt 64 (Int.fdiv v (2 ^ (Min.min (Int.toNat (kk:Int)) 64)))) &&& (BitVec.ofInt 64 1)))))) * (2 ^ (Min.min (Int.toNat (s:Int)) 8))))))))=x+v / 2 ^ kk % 2 * 2 ^ s:=by
 have e1:Min.min (Int.toNat (kk:Int)) 64=kk:=by omega
 have e2:Min.min (Int.toNat (s:Int)) 8=s:=by omega
 rw [e1,e2,Int.fdiv_eq_ediv_of_nonneg _ (Int.le_of_lt (Int.pow_pos (by decide)))];obtain ⟨a,rfl⟩:=Int.eq_ofNat_of_zero_le hv1;obtain ⟨c,rfl⟩:=Int.eq_ofNat_of_zero_le hx1;have e3:((a:Int) / 2 ^ kk)=((a / 2 ^ kk:Nat):Int):=by rw [Int.natCast_ediv,Int.natCast_pow]; rfl
 rw [e3];have hd:a / 2 ^ kk<=a:=Nat.div_le_self _ _;generalize a / 2 ^ kk=q at hd ⊢;have hq:q<18446744073709551616:=by omega
 have e4:(BitVec.ofInt 64 ((q:Nat):Int) &&& BitVec.ofInt 64 1).toNat=q % 2:=by
  rw [BitVec.toNat_and,zt hq];exact Nat.and_one_is_mod q
 rw [e4];have e5:IntKind.wrap .i64 (Int.ofNat (q % 2))=((q % 2:Nat):Int):=qv (x:=((q % 2:Nat):Int)) (by omega) (by omega);rw [e5,W8,W8,W8];have h2:q % 2<2:=Nat.mod_lt _ (by decide);have e6:(((q:Nat):Int) % 2)=((q % 2:Nat):Int):=by omega
 rw [e6];generalize q % 2=r at h2 ⊢;have key:∀ (s:Fin 8) (r:Fin 2) (c:Fin 256),c.val % 2 ^ (s.val+1)=0->(BitVec.ofInt 8 (c.val:Int) ||| BitVec.ofInt 8 ((r.val:Int) % 256 * 2 ^ s.val % 256)).toNat % 256=c.val+r.val * 2 ^ s.val:=by decide +kernel
 have hc:c % 2 ^ (s+1)=0:=by
  have e1:(2:Int) ^ (s+1)=((2 ^ (s+1):Nat):Int):=by rw [Int.natCast_pow]; rfl
  rw [e1] at hx
  exact_mod_cast hx
 have:=key ⟨s,by omega⟩ ⟨r,h2⟩ ⟨c,by omega⟩ hc;simp only at this;have e7:((r:Int) % 256 * 2 ^ s % 256)=((r:Nat):Int) % 256 * 2 ^ s % 256:=rfl;have e8:∀ z:Nat,(Int.ofNat z) % 256=((z % 256:Nat):Int):=fun z=>by simp
 rw [e8,this];simp
theorem dw:(Go.TypeInfo.bytes (GetElem.getElem (Go.Tables.types (Go.Program.toTables Go.Proofs.Tryz.prog)) 5 (Nat.le_of_ble_eq_true rfl)))=1:=by kernel_rfl
theorem Wk (k:Nat):mkB k []=List.replicate k 0:=by
 apply List.ext_getElem
 ·simp [mkB]
 ·intro i h1 h2;simp [mkB,qn,qk]
theorem aI {w:Nat} {v:Int} {t:Nat} (h:t<w):(wU w v).take (t+1)=(wU w v).take t++[v / 2 ^ (w - 1 - t) % 2]:=by
 rw [List.take_succ_eq_append_getElem (by rw [qV]; exact h)];simp [wU]
theorem og {ps:List (Nat × Int)} {i:Nat} (h:i<ps.length):kM (ps.take (i+1))=kM (ps.take i)+ps[i].1:=by
 unfold kM;rw [List.take_succ_eq_append_getElem h,List.map_append,List.sum_append]; simp
theorem nj (ps:List (Nat × Int)) (i:Nat):kM (ps.take i)<=kM ps:=by
 unfold kM;rw [List.map_take];exact uu _ _
theorem Zw {ps:List (Nat × Int)} {i:Nat} (h:i<ps.length):qk (ps.map Prod.snd) i=ps[i].2:=by
 unfold qk;simp [List.getD_eq_getElem?_getD,h]
theorem QL {ps:List (Nat × Int)} {i:Nat} (h:i<ps.length):qk (wI (ps.map Prod.fst)) i=(ps[i].1:Int):=by
 rw [eX (by simpa using h)];simp
theorem a136 (n:Nat) (ps:List (Nat × Int)) (hw:∀ p∈ps,1<=p.1/\p.1<=32/\0<=p.2/\p.2<2 ^ p.1) (k:Nat) (hk:kM ps=8 * k) (hk2:k<2 ^ 40) (hn:33<n) (hn2:ps.length<n) (hn3:ps.length<=64)
  (h123:A123 n [.fs .i64 (wI (ps.map Prod.fst))]=some [.int .i64 k,.int .i64 0]):A136 n [.fs .i64 (wI (ps.map Prod.fst)),.fs .i64 (ps.map Prod.snd)]=some [.fs .u8 (mkB k (zx ps)),.int .i64 0]:=by
 show run136 A123 n (wI (ps.map Prod.fst)) (ps.map Prod.snd)=_;rw [eq136,h123];have hl1:(wI (ps.map Prod.fst)).length=ps.length:=by simp [wI]
 have hl2:(ps.map Prod.snd).length=ps.length:=by simp
 simp only [ZZ,show ((0:Int) != 0)=false from rfl,hl1,hl2,dw];rw [qi (by simp),qp (by simp; omega),Int.toNat_natCast];generalize hW:wI (ps.map Prod.fst)=W;generalize hV:ps.map Prod.snd=V;rw [hW] at hl1; rw [hV] at hl2;rw [<-Wk];refine xi (fun i:Nat=>[.fs .i64 V,.fs .u8 (mkB k (zx (ps.take i))),.int .i64 (kM (ps.take i):Nat),.fs .i64 W,.int .i64 (Int.ofNat ps.length),.int .i64 (i:Nat)]) (fun i=>ps.length - i)
  (fun _=>[.fs .u8 (mkB k (zx ps))]) (fun i=>i<=ps.length) 0 (by show ps.length - 0<n; omega) (Nat.zero_le _) (fun i K hi hK=>?_) ?_
 ·simp only [ZZ,hl1,hl2]
  by_cases hi2:i<ps.length
  ·have hS:=og hi2;have hS2:kM (ps.take (i+1))<=8 * k:=by rw [<-hk]; exact nj ps (i+1)
   obtain ⟨q1,q2,q3,q4⟩:=hw ps[i] (List.getElem_mem hi2);have g1:qk W i=(ps[i].1:Int):=by rw [<-hW]; exact QL hi2
   have g2:qk V i=ps[i].2:=by rw [<-hV]; exact Zw hi2
   have hA:zx (ps.take (i+1))=zx (ps.take i)++wU ps[i].1 ps[i].2:=by
    rw [List.take_succ_eq_append_getElem hi2,oO]; simp [zx]
   have hAl:=Qe (ps.take i);have hA1:=vI (ps.take i);generalize hw_:ps[i].1=w at *;generalize hv_:ps[i].2=v at *
   have hv32:v<2 ^ 32:=by
    have:(2:Nat) ^ w<=2 ^ 32:=Nat.pow_le_pow_right (by omega) (by omega);have h2:(2:Int) ^ w<=2 ^ 32:=by exact_mod_cast this
    omega
   have u1:IntKind.wrap .u64 (w:Int)=w:=kA (by omega) (by omega);have u2:Min.min (Int.toNat (w:Int)) 64=w:=by omega
   have u3:Int.fdiv v (2 ^ w)=0:=by
    rw [Int.fdiv_eq_ediv_of_nonneg _ (Int.le_of_lt (Int.pow_pos (by decide)))];exact Int.ediv_eq_zero_of_lt q3 q4
   have u4:IntKind.wrap .i64 ((w:Int) - 1)=(w:Int) - 1:=qv (by omega) (by omega);rw [qp (by simpa using hi2),ql hi2,bT,bT];simp only [fR,g1,g2,u1,u2,u3,ZZ,show ((0:Int) != 0)=false from rfl];rw [qi (by simpa using q3)];rw [qp (by simp)];simp only [ZZ,u4];have hd:([.fs .i64 V,.fs .u8 (mkB k (zx (ps.take i))),.int .i64 (kM (ps.take i):Nat),.int .i64 v,.int .i64 ((w:Int) - 1),.fs .i64 W,.int .i64 (Int.ofNat ps.length),.int .i64 (i:Nat)]:List AV)=(fun t:Nat=>([.fs .i64 V,.fs .u8 (mkB k (zx (ps.take i)++(wU w v).take t)),.int .i64 ((kM (ps.take i)+t:Nat):Int),.int .i64 v,.int .i64 ((w:Int) - 1 - (t:Nat)),.fs .i64 W,.int .i64 (Int.ofNat ps.length),.int .i64 (i:Nat)]:List AV)) 0:=by simp
   rw [hd];refine xi (fun t:Nat=>[.fs .i64 V,.fs .u8 (mkB k (zx (ps.take i)++(wU w v).take t)),.int .i64 ((kM (ps.take i)+t:Nat):Int),.int .i64 v,.int .i64 ((w:Int) - 1 - (t:Nat)),.fs .i64 W,.int .i64 (Int.ofNat ps.length),.int .i64 (i:Nat)]) (fun t=>w - t)
    (fun _=>[.fs .i64 V,.fs .u8 (mkB k (zx (ps.take (i+1)))),.int .i64 (kM (ps.take (i+1)):Nat),.fs .i64 W,.int .i64 (Int.ofNat ps.length),.int .i64 (i:Nat)]) (fun t=>t<=w) 0 (by show w - 0<n; omega) (Nat.zero_le _) (fun t K2 ht hK2=>?_) ?_
   ·simp only [ZZ]
    by_cases ht2:t<w
    ·have hq:kM (ps.take i)+t<8 * k:=by omega
     have hbl:(zx (ps.take i)++(wU w v).take t).length=kM (ps.take i)+t:=by
      rw [List.length_append,hAl,List.length_take,qV]; omega
     have hb1:Bits (zx (ps.take i)++(wU w v).take t):=by
      intro x hx;exact (List.mem_append.1 hx).elim (hA1 x) (fun h=>eu w v x (List.mem_of_mem_take h))
     have hb2:zx (ps.take i)++(wU w v).take (t+1)=(zx (ps.take i)++(wU w v).take t)++[v / 2 ^ (w - 1 - t) % 2]:=by
      rw [aI ht2,List.append_assoc]
     have:=hK2 (t+1) (by show w - (t+1)<w - t; omega) (by show t+1<=w; omega);rw [hb2] at this;generalize zx (ps.take i)++(wU w v).take t=bs at hbl hb1 this ⊢;have hrr:=dg hb1 (bs.length / 8);have hlow:=sA hb1;have hmk:=Wv (k:=k) (v / 2 ^ (w - 1 - t) % 2) (by rw [hbl]; exact hq);have hlen:=qR k bs;rw [hmk] at this;rw [hbl] at hrr hlow this;generalize hj:kM (ps.take i)+t=j at hq hrr hlow this ⊢;have d1:Int.tdiv (j:Int) 8=((j / 8:Nat):Int):=by rw [Int.tdiv_eq_ediv_of_nonneg (by omega)]; omega
     have d2:Int.tmod (j:Int) 8=((j % 8:Nat):Int):=by rw [Int.tmod_eq_emod_of_nonneg (by omega)]; omega
     have d3:IntKind.wrap .u64 ((j % 8:Nat):Int)=((j % 8:Nat):Int):=kA (by omega) (by omega);have d4:IntKind.wrap .u64 (7 - ((j % 8:Nat):Int))=((7 - j % 8:Nat):Int):=by rw [kA (by omega) (by omega)]; omega
     have d5:IntKind.wrap .u64 ((w:Int) - 1 - (t:Nat))=((w - 1 - t:Nat):Int):=by rw [kA (by omega) (by omega)]; omega
     have d6:IntKind.wrap .i64 ((w:Int) - 1 - (t:Nat) - 1)=(w:Int) - 1 - ((t+1:Nat):Int):=by rw [Zp (by omega) (by omega)]; omega
     have w1:IntKind.wrap .i64 ((j / 8:Nat):Int)=((j / 8:Nat):Int):=qv (by omega) (by omega);have w2:IntKind.wrap .i64 ((j:Int)+1)=((j+1:Nat):Int):=by rw [qv (by omega) (by omega)]; omega
     have hin:inR ((j / 8:Nat):Int) k=true:=ql (by omega);have hble:Nat.ble (j / 8+1) k=true:=by rw [Nat.ble_eq]; omega
     have hgm:qk (mkB k bs) (j / 8)=qn bs (j / 8):=me bs (by omega);rw [qp (by simp; omega)];simp only [d1,w1,hlen,hin,hble,ZZ,d2,d3,d4,d5,d6,w2,fR,hgm,Int.toNat_natCast];rw [qp (by simp),qp (by simp)];have hpb:=ZS (x:=qn bs (j / 8)) (v:=v) (kk:=w - 1 - t) (s:=7 - j % 8) hrr.1 hrr.2 (by rw [show 7 - j % 8+1=8 - j % 8 by omega]; exact hlow) (by omega) (by omega) q3 (by omega);rw [Int.toNat_natCast,Int.toNat_natCast] at hpb;rw [hpb,<-this,<-hj];rfl
    ·have:t=w:=by omega
     subst this;rw [qi (by simp; omega),hA,hS];rw [List.take_of_length_le (l:=wU _ _) (by rw [qV]; exact Nat.le_refl _)]
   ·simp only [ZZ];have:=hK (i+1) (by show ps.length - (i+1)<ps.length - i; omega) (by show i+1<=ps.length; omega);rw [qv (by omega) (by omega),<-this];rfl
  ·have:i=ps.length:=by omega
   subst this;rw [qi (by simp)];simp
 ·simp only [ZZ]
theorem xC {P:List Int} {j w:Nat} {v:Int} (hv:0<=v) (hv2:v<2 ^ w) (h:∀ t,t<w->jy P (j+t)=v / 2 ^ (w - 1 - t) % 2):fld P j w=v:=by
 have key:∀ t,t<=w->fld P j t=v / 2 ^ (w - t):=by
  intro t
  induction t with
  | zero=>intro _; rw [Nat.sub_zero,Int.ediv_eq_zero_of_lt hv hv2]; rfl
  | succ t ih=>
   intro ht;rw [fld,ih (by omega),h t (by omega)];have e1:w - t=(w - 1 - t)+1:=by omega
   have e2:w - (t+1)=w - 1 - t:=by omega
   rw [e1,e2,Int.pow_succ,<-Int.ediv_ediv_of_nonneg (Int.le_of_lt (Int.pow_pos (by decide)))];omega
 have:=key w (Nat.le_refl _);rw [this,Nat.sub_self]; simp
theorem eU {P:List Int}:∀ (ps:List (Nat × Int)) (j:Nat),(∀ p∈ps,0<=p.2/\p.2<2 ^ p.1)->(∀ t,t<kM ps->jy P (j+t)=qk (zx ps) t)->vx P j (ps.map Prod.fst)=ps.map Prod.snd
 | [],_,_,_=>rfl
 | p::ps,j,hv,h=>by
  have hp:=hv p (List.mem_cons_self ..);have hs:kM (p::ps)=p.1+kM ps:=by simp [kM]
  rw [List.map_cons,List.map_cons,vx,xC hp.1 hp.2,eU ps (j+p.1) (fun q hq=>hv q (List.mem_cons_of_mem _ hq))]
  ·intro t ht;rw [Nat.add_assoc,h (p.1+t) (by omega),zx,zk,if_neg (by rw [qV]; omega),qV]
   congr 1; omega
  ·intro t ht;rw [h t (by omega),zx,zk,if_pos (by rw [qV]; omega)];unfold qk wU;simp [List.getD_eq_getElem?_getD,ht]
theorem gU {ps:List (Nat × Int)} {k:Nat} (hv:∀ p∈ps,0<=p.2/\p.2<2 ^ p.1) (hk:kM ps=8 * k):vx (mkB k (zx ps)) 0 (ps.map Prod.fst)=ps.map Prod.snd:=
 eU ps 0 hv (fun t ht=>by rw [Nat.zero_add,pJ (vI ps) (by omega)])
def vN:Bool->List Int->Int
 | _,[]=>0
 | true,b::l=>b * 256+vN false l
 | false,b::l=>b+vN true l
def hi:Bool->List Int->Bool
 | h,[]=>h
 | h,_::l=>hi (!h) l
def fd (x:Int):Int:=if x=0 then 0 else (x - 1) % 65535+1
def zm (l:List Int):Int:=fd (vN true l)
theorem dk (l m:List Int):∀ h,vN h (l++m)=vN h l+vN (hi h l) m:=by
 induction l with
 | nil=>intro h; cases h <;> simp [vN,hi]
 | cons b l ih=>intro h; cases h <;> simp [vN,hi,ih] <;> omega
theorem oU (l m:List Int):∀ h,hi h (l++m)=hi (hi h l) m:=by
 induction l with
 | nil=>intro h; rfl
 | cons b l ih=>intro h; simp [hi,ih]
theorem gj {l:List Int} (hl:Bytes l):∀ h,0<=vN h l/\vN h l<=65280 * l.length:=by
 induction l with
 | nil=>intro h; cases h <;> simp [vN]
 | cons b l ih=>
  intro h;have hb:=hl b (List.mem_cons_self ..);have h1:=ih (fun x hx=>hl x (List.mem_cons_of_mem _ hx)) true;have h2:=ih (fun x hx=>hl x (List.mem_cons_of_mem _ hx)) false
  cases h <;> simp only [vN,List.length_cons] <;> omega
theorem Qt {x:Int} (h:0<=x):0<=fd x/\fd x<=65535:=by unfold fd; split <;> omega
theorem Qk {x:Int} (h:0<=x) (h2:x<=65535):fd x=x:=by unfold fd; split <;> omega
theorem WK {a b:Int} (h:0<=a) (h2:0<=b):fd (fd a+b)=fd (a+b):=by
 unfold fd
 by_cases h0:a=0
 ·rw [if_pos h0,h0]
 ·rw [if_neg h0,if_neg (by omega),if_neg (by omega)]; omega
theorem Jk {x:Int} (h1:0<=x) (h2:x<2 ^ 62):IntKind.wrap .i64 (Int.ofNat (BitVec.toNat ((BitVec.ofInt 64 x) &&& (BitVec.ofInt 64 65535))))=x % 65536:=by
 obtain ⟨a,rfl⟩:=Int.eq_ofNat_of_zero_le h1
 have e:(BitVec.ofInt 64 ((a:Nat):Int) &&& BitVec.ofInt 64 65535).toNat=a % 65536:=by
  rw [BitVec.toNat_and,zt (by omega)];exact Nat.and_two_pow_sub_one_eq_mod a 16
 rw [e];exact (qv (x:=((a % 65536:Nat):Int)) (by omega) (by omega)).trans (by omega)
theorem Ju {x:Int} (h1:0<=x):Int.fdiv x (Int.ofNat (2 ^ (Min.min (Int.toNat 16) (IntKind.bits .i64))))=x / 65536:=by
 have:Int.ofNat (2 ^ (Min.min (Int.toNat 16) (IntKind.bits .i64)))=65536:=by decide
 rw [this,Int.fdiv_eq_ediv_of_nonneg _ (by decide)]
theorem a178 (n:Nat) (x:Int) (h1:0<=x) (h2:x<2 ^ 62) (hn:2 ^ 63<n):A178 n [.int .i64 x]=some [.int .i64 (fd x)]:=by
 show run178 n x=_;rw [eq178];refine xi (fun y:Int=>[.int .i64 y]) (fun y=>y.toNat) (fun y=>[.int .i64 (fd y)]) (fun y=>0<=y/\y<2 ^ 62) x (by show x.toNat<n; omega) ⟨h1,h2⟩ (fun y K hy hK=>?_) rfl;simp only [ZZ]
 by_cases hb:y > 65535
 ·rw [qp (by simpa using hb),Jk hy.1 hy.2,Ju hy.1,qv (by omega) (by omega)];rw [hK (y % 65536+y / 65536) (by show (y % 65536+y / 65536).toNat<y.toNat; omega) (by omega)];have:fd (y % 65536+y / 65536)=fd y:=by unfold fd; rw [if_neg (by omega),if_neg (by omega)]; omega
  rw [this]
 ·rw [qi (by simp; omega),Qk hy.1 (by omega)]
theorem Jw (x:Int):x * (Int.ofNat (2 ^ (Min.min (Int.toNat 8) (IntKind.bits .i64))))=x * 256:=by
 have:(Int.ofNat (2 ^ (Min.min (Int.toNat 8) (IntKind.bits .i64))))=256:=by decide
 rw [this]
theorem aL {l:List Int} {t:Nat} (h:t<l.length) (b:Bool):vN b (l.take (t+1))=vN b (l.take t)+(if hi b (l.take t)=true then l[t] * 256 else l[t]):=by
 rw [List.take_succ_eq_append_getElem h,dk]
 cases hi b (l.take t) <;> simp [vN]
theorem Zi {l:List Int} {t:Nat} (h:t<l.length) (b:Bool):hi b (l.take (t+1)) = !(hi b (l.take t)):=by
 rw [List.take_succ_eq_append_getElem h,oU];simp [hi]
theorem jT {l:List Int} {t:Nat} (h:t<l.length):qk l t=l[t]:=by
 unfold qk;simp [List.getD_eq_getElem?_getD,h]
def fsL (ps:List (List Int)):List AV:=ps.map (AV.fs .u8)
theorem WL {ps:List (List Int)} {i:Nat} (h:i<ps.length):(getE (fsL ps) i).qq=ps[i]:=by
 unfold getE fsL;simp [List.getD_eq_getElem?_getD,h,AV.qq]
theorem a127 (n:Nat) (ps:List (List Int)) (hps:∀ p∈ps,Bytes p/\p.length<2 ^ 44) (hl:ps.length<2 ^ 44) (hn:2 ^ 63<n):A127 n [.fv (.fs .u8) (fsL ps)]=some [.int .i64 (zm ps.flatten)]:=by
 show run127 A178 n (fsL ps)=_;rw [eq127];have hlen:(fsL ps).length=ps.length:=by simp [fsL]
 refine xi (fun i:Nat=>[.int .i64 (fd (vN true (ps.take i).flatten)),.bool (hi true (ps.take i).flatten),.fv (.fs .u8) (fsL ps),.int .i64 (Int.ofNat (fsL ps).length),.int .i64 (i:Nat)]) (fun i=>ps.length - i)
  (fun _=>[.int .i64 (zm ps.flatten)]) (fun i=>i<=ps.length) 0 (by show ps.length - 0<n; omega) (Nat.zero_le _) (fun i K hi_ hK=>?_) ?_
 ·simp only [ZZ,hlen]
  by_cases hi2:i<ps.length
  ·have hp:=hps ps[i] (List.getElem_mem hi2)
   have hflat:(ps.take (i+1)).flatten=(ps.take i).flatten++ps[i]:=by
    rw [List.take_succ_eq_append_getElem hi2,List.flatten_append]; simp
   have hbase:Bytes (ps.take i).flatten:=by
    intro x hx;obtain ⟨l,hl,hx⟩:=List.mem_flatten.1 hx;exact (hps l (List.mem_of_mem_take hl)).1 x hx
   have hb0:=gj hbase true;have hfr:=Qt hb0.1;rw [qp (by simpa using hi2),ql hi2,bT,Int.toNat_natCast,WL hi2];have hK1:=hK (i+1) (by show ps.length - (i+1)<ps.length - i; omega) (by show i+1<=ps.length; omega);rw [hflat,dk,oU,<-WK hb0.1 (gj hp.1 _).1] at hK1;generalize fd (vN true (ps.take i).flatten)=base at hfr hK1 ⊢;generalize hi true (ps.take i).flatten=h at hK1 ⊢;generalize ps[i]=p at hp hK1 ⊢
   have hd:([.int .i64 base,.bool h,.fv (.fs .u8) (fsL ps),.int .i64 (Int.ofNat ps.length),.int .i64 (i:Nat),.fs .u8 p,.int .i64 (Int.ofNat p.length),.int .i64 0]:List AV)=(fun t:Nat=>([.int .i64 (base+vN h (p.take t)),.bool (hi h (p.take t)),.fv (.fs .u8) (fsL ps),.int .i64 (Int.ofNat ps.length),.int .i64 (i:Nat),.fs .u8 p,.int .i64 (Int.ofNat p.length),.int .i64 (t:Nat)]:List AV)) 0:=by
    cases h <;> simp [vN,hi]
   rw [hd]
   refine pD (xi (r:=some (Sum.inl ([.int .i64 (fd (base+vN h p)),.bool (hi h p),.fv (.fs .u8) (fsL ps),.int .i64 (Int.ofNat ps.length),.int .i64 (i:Nat)]:List AV))) (fun t:Nat=>[.int .i64 (base+vN h (p.take t)),.bool (hi h (p.take t)),.fv (.fs .u8) (fsL ps),.int .i64 (Int.ofNat ps.length),.int .i64 (i:Nat),.fs .u8 p,.int .i64 (Int.ofNat p.length),.int .i64 (t:Nat)]) (fun t=>p.length - t)
    (fun _=>[.int .i64 (base+vN h p),.bool (hi h p),.fv (.fs .u8) (fsL ps),.int .i64 (Int.ofNat ps.length),.int .i64 (i:Nat)]) (fun t=>t<=p.length) 0 (by show p.length - 0<n; omega) (Nat.zero_le _) (fun t K2 ht hK2=>?_) ?_) ?_
   ·simp only [ZZ];have hT:=gj (hp.1.take t) h;have hTl:(p.take t).length<=p.length:=by rw [List.length_take]; omega
    by_cases ht2:t<p.length
    ·have hg:=jT ht2;have hgr:=hp.1.get t;rw [hg] at hgr;have:=hK2 (t+1) (by show p.length - (t+1)<p.length - t; omega) (by show t+1<=p.length; omega);rw [aL ht2,Zi ht2] at this;have w1:IntKind.wrap .i64 p[t]=p[t]:=qv (by omega) (by omega);have w2:IntKind.wrap .i64 (p[t] * 256)=p[t] * 256:=qv (by omega) (by omega);have w3:IntKind.wrap .i64 ((t:Int)+1)=((t+1:Nat):Int):=by rw [qv (by omega) (by omega)]; omega
     have w4:IntKind.wrap .i64 (base+vN h (p.take t)+p[t] * 256)=base+vN h (p.take t)+p[t] * 256:=qv (by omega) (by omega);have w5:IntKind.wrap .i64 (base+vN h (p.take t)+p[t])=base+vN h (p.take t)+p[t]:=qv (by omega) (by omega);rw [qp (by simpa using ht2),ql ht2,bT];simp only [Int.toNat_natCast,hg,w1,Jw,w2]
     cases hh:hi h (p.take t) with
     | true=>
      rw [hh] at this;simp only [ZZ,w4,w3];rw [<-this,if_pos rfl,Int.add_assoc]
     | false=>
      rw [hh] at this;simp only [ZZ,w5,w3];rw [<-this,if_neg (by decide),Int.add_assoc]
    ·have:t=p.length:=by omega
     subst this;rw [qi (by simp),List.take_length]
   ·simp only [ZZ];have:=gj hp.1 h;rw [a178 n _ (by omega) (by omega) hn];rfl
   ·simp only [ZZ];rw [<-hK1,qv (by omega) (by omega),hlen];rfl
  ·have:i=ps.length:=by omega
   subst this;rw [qi (by simp),List.take_length];rfl
 ·rfl
end Go.Proofs.YtlmnjnhmhacgkaaGreatDoor.Am
end
section
set_option linter.unusedVariables false
set_option linter.unusedSimpArgs false
set_option maxRecDepth 100000
namespace Go.Proofs.YtlmnjnhmhacgkaaGreatDoor.Am
open Go Go.Am Go.Proofs
noncomputable section
def N0:Nat:=18446744073709551616
def wb:List Int:=[2,0,0,0,0,2,2,0,0,0,0,1,8,0,69,0,0,28,0,0,0,0,64,1,102,223,10,0,0,1,10,0,0,2,8,0,247,253,0,1,0,1,0,0,0,0,0,0,0,0,0,0,0,0,0,0,0,0,0,0]
def ib:List Int:=[69,0,0,28,0,0,0,0,64,1,102,223,10,0,0,1,10,0,0,2,8,0,247,253,0,1,0,1,0,0,0,0,0,0,0,0,0,0,0,0,0,0,0,0,0,0]
def mb:List Int:=[8,0,247,253,0,1,0,1]
def ipA:Ip:=⟨4,[10,0,0,1,0,0,0,0,0,0,0,0,0,0,0,0]⟩
def ipB:Ip:=⟨4,[10,0,0,2,0,0,0,0,0,0,0,0,0,0,0,0]⟩
def oi:Ip4:={ Ip4.z with ttl:=64,proto:=1,src:=ipA,dst:=ipB }
def plainM:Icmp:=⟨4,8,0,65537,[]⟩
def plain:Pkt:={ Pkt.z with dst:=[2,0,0,0,0,2],src:=[2,0,0,0,0,1],kind:=2,ip4:=oi,l4:=1,icmp:=plainM }
theorem w30:A30 N0 []=some [plain.av]:=by kernel_rfl
theorem w44:A44 N0 []=some [.fs .u8 wb]:=by kernel_rfl
theorem w45:A45 N0 []=some [.bool true]:=by kernel_rfl
theorem Wl:A123 N0 [.fs .i64 (wI [4,4,8,16,16,1,1,1,13,8,8,16])]=some [.int .i64 ((12:Nat):Int),.int .i64 0]:=by kernel_rfl
theorem Ws:A123 N0 [.fs .i64 (wI [8,8,16,32])]=some [.int .i64 ((8:Nat):Int),.int .i64 0]:=by kernel_rfl
theorem Jf:A83 N0 [.fs .u8 ib,.int .i64 0,.fs .i64 [4,4,8,16,16,1,1,1,13,8,8,16]]=some [.fs .i64 [4,5,0,28,0,0,0,0,0,64,1,26335],.int .i64 12,.int .i64 0]:=
 (a83 N0 ib 0 [4,4,8,16,16,1,1,1,13,8,8,16] (by unfold WOk; decide) 12 rfl (by decide) (by decide) (by decide) (by decide) (by decide) (by decide) (by decide) Wl).trans (by kernel_rfl)
theorem Jc:A83 N0 [.fs .u8 mb,.int .i64 0,.fs .i64 [8,8,16,32]]=some [.fs .i64 [8,0,63485,65537],.int .i64 8,.int .i64 0]:=
 (a83 N0 mb 0 [8,8,16,32] (by unfold WOk; decide) 8 rfl (by decide) (by decide) (by decide) (by decide) (by decide) (by decide) (by decide) Ws).trans (by kernel_rfl)
theorem eB {P:Program} {E:Env} {f:FuncId} {D:FnD} {F G:Fun} (h:qU P E f (qj D F)) (hG:∀ n xs r,G n xs=some r->F n xs=some r):qU P E f (qj D G):=by
 obtain ⟨h1,h2,h3⟩:=h;exact ⟨h1,h2,fun n xs r hF=>h3 n xs r (hG n xs r hF)⟩
def Wu:AV->AV->Bool
 | .int k a,.int k' b=>decide (k=k') && decide (a=b)
 | .fs k a,.fs k' b=>decide (k=k') && decide (a=b)
 | _,_=>false
def sg:List AV->List AV->Bool
 | [],[]=>true
 | a::l,b::m=>Wu a b && sg l m
 | _,_=>false
theorem Zh {a b:AV} (h:Wu a b=true):a=b:=by
 unfold Wu at h
 split at h
 ·rw [Bool.and_eq_true] at h; rw [of_decide_eq_true h.1,of_decide_eq_true h.2]
 ·rw [Bool.and_eq_true] at h; rw [of_decide_eq_true h.1,of_decide_eq_true h.2]
 ·cases h
theorem tS:∀ {l m:List AV},sg l m=true->l=m
 | [],[],_=>rfl
 | a::l,b::m,h=>by
  have h:(Wu a b && sg l m)=true:=h;rw [Bool.and_eq_true] at h;rw [Zh h.1,tS h.2]
def at2 (n0:Nat) (l1 r1 l2 r2:List AV):Fun:=fun n xs=>bif Nat.beq n n0 && sg xs l1 then some r1 else bif Nat.beq n n0 && sg xs l2 then some r2 else none
theorem Zy {F:Fun} {n0:Nat} {l1 r1 l2 r2:List AV} (h1:F n0 l1=some r1) (h2:F n0 l2=some r2) {n:Nat} {xs r:List AV} (h:at2 n0 l1 r1 l2 r2 n xs=some r):F n xs=some r:=by
 unfold at2 at h
 cases hb:(Nat.beq n n0 && sg xs l1) with
 | true=>
  rw [hb] at h;rw [Bool.and_eq_true] at hb;rw [Nat.eq_of_beq_eq_true hb.1,tS hb.2]
  cases h
  exact h1
 | false=>
  rw [hb] at h
  cases hc:(Nat.beq n n0 && sg xs l2) with
  | true=>
   rw [hc] at h;rw [Bool.and_eq_true] at hc;rw [Nat.eq_of_beq_eq_true hc.1,tS hc.2]
   cases h
   exact h2
  | false=>
   rw [hc] at h
   cases h
theorem VX:A136 N0 [.fs .i64 [4,4,8,16,16,1,1,1,13,8,8,16],.fs .i64 [4,5,0,28,0,0,0,0,0,64,1,0]]=some [.fs .u8 [69,0,0,28,0,0,0,0,64,1,0,0],.int .i64 0]:=
 (a136 N0 [(4,4),(4,5),(8,0),(16,28),(16,0),(1,0),(1,0),(1,0),(13,0),(8,64),(8,1),(16,0)] (by decide) 12 rfl (by decide) (by decide) (by decide) (by decide) Wl).trans (by kernel_rfl)
theorem Jz:A136 N0 [.fs .i64 [8,8,16,32],.fs .i64 [8,0,0,65537]]=some [.fs .u8 [8,0,0,0,0,1,0,1],.int .i64 0]:=
 (a136 N0 [(8,8),(8,0),(16,0),(32,65537)] (by decide) 8 rfl (by decide) (by decide) (by decide) (by decide) Ws).trans (by kernel_rfl)
def g83:Fun:=at2 N0 [.fs .u8 ib,.int .i64 0,.fs .i64 [4,4,8,16,16,1,1,1,13,8,8,16]] [.fs .i64 [4,5,0,28,0,0,0,0,0,64,1,26335],.int .i64 12,.int .i64 0] [.fs .u8 mb,.int .i64 0,.fs .i64 [8,8,16,32]] [.fs .i64 [8,0,63485,65537],.int .i64 8,.int .i64 0]
def g136:Fun:=at2 N0 [.fs .i64 [4,4,8,16,16,1,1,1,13,8,8,16],.fs .i64 [4,5,0,28,0,0,0,0,0,64,1,0]] [.fs .u8 [69,0,0,28,0,0,0,0,64,1,0,0],.int .i64 0] [.fs .i64 [8,8,16,32],.fs .i64 [8,0,0,65537]] [.fs .u8 [8,0,0,0,0,1,0,1],.int .i64 0]
theorem VP:K 83 D83 g83:=eB S83 (fun n xs r h=>Zy Jf Jc h)
theorem We:K 136 D136 g136:=eB S136 (fun n xs r h=>Zy VX Jz h)
def B51:Fun:=D51.R (cal51 g83 A84 A85 A86 A87 A88) H51
theorem T51:K 51 D51 B51:=sq (Qp VP S84 S85 S86 S87 S88) Tryz.func51
def B58:Fun:=D58.R (cal58 g83 A84 A95 A96) H58
theorem T58:K 58 D58 B58:=sq (lc VP S84 S95 S96) Tryz.func58
def B26:Fun:=D26.R (cal26 A54 A55 A56 A57 B58 A59 A60) H26
theorem T26:K 26 D26 B26:=sq (Ze S54 S55 S56 S57 T58 S59 S60) Tryz.func26
def B23:Fun:=D23.R (cal23 B26 A49 A50 B51 A52) H23
theorem T23:K 23 D23 B23:=sq (fA T26 S49 S50 T51 S52) Tryz.func23
def B91:Fun:=D91.R (cal91 A95 A96 A135 g136 A137) H91
theorem T91:K 91 D91 B91:=sq (fA S95 S96 S135 We S137) Tryz.func91
def B53:Fun:=D53.R (cal53 A55 A56 B91 A92 A93) H53
theorem T53:K 53 D53 B53:=sq (fA S55 S56 T91 S92 S93) Tryz.func53
def B109:Fun:=D109.R (cal109 g136 A137 A155 A157 A158) H109
theorem T109:K 109 D109 B109:=sq (fA We S137 S155 S157 S158) Tryz.func109
def B65:Fun:=D65.R (cal65 B53 A54 A106 A107 A108 B109 A110) H65
theorem T65:K 65 D65 B65:=sq (Ze T53 S54 S106 S107 S108 T109 S110) Tryz.func65
def B32:Fun:=D32.R (cal32 A63 A64 B65 A66 A67) H32
theorem T32:K 32 D32 B32:=sq (fA S63 S64 T65 S66 S67) Tryz.func32
def B13:Fun:=D13.R (cal13 B32 A33) H13
theorem T13:K 13 D13 B13:=sq (yz T32 S33) Tryz.func13
def B16:Fun:=fun n l=>D16.run Tryz.prog env (cal16 B13 A15 A17 A18 B23 A30 A44 A45) H16 n l
theorem T16:K 16 D16 B16:=sq (Jb T13 S15 S17 S18 T23 S30 S44 S45) Tryz.func16
theorem v51:B51 N0 [.fs .u8 ib]=some [({ oi with data:=mb }:Ip4).av,.int .i64 0]:=by kernel_rfl
theorem v58:B58 N0 [.int .i64 4,ipA.av,ipB.av,.fs .u8 mb]=some [plainM.av,.int .i64 0]:=by kernel_rfl
theorem v23:B23 N0 [.fs .u8 wb,.tup []]=some [plain.av,.int .i64 0,.tup []]:=by kernel_rfl
theorem v13:B13 N0 [plain.av]=some [.fs .u8 wb,.int .i64 0]:=by kernel_rfl
theorem v15:A15 N0 [plain.av,plain.av]=some [.bool true]:=by kernel_rfl
theorem a17 (n:Nat) (x:Int):A17 n [.int .i64 x]=some [.int .i64 x]:=eq17 n x
theorem v18:A18 N0 [.fs .u8 wb,.fs .u8 wb]=some [.bool true]:=by kernel_rfl
theorem v16:B16 N0 [.tup []]=some [.bool true,.tup []]:=by
 show run16 B13 A15 A17 A18 B23 A30 A44 A45 N0 []=_;rw [eq16];simp only [ZZ,w44,v23,w30,v13,v15,w45,a17,v18];rfl
end
end Go.Proofs.YtlmnjnhmhacgkaaGreatDoor.Am
end
