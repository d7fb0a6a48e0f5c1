/-
  The descriptions of the functions that are reached.
-/
import Derived.Test.YtlmnjnhmhacgkaaGreatDoorProg
import Derived.Test.YtlmnjnhmhacgkaaGreatDoorAmG
section
set_option linter.unusedVariables false
namespace Go.Proofs.YtlmnjnhmhacgkaaGreatDoor.Am
open Go Go.Am Go.Proofs
noncomputable section
abbrev Fun:=Nat→List AV→Option (List AV)
def s27:Sh:=.agg [(.int .i64),(.arr .u8 16)]
def s29:Sh:=.agg [(.int .i64),(.arr .u8 6),s27,(.arr .u8 6),s27]
def s93:Sh:=.agg [(.int .i64),(.fs .u8)]
def s33:Sh:=.agg [(.int .i64),(.int .i64),.bool,.bool,(.int .i64),(.int .i64),(.int .i64),s27,s27,(.fv s93),(.fs .u8)]
def s36:Sh:=.agg [.bool,.bool,(.int .i64),(.int .i64)]
def s124:Sh:=.agg [(.int .i64),(.fv s93),(.fs .u8)]
def s38:Sh:=.agg [(.int .i64),(.int .i64),(.int .i64),s27,s27,(.fv s124),s36,(.int .i64),(.fs .u8)]
def s40:Sh:=.agg [(.int .i64),(.int .i64),(.int .i64),(.int .i64),(.fs .u8)]
def s42:Sh:=.agg [(.int .i64),(.int .i64),.bool,(.fs .u8)]
def s44:Sh:=.agg [(.int .i64),(.int .i64),(.int .i64),(.int .i64),(.int .i64),(.int .i64),(.int .i64),(.fv s93),(.fs .u8)]
def s79:Sh:=.agg [(.int .i64),(.int .i64),.bool,(.int .i64)]
def s46:Sh:=.agg [(.arr .u8 6),(.arr .u8 6),(.fv s79),(.int .i64),s29,s33,s38,(.int .i64),s40,s42,s44]
def s66:Sh:=.agg [(.int .i64),s27,s27,(.int .i64),(.int .i64)]
def s83:Sh:=.agg [(.arr .u8 6),(.arr .u8 6),(.fv s79),(.int .i64),(.fs .u8)]
def s104:Sh:=.agg [s27,s27,(.int .i64),(.int .i64),.bool]
def s152:Sh:=.agg [(.fv s124),s36,(.int .i64),(.fs .u8)]
def s236:Sh:=.agg [(.fs .u8),(.int .i64)]
def s237:Sh:=.agg [(.int .i64),(.int .i64)]
def fam1:FamD:=⟨1,236,s236,none⟩
def B126 (l:List AV):Bool:=decide ((getE l 1).toInt<0) || decide ((getE l 1).toInt ≥ ((getE l 0).toInts.length:Nat))
def B125 (l:List AV):Bool:=decide ((getE l 1).toInt<0) || (decide ((getE l 1).toInt >((getE l 0).toInts.length:Nat)) || decide ((getE l 2).toInt > IntKind.i64.wrap (((getE l 0).toInts.length:Nat) - (getE l 1).toInt)))
def glob:Nat→Option AV:=fun g=>match g with
 | 0=>some (.arr .i64 12 [4,4,8,16,16,1,1,1,13,8,8,16])
 | 1=>some (.arr .i64 4 [16,16,16,16])
 | 2=>some (.arr .i64 10 [16,16,32,32,4,4,8,16,16,16])
 | 3=>some (.agg [.agg [.int .i64 0,.int .i64 1],.agg [.int .i64 43,.int .i64 2],.agg [.int .i64 44,.int .i64 3],.agg [.int .i64 60,.int .i64 1]])
 | 4=>some (.arr .u64 9 [0,0,16,8,4,17247241216,0,0,1024])
 | _=>none
def env:Env:=⟨glob,fun t=>match t with | 236=>some 1 | _=>none,fun t=>match t with  | _=>none,fun t d=>match t,d with | 236,5=>true | _,_=>false⟩
def D77:FnD:={ body:=Tryz.f77.body.getD .skip,m:=7,ps:=[.val (.arr .u8 6)],fs:=[],pv:=[],rs:=[(2,.val .bool)],ty:=[4],own:=none,esc:=false }
def H77:Hints where
 loops:=fun _=>none
 joins:=fun _=>none
def cal77:FuncId→Option Cal:=fun _=>none
def run77 (n:Nat) (x0:List Int):Option (List AV):=D77.run Tryz.prog env (cal77) H77 n [.arr .u8 6 x0]
def D79:FnD:={ body:=Tryz.f79.body.getD .skip,m:=9,ps:=[.val (.int .i64)],fs:=[],pv:=[],rs:=[(2,.val .bool)],ty:=[4],own:=none,esc:=false }
def H79:Hints where
 loops:=fun _=>none
 joins:=fun _=>none
def cal79:FuncId→Option Cal:=fun _=>none
def run79 (n:Nat) (x0:Int):Option (List AV):=D79.run Tryz.prog env (cal79) H79 n [.int .i64 x0]
def D63:FnD:={ body:=Tryz.f63.body.getD .skip,m:=85,ps:=[.val s83],fs:=[],pv:=[],rs:=[(2,.val (.int .i64))],ty:=[47],own:=none,esc:=false }
def H63:Hints where
 loops:=fun i=>match i with
  | 6=>some ⟨[],[(1,.keep (.box s83)),(15,.val (.fv s79)),(16,.val (.int .i64)),(17,.val (.int .i64))],[(1,.ref (.top 1) 0)]⟩
  | 12=>some ⟨[],[(1,.keep (.box s83)),(37,.val (.fv s79)),(38,.val (.int .i64)),(39,.val (.int .i64))],[(1,.ref (.top 1) 0)]⟩
  | _=>none
 joins:=fun i=>match i with
  | 9=>some ⟨[],[(1,.keep (.box s83)),(15,.val (.fv s79)),(16,.val (.int .i64)),(17,.val (.int .i64)),(34,.val .bool)],[(1,.ref (.top 1) 0)]⟩
  | 10=>some ⟨[],[(1,.keep (.box s83)),(15,.val (.fv s79)),(16,.val (.int .i64)),(17,.val (.int .i64))],[(1,.ref (.top 1) 0)]⟩
  | 11=>some ⟨[],[(1,.keep (.box s83))],[(1,.ref (.top 1) 0)]⟩
  | 15=>some ⟨[],[(1,.keep (.box s83)),(37,.val (.fv s79)),(38,.val (.int .i64)),(39,.val (.int .i64)),(60,.val .bool)],[(1,.ref (.top 1) 0)]⟩
  | 16=>some ⟨[],[(1,.keep (.box s83)),(37,.val (.fv s79)),(38,.val (.int .i64)),(39,.val (.int .i64))],[(1,.ref (.top 1) 0)]⟩
  | 17=>some ⟨[],[(1,.keep (.box s83))],[(1,.ref (.top 1) 0)]⟩
  | 18=>some ⟨[],[(1,.keep (.box s83)),(74,.val .bool)],[(1,.ref (.top 1) 0)]⟩
  | 19=>some ⟨[],[(1,.keep (.box s83))],[(1,.ref (.top 1) 0)]⟩
  | _=>none
def cal63 (F77 F79:Fun):FuncId→Option Cal:=fun f=>match f with | 77=>some (mkCal D77 F77) | 79=>some (mkCal D79 F79) | _=>none
def run63 (F77 F79:Fun) (n:Nat) (x0:AV):Option (List AV):=D63.run Tryz.prog env (cal63 F77 F79) H63 n [eta s83 x0]
def D34:FnD:={ body:=Tryz.f34.body.getD .skip,m:=26,ps:=[.val (.fv s79),.val (.fv s79)],fs:=[],pv:=[],rs:=[(4,.val .bool)],ty:=[4],own:=none,esc:=false }
def H34:Hints where
 loops:=fun i=>match i with
  | 4=>some ⟨[],[(0,.val (.fv s79)),(1,.val (.fv s79)),(12,.val (.int .i64)),(13,.val (.int .i64))],[]⟩
  | _=>none
 joins:=fun i=>match i with
  | 9=>some ⟨[],[],[]⟩
  | _=>none
def cal34:FuncId→Option Cal:=fun _=>none
def run34 (n:Nat) (x0:List AV) (x1:List AV):Option (List AV):=D34.run Tryz.prog env (cal34) H34 n [.fv s79 x0,.fv s79 x1]
def D70:FnD:={ body:=Tryz.f70.body.getD .skip,m:=10,ps:=[.val (.fs .u8),.val (.fs .u8)],fs:=[],pv:=[],rs:=[(4,.val .bool)],ty:=[4],own:=none,esc:=false }
def H70:Hints where
 loops:=fun _=>none
 joins:=fun _=>none
def cal70:FuncId→Option Cal:=fun _=>none
def run70 (n:Nat) (x0:List Int) (x1:List Int):Option (List AV):=D70.run Tryz.prog env (cal70) H70 n [.fs .u8 x0,.fs .u8 x1]
def D113:FnD:={ body:=Tryz.f113.body.getD .skip,m:=17,ps:=[.val s93,.val s93],fs:=[],pv:=[],rs:=[(4,.val .bool)],ty:=[4],own:=none,esc:=false }
def H113:Hints where
 loops:=fun _=>none
 joins:=fun _=>none
def cal113 (F70:Fun):FuncId→Option Cal:=fun f=>match f with | 70=>some (mkCal D70 F70) | _=>none
def run113 (F70:Fun) (n:Nat) (x0:AV) (x1:AV):Option (List AV):=D113.run Tryz.prog env (cal113 F70) H113 n [eta s93 x0,eta s93 x1]
def D112:FnD:={ body:=Tryz.f112.body.getD .skip,m:=32,ps:=[.val (.fv s93),.val (.fv s93),.fn 113],fs:=[],pv:=[],rs:=[(6,.val .bool)],ty:=[4],own:=none,esc:=false }
def H112:Hints where
 loops:=fun i=>match i with
  | 4=>some ⟨[],[(1,.val (.fv s93)),(15,.val (.fv s93)),(16,.val (.int .i64)),(17,.val (.int .i64))],[(2,.fn 113)]⟩
  | _=>none
 joins:=fun i=>match i with
  | 10=>some ⟨[],[],[]⟩
  | _=>none
def cal112 (F113:Fun):FuncId→Option Cal:=fun f=>match f with | 113=>some (mkCal D113 F113) | _=>none
def run112 (F113:Fun) (n:Nat) (x0:List AV) (x1:List AV):Option (List AV):=D112.run Tryz.prog env (cal112 F113) H112 n [.fv s93 x0,.fv s93 x1,.nili]
def D69:FnD:={ body:=Tryz.f69.body.getD .skip,m:=8,ps:=[.val (.fv s93),.val (.fv s93)],fs:=[],pv:=[],rs:=[(4,.val .bool)],ty:=[4],own:=none,esc:=false }
def H69:Hints where
 loops:=fun _=>none
 joins:=fun _=>none
def cal69 (F112:Fun):FuncId→Option Cal:=fun f=>match f with | 112=>some (mkCal D112 F112) | _=>none
def run69 (F112:Fun) (n:Nat) (x0:List AV) (x1:List AV):Option (List AV):=D69.run Tryz.prog env (cal69 F112) H69 n [.fv s93 x0,.fv s93 x1]
def D35:FnD:={ body:=Tryz.f35.body.getD .skip,m:=78,ps:=[.val s33,.val s33],fs:=[],pv:=[],rs:=[(4,.val .bool)],ty:=[4],own:=none,esc:=false }
def H35:Hints where
 loops:=fun _=>none
 joins:=fun i=>match i with
  | 2=>some ⟨[],[(2,.keep (.box s33)),(3,.keep (.box s33)),(51,.val .bool)],[(2,.ref (.top 2) 0),(3,.ref (.top 3) 0)]⟩
  | 3=>some ⟨[],[(2,.keep (.box s33)),(3,.keep (.box s33))],[(2,.ref (.top 2) 0),(3,.ref (.top 3) 0)]⟩
  | _=>none
def cal35 (F69 F70:Fun):FuncId→Option Cal:=fun f=>match f with | 69=>some (mkCal D69 F69) | 70=>some (mkCal D70 F70) | _=>none
def run35 (F69 F70:Fun) (n:Nat) (x0:AV) (x1:AV):Option (List AV):=D35.run Tryz.prog env (cal35 F69 F70) H35 n [eta s33 x0,eta s33 x1]
def D72:FnD:={ body:=Tryz.f72.body.getD .skip,m:=24,ps:=[.val s124,.val s124],fs:=[],pv:=[],rs:=[(4,.val .bool)],ty:=[4],own:=none,esc:=false }
def H72:Hints where
 loops:=fun _=>none
 joins:=fun _=>none
def cal72 (F69 F70:Fun):FuncId→Option Cal:=fun f=>match f with | 69=>some (mkCal D69 F69) | 70=>some (mkCal D70 F70) | _=>none
def run72 (F69 F70:Fun) (n:Nat) (x0:AV) (x1:AV):Option (List AV):=D72.run Tryz.prog env (cal72 F69 F70) H72 n [eta s124 x0,eta s124 x1]
def D71:FnD:={ body:=Tryz.f71.body.getD .skip,m:=32,ps:=[.val (.fv s124),.val (.fv s124),.fn 72],fs:=[],pv:=[],rs:=[(6,.val .bool)],ty:=[4],own:=none,esc:=false }
def H71:Hints where
 loops:=fun i=>match i with
  | 4=>some ⟨[],[(1,.val (.fv s124)),(15,.val (.fv s124)),(16,.val (.int .i64)),(17,.val (.int .i64))],[(2,.fn 72)]⟩
  | _=>none
 joins:=fun i=>match i with
  | 10=>some ⟨[],[],[]⟩
  | _=>none
def cal71 (F72:Fun):FuncId→Option Cal:=fun f=>match f with | 72=>some (mkCal D72 F72) | _=>none
def run71 (F72:Fun) (n:Nat) (x0:List AV) (x1:List AV):Option (List AV):=D71.run Tryz.prog env (cal71 F72) H71 n [.fv s124 x0,.fv s124 x1,.nili]
def D36:FnD:={ body:=Tryz.f36.body.getD .skip,m:=66,ps:=[.val s38,.val s38],fs:=[],pv:=[],rs:=[(4,.val .bool)],ty:=[4],own:=none,esc:=false }
def H36:Hints where
 loops:=fun _=>none
 joins:=fun i=>match i with
  | 2=>some ⟨[],[(2,.keep (.box s38)),(3,.keep (.box s38)),(52,.val .bool)],[(2,.ref (.top 2) 0),(3,.ref (.top 3) 0)]⟩
  | 3=>some ⟨[],[(2,.keep (.box s38)),(3,.keep (.box s38))],[(2,.ref (.top 2) 0),(3,.ref (.top 3) 0)]⟩
  | _=>none
def cal36 (F70 F71:Fun):FuncId→Option Cal:=fun f=>match f with | 70=>some (mkCal D70 F70) | 71=>some (mkCal D71 F71) | _=>none
def run36 (F70 F71:Fun) (n:Nat) (x0:AV) (x1:AV):Option (List AV):=D36.run Tryz.prog env (cal36 F70 F71) H36 n [eta s38 x0,eta s38 x1]
def D37:FnD:={ body:=Tryz.f37.body.getD .skip,m:=153,ps:=[.val s46,.val s46],fs:=[],pv:=[],rs:=[(4,.val .bool)],ty:=[4],own:=none,esc:=false }
def H37:Hints where
 loops:=fun _=>none
 joins:=fun i=>match i with
  | 3=>some ⟨[],[(2,.keep (.box s46)),(3,.keep (.box s46)),(7,.val .bool)],[(2,.ref (.top 2) 0),(3,.ref (.top 3) 0)]⟩
  | 5=>some ⟨[],[(2,.keep (.box s46)),(3,.keep (.box s46)),(7,.val .bool),(10,.val .bool)],[(2,.ref (.top 2) 0),(3,.ref (.top 3) 0)]⟩
  | 7=>some ⟨[],[(7,.val .bool),(10,.val .bool),(11,.keep (.box s44)),(12,.keep (.box s44)),(13,.val .bool)],[(11,.ref (.top 11) 0),(12,.ref (.top 12) 0)]⟩
  | _=>none
def cal37 (F69 F70:Fun):FuncId→Option Cal:=fun f=>match f with | 69=>some (mkCal D69 F69) | 70=>some (mkCal D70 F70) | _=>none
def run37 (F69 F70:Fun) (n:Nat) (x0:AV) (x1:AV):Option (List AV):=D37.run Tryz.prog env (cal37 F69 F70) H37 n [eta s46 x0,eta s46 x1]
def D14:FnD:={ body:=Tryz.f14.body.getD .skip,m:=63,ps:=[.val s46,.val s46],fs:=[],pv:=[],rs:=[(4,.val .bool)],ty:=[4],own:=none,esc:=false }
def H14:Hints where
 loops:=fun _=>none
 joins:=fun i=>match i with
  | 2=>some ⟨[],[(2,.keep (.box s46)),(3,.keep (.box s46)),(45,.val .bool)],[(2,.ref (.top 2) 0),(3,.ref (.top 3) 0)]⟩
  | 3=>some ⟨[],[(2,.keep (.box s46)),(3,.keep (.box s46))],[(2,.ref (.top 2) 0),(3,.ref (.top 3) 0)]⟩
  | _=>none
def cal14 (F34 F35 F36 F37:Fun):FuncId→Option Cal:=fun f=>match f with | 34=>some (mkCal D34 F34) | 35=>some (mkCal D35 F35) | 36=>some (mkCal D36 F36) | 37=>some (mkCal D37 F37) | _=>none
def run14 (F34 F35 F36 F37:Fun) (n:Nat) (x0:AV) (x1:AV):Option (List AV):=D14.run Tryz.prog env (cal14 F34 F35 F36 F37) H14 n [eta s46 x0,eta s46 x1]
def D55:FnD:={ body:=Tryz.f55.body.getD .skip,m:=39,ps:=[.val s46],fs:=[],pv:=[],rs:=[(2,.cell s104 104)],ty:=[104],own:=none,esc:=false }
def H55:Hints where
 loops:=fun _=>none
 joins:=fun _=>none
def cal55:FuncId→Option Cal:=fun _=>none
def run55 (n:Nat) (x0:AV):Option (List AV):=D55.run Tryz.prog env (cal55) H55 n [eta s46 x0]
def D56:FnD:={ body:=Tryz.f56.body.getD .skip,m:=12,ps:=[.val s46],fs:=[],pv:=[],rs:=[(2,.val (.fs .u8))],ty:=[31],own:=none,esc:=true,fz:=[(2,(.fs .u8))] }
def H56:Hints where
 loops:=fun _=>none
 joins:=fun _=>none
def cal56:FuncId→Option Cal:=fun _=>none
def run56 (n:Nat) (x0:AV):Option (List AV):=D56.run Tryz.prog env (cal56) H56 n [eta s46 x0]
def D94:FnD:={ body:=Tryz.f94.body.getD .skip,m:=24,ps:=[.val (.int .i64),.val (.int .i64)],fs:=[],pv:=[],rs:=[(4,.val (.int .i64))],ty:=[3],own:=none,esc:=false }
def H94:Hints where
 loops:=fun _=>none
 joins:=fun i=>match i with
  | 6=>some ⟨[],[(0,.val (.int .i64)),(1,.val (.int .i64)),(11,.val .bool)],[]⟩
  | 7=>some ⟨[],[(11,.val .bool)],[]⟩
  | 8=>some ⟨[],[],[]⟩
  | _=>none
def cal94:FuncId→Option Cal:=fun _=>none
def run94 (n:Nat) (x0:Int) (x1:Int):Option (List AV):=D94.run Tryz.prog env (cal94) H94 n [.int .i64 x0,.int .i64 x1]
def D57:FnD:={ body:=Tryz.f57.body.getD .skip,m:=18,ps:=[.val s46],fs:=[],pv:=[],rs:=[(2,.val (.int .i64))],ty:=[3],own:=none,esc:=false }
def H57:Hints where
 loops:=fun _=>none
 joins:=fun i=>match i with
  | 3=>some ⟨[],[(3,.keep (.box s104)),(12,.val .bool)],[(3,.ref (.top 3) 0)]⟩
  | 4=>some ⟨[],[(3,.keep (.box s104))],[(3,.ref (.top 3) 0)]⟩
  | _=>none
def cal57 (F55 F94:Fun):FuncId→Option Cal:=fun f=>match f with | 55=>some (mkCal D55 F55) | 94=>some (mkCal D94 F94) | _=>none
def run57 (F55 F94:Fun) (n:Nat) (x0:AV):Option (List AV):=D57.run Tryz.prog env (cal57 F55 F94) H57 n [eta s46 x0]
def D64:FnD:={ body:=Tryz.f64.body.getD .skip,m:=99,ps:=[.val s46],fs:=[],pv:=[],rs:=[(2,.val .bool)],ty:=[4],own:=none,esc:=false }
def H64:Hints where
 loops:=fun _=>none
 joins:=fun i=>match i with
  | 2=>some ⟨[],[(1,.keep (.box s46)),(21,.val .bool)],[(1,.ref (.top 1) 0)]⟩
  | 3=>some ⟨[],[(1,.keep (.box s46))],[(1,.ref (.top 1) 0)]⟩
  | 11=>some ⟨[],[(1,.keep (.box s46)),(3,.keep (.box s46))],[(1,.ref (.top 1) 0),(3,.ref (.top 3) 0)]⟩
  | 18=>some ⟨[],[(1,.keep (.box s46)),(3,.keep (.box s46))],[(1,.ref (.top 1) 0),(3,.ref (.top 3) 0)]⟩
  | 19=>some ⟨[],[(1,.keep (.box s46)),(77,.val .bool)],[(1,.ref (.top 1) 0)]⟩
  | 20=>some ⟨[],[(1,.keep (.box s46))],[(1,.ref (.top 1) 0)]⟩
  | _=>none
def cal64 (F14 F55 F56 F57:Fun):FuncId→Option Cal:=fun f=>match f with | 14=>some (mkCal D14 F14) | 55=>some (mkCal D55 F55) | 56=>some (mkCal D56 F56) | 57=>some (mkCal D57 F57) | _=>none
def run64 (F14 F55 F56 F57:Fun) (n:Nat) (x0:AV):Option (List AV):=D64.run Tryz.prog env (cal64 F14 F55 F56 F57) H64 n [eta s46 x0]
def D184:FnD:={ body:=Tryz.f184.body.getD .skip,m:=29,ps:=[.val s27],fs:=[],pv:=[],rs:=[(2,.val (.int .i64))],ty:=[3],own:=none,esc:=false }
def H184:Hints where
 loops:=fun _=>none
 joins:=fun _=>none
def cal184:FuncId→Option Cal:=fun _=>none
def run184 (n:Nat) (x0:AV):Option (List AV):=D184.run Tryz.prog env (cal184) H184 n [eta s27 x0]
def D139:FnD:={ body:=Tryz.f139.body.getD .skip,m:=76,ps:=[.val s27,.val s27,.val (.int .i64),.val (.int .i64)],fs:=[],pv:=[],rs:=[(8,.obj (.row 5 .u8)),(9,.val (.int .i64))],ty:=[31,47],own:=some 0,esc:=false }
def H139:Hints where
 loops:=fun _=>none
 joins:=fun i=>match i with
  | 3=>some ⟨[],[(2,.val (.int .i64)),(3,.val (.int .i64)),(4,.keep (.box s27)),(5,.keep (.box s27)),(10,.val (.int .i64)),(14,.val .bool)],[(4,.ref (.top 4) 0),(5,.ref (.top 5) 0)]⟩
  | 5=>some ⟨[],[(2,.val (.int .i64)),(3,.val (.int .i64)),(4,.keep (.box s27)),(5,.keep (.box s27)),(10,.val (.int .i64)),(23,.val .bool)],[(4,.ref (.top 4) 0),(5,.ref (.top 5) 0)]⟩
  | 6=>some ⟨[],[(2,.val (.int .i64)),(3,.val (.int .i64)),(4,.keep (.box s27)),(5,.keep (.box s27)),(10,.val (.int .i64))],[(4,.ref (.top 4) 0),(5,.ref (.top 5) 0)]⟩
  | _=>none
def cal139 (F184:Fun):FuncId→Option Cal:=fun f=>match f with | 184=>some (mkCal D184 F184) | _=>none
def run139 (F184:Fun) (n:Nat) (x0:AV) (x1:AV) (x2:Int) (x3:Int):Option (List AV):=D139.run Tryz.prog env (cal139 F184) H139 n [eta s27 x0,eta s27 x1,.int .i64 x2,.int .i64 x3]
def D95:FnD:={ body:=Tryz.f95.body.getD .skip,m:=26,ps:=[.val (.int .i64),.val s27,.val s27,.val (.int .i64)],fs:=[],pv:=[],rs:=[(8,.obj (.row 5 .u8)),(9,.val (.int .i64))],ty:=[31,47],own:=some 0,esc:=false }
def H95:Hints where
 loops:=fun _=>none
 joins:=fun i=>match i with
  | 4=>some ⟨[],[(3,.val (.int .i64)),(5,.keep (.box s27)),(6,.keep (.box s27)),(19,.val .bool)],[(5,.ref (.top 5) 0),(6,.ref (.top 6) 0)]⟩
  | 5=>some ⟨[],[(3,.val (.int .i64)),(5,.keep (.box s27)),(6,.keep (.box s27))],[(5,.ref (.top 5) 0),(6,.ref (.top 6) 0)]⟩
  | _=>none
def cal95 (F139:Fun):FuncId→Option Cal:=fun f=>match f with | 139=>some (mkCal D139 F139) | _=>none
def run95 (F139:Fun) (n:Nat) (x0:Int) (x1:AV) (x2:AV) (x3:Int):Option (List AV):=D95.run Tryz.prog env (cal95 F139) H95 n [.int .i64 x0,eta s27 x1,eta s27 x2,.int .i64 x3]
def D96:FnD:={ body:=Tryz.f96.body.getD .skip,m:=2,ps:=[],fs:=[],pv:=[],rs:=[(0,.obj (.row 3 .i64))],ty:=[142],own:=some 0,esc:=false }
def H96:Hints where
 loops:=fun _=>none
 joins:=fun _=>none
def cal96:FuncId→Option Cal:=fun _=>none
def run96 (n:Nat):Option (List AV):=D96.run Tryz.prog env (cal96) H96 n []
def D135:FnD:={ body:=Tryz.f135.body.getD .skip,m:=47,ps:=[.val s40],fs:=[],pv:=[],rs:=[(2,.val (.int .i64))],ty:=[47],own:=none,esc:=false }
def H135:Hints where
 loops:=fun _=>none
 joins:=fun i=>match i with
  | 2=>some ⟨[],[(1,.keep (.box s40)),(3,.val .bool)],[(1,.ref (.top 1) 0)]⟩
  | 4=>some ⟨[],[(1,.keep (.box s40)),(12,.val .bool)],[(1,.ref (.top 1) 0)]⟩
  | 7=>some ⟨[],[],[]⟩
  | _=>none
def cal135:FuncId→Option Cal:=fun _=>none
def run135 (n:Nat) (x0:AV):Option (List AV):=D135.run Tryz.prog env (cal135) H135 n [eta s40 x0]
def D123:FnD:={ body:=Tryz.f123.body.getD .skip,m:=31,ps:=[.val (.fs .i64)],fs:=[],pv:=[],rs:=[(2,.val (.int .i64)),(3,.val (.int .i64))],ty:=[3,47],own:=none,esc:=false }
def H123:Hints where
 loops:=fun i=>match i with
  | 5=>some ⟨[],[(4,.val (.int .i64)),(10,.val (.fs .i64)),(11,.val (.int .i64)),(12,.val (.int .i64))],[]⟩
  | _=>none
 joins:=fun i=>match i with
  | 8=>some ⟨[],[(4,.val (.int .i64)),(6,.val (.int .i64)),(10,.val (.fs .i64)),(11,.val (.int .i64)),(12,.val (.int .i64)),(21,.val .bool)],[]⟩
  | 9=>some ⟨[],[(4,.val (.int .i64)),(6,.val (.int .i64)),(10,.val (.fs .i64)),(11,.val (.int .i64)),(12,.val (.int .i64))],[]⟩
  | 10=>some ⟨[],[(4,.val (.int .i64)),(10,.val (.fs .i64)),(11,.val (.int .i64)),(12,.val (.int .i64))],[]⟩
  | 11=>some ⟨[],[(4,.val (.int .i64))],[]⟩
  | _=>none
def cal123:FuncId→Option Cal:=fun _=>none
def D136:FnD:={ body:=Tryz.f136.body.getD .skip,m:=77,ps:=[.val (.fs .i64),.val (.fs .i64)],fs:=[],pv:=[],rs:=[(4,.obj (.row 5 .u8)),(5,.val (.int .i64))],ty:=[31,47],own:=some 0,esc:=false }
def H136:Hints where
 loops:=fun i=>match i with
  | 9=>some ⟨[],[(1,.val (.fs .i64)),(8,.obj (.row 5 .u8)),(9,.val (.int .i64)),(29,.val (.fs .i64)),(30,.val (.int .i64)),(31,.val (.int .i64))],[]⟩
  | 15=>some ⟨[],[(1,.val (.fs .i64)),(8,.obj (.row 5 .u8)),(9,.val (.int .i64)),(12,.val (.int .i64)),(13,.val (.int .i64)),(29,.val (.fs .i64)),(30,.val (.int .i64)),(31,.val (.int .i64))],[]⟩
  | _=>none
 joins:=fun i=>match i with
  | 13=>some ⟨[],[(1,.val (.fs .i64)),(8,.obj (.row 5 .u8)),(9,.val (.int .i64)),(11,.val (.int .i64)),(12,.val (.int .i64)),(29,.val (.fs .i64)),(30,.val (.int .i64)),(31,.val (.int .i64)),(48,.val .bool)],[]⟩
  | 14=>some ⟨[],[(1,.val (.fs .i64)),(8,.obj (.row 5 .u8)),(9,.val (.int .i64)),(11,.val (.int .i64)),(12,.val (.int .i64)),(29,.val (.fs .i64)),(30,.val (.int .i64)),(31,.val (.int .i64))],[]⟩
  | 19=>some ⟨[],[(1,.val (.fs .i64)),(8,.obj (.row 5 .u8)),(9,.val (.int .i64)),(29,.val (.fs .i64)),(30,.val (.int .i64)),(31,.val (.int .i64))],[]⟩
  | 20=>some ⟨[],[(8,.obj (.row 5 .u8))],[]⟩
  | _=>none
def cal136 (F123:Fun):FuncId→Option Cal:=fun f=>match f with | 123=>some (mkCal D123 F123) | _=>none
def run136 (F123:Fun) (n:Nat) (x0:List Int) (x1:List Int):Option (List AV):=D136.run Tryz.prog env (cal136 F123) H136 n [.fs .i64 x0,.fs .i64 x1]
def D178:FnD:={ body:=Tryz.f178.body.getD .skip,m:=11,ps:=[.val (.int .i64)],fs:=[],pv:=[],rs:=[(2,.val (.int .i64))],ty:=[3],own:=none,esc:=false }
def H178:Hints where
 loops:=fun i=>match i with
  | 1=>some ⟨[],[(0,.val (.int .i64))],[]⟩
  | _=>none
 joins:=fun i=>match i with
  | 3=>some ⟨[],[(0,.val (.int .i64))],[]⟩
  | _=>none
def cal178:FuncId→Option Cal:=fun _=>none
def run178 (n:Nat) (x0:Int):Option (List AV):=D178.run Tryz.prog env (cal178) H178 n [.int .i64 x0]
def D127:FnD:={ body:=Tryz.f127.body.getD .skip,m:=38,ps:=[.val (.fv (.fs .u8))],fs:=[],pv:=[],rs:=[(2,.val (.int .i64))],ty:=[3],own:=none,esc:=false }
def H127:Hints where
 loops:=fun i=>match i with
  | 3=>some ⟨[],[(3,.val (.int .i64)),(4,.val .bool),(9,.val (.fv (.fs .u8))),(10,.val (.int .i64)),(11,.val (.int .i64))],[]⟩
  | 6=>some ⟨[],[(3,.val (.int .i64)),(4,.val .bool),(9,.val (.fv (.fs .u8))),(10,.val (.int .i64)),(11,.val (.int .i64)),(15,.val (.fs .u8)),(16,.val (.int .i64)),(17,.val (.int .i64))],[]⟩
  | _=>none
 joins:=fun i=>match i with
  | 11=>some ⟨[],[(3,.val (.int .i64)),(4,.val .bool),(9,.val (.fv (.fs .u8))),(10,.val (.int .i64)),(11,.val (.int .i64)),(15,.val (.fs .u8)),(16,.val (.int .i64)),(17,.val (.int .i64))],[]⟩
  | 12=>some ⟨[],[(3,.val (.int .i64)),(4,.val .bool),(9,.val (.fv (.fs .u8))),(10,.val (.int .i64)),(11,.val (.int .i64)),(15,.val (.fs .u8)),(16,.val (.int .i64)),(17,.val (.int .i64))],[]⟩
  | 13=>some ⟨[],[(3,.val (.int .i64)),(4,.val .bool),(9,.val (.fv (.fs .u8))),(10,.val (.int .i64)),(11,.val (.int .i64))],[]⟩
  | 14=>some ⟨[],[(3,.val (.int .i64)),(4,.val .bool),(9,.val (.fv (.fs .u8))),(10,.val (.int .i64)),(11,.val (.int .i64))],[]⟩
  | 15=>some ⟨[],[(3,.val (.int .i64))],[]⟩
  | _=>none
def cal127 (F178:Fun):FuncId→Option Cal:=fun f=>match f with | 178=>some (mkCal D178 F178) | _=>none
def run127 (F178:Fun) (n:Nat) (x0:List AV):Option (List AV):=D127.run Tryz.prog env (cal127 F178) H127 n [.fv (.fs .u8) x0]
def D137:FnD:={ body:=Tryz.f137.body.getD .skip,m:=6,ps:=[.val (.fv (.fs .u8))],fs:=[],pv:=[],rs:=[(2,.val (.int .i64))],ty:=[3],own:=none,esc:=false }
def H137:Hints where
 loops:=fun _=>none
 joins:=fun _=>none
def cal137 (F127:Fun):FuncId→Option Cal:=fun f=>match f with | 127=>some (mkCal D127 F127) | _=>none
def run137 (F127:Fun) (n:Nat) (x0:List AV):Option (List AV):=D137.run Tryz.prog env (cal137 F127) H137 n [.fv (.fs .u8) x0]
def D91:FnD:={ body:=Tryz.f91.body.getD .skip,m:=67,ps:=[.val s27,.val s27,.val s40],fs:=[],pv:=[],rs:=[(6,.obj (.row 5 .u8)),(7,.val (.int .i64))],ty:=[31,47],own:=some 0,esc:=false }
def H91:Hints where
 loops:=fun _=>none
 joins:=fun _=>none
def cal91 (F95 F96 F135 F136 F137:Fun):FuncId→Option Cal:=fun f=>match f with | 95=>some (mkCal D95 F95) | 96=>some (mkCal D96 F96) | 135=>some (mkCal D135 F135) | 136=>some (mkCal D136 F136) | 137=>some (mkCal D137 F137) | _=>none
def run91 (F95 F96 F135 F136 F137:Fun) (n:Nat) (x0:AV) (x1:AV) (x2:AV):Option (List AV):=D91.run Tryz.prog env (cal91 F95 F96 F135 F136 F137) H91 n [eta s27 x0,eta s27 x1,eta s40 x2]
def D97:FnD:={ body:=Tryz.f97.body.getD .skip,m:=14,ps:=[.val s27,.val s27],fs:=[],pv:=[],rs:=[(4,.val (.int .i64))],ty:=[47],own:=none,esc:=false }
def H97:Hints where
 loops:=fun _=>none
 joins:=fun _=>none
def cal97 (F139:Fun):FuncId→Option Cal:=fun f=>match f with | 139=>some (mkCal D139 F139) | _=>none
def run97 (F139:Fun) (n:Nat) (x0:AV) (x1:AV):Option (List AV):=D97.run Tryz.prog env (cal97 F139) H97 n [eta s27 x0,eta s27 x1]
def D183:FnD:={ body:=Tryz.f183.body.getD .skip,m:=12,ps:=[.val (.int .i64),.val (.int .i64)],fs:=[],pv:=[],rs:=[(4,.val .bool)],ty:=[4],own:=none,esc:=false }
def H183:Hints where
 loops:=fun _=>none
 joins:=fun _=>none
def cal183:FuncId→Option Cal:=fun _=>none
def run183 (n:Nat) (x0:Int) (x1:Int):Option (List AV):=D183.run Tryz.prog env (cal183) H183 n [.int .i64 x0,.int .i64 x1]
def D138:FnD:={ body:=Tryz.f138.body.getD .skip,m:=34,ps:=[.val (.int .i64),.val s42],fs:=[],pv:=[],rs:=[(4,.val (.int .i64))],ty:=[47],own:=none,esc:=false }
def H138:Hints where
 loops:=fun _=>none
 joins:=fun i=>match i with
  | 2=>some ⟨[],[(0,.val (.int .i64)),(3,.keep (.box s42)),(5,.val .bool)],[(3,.ref (.top 3) 0)]⟩
  | 4=>some ⟨[],[(3,.keep (.box s42)),(12,.val .bool)],[(3,.ref (.top 3) 0)]⟩
  | 7=>some ⟨[],[],[]⟩
  | _=>none
def cal138 (F183:Fun):FuncId→Option Cal:=fun f=>match f with | 183=>some (mkCal D183 F183) | _=>none
def run138 (F183:Fun) (n:Nat) (x0:Int) (x1:AV):Option (List AV):=D138.run Tryz.prog env (cal138 F183) H138 n [.int .i64 x0,eta s42 x1]
def D92:FnD:={ body:=Tryz.f92.body.getD .skip,m:=73,ps:=[.val s27,.val s27,.val s42],fs:=[],pv:=[],rs:=[(6,.obj (.row 5 .u8)),(7,.val (.int .i64))],ty:=[31,47],own:=some 0,esc:=false }
def H92:Hints where
 loops:=fun _=>none
 joins:=fun i=>match i with
  | 4=>some ⟨[],[(3,.keep (.box s27)),(4,.keep (.box s27)),(5,.keep (.box s42)),(8,.val (.int .i64))],[(3,.ref (.top 3) 0),(4,.ref (.top 4) 0),(5,.ref (.top 5) 0)]⟩
  | 15=>some ⟨[],[(10,.obj (.row 5 .u8)),(14,.val (.int .i64))],[]⟩
  | _=>none
def cal92 (F97 F136 F137 F138 F139:Fun):FuncId→Option Cal:=fun f=>match f with | 97=>some (mkCal D97 F97) | 136=>some (mkCal D136 F136) | 137=>some (mkCal D137 F137) | 138=>some (mkCal D138 F138) | 139=>some (mkCal D139 F139) | _=>none
def run92 (F97 F136 F137 F138 F139:Fun) (n:Nat) (x0:AV) (x1:AV) (x2:AV):Option (List AV):=D92.run Tryz.prog env (cal92 F97 F136 F137 F138 F139) H92 n [eta s27 x0,eta s27 x1,eta s42 x2]
def D142:FnD:={ body:=Tryz.f142.body.getD .skip,m:=23,ps:=[.val (.int .i64),.val (.int .i64)],fs:=[],pv:=[],rs:=[(4,.val .bool)],ty:=[4],own:=none,esc:=false }
def H142:Hints where
 loops:=fun _=>none
 joins:=fun _=>none
def cal142:FuncId→Option Cal:=fun _=>none
def run142 (n:Nat) (x0:Int) (x1:Int):Option (List AV):=D142.run Tryz.prog env (cal142) H142 n [.int .i64 x0,.int .i64 x1]
def D141:FnD:={ body:=Tryz.f141.body.getD .skip,m:=65,ps:=[.val (.fv s93)],fs:=[],pv:=[],rs:=[(2,.obj (.row 5 .u8)),(3,.val (.int .i64))],ty:=[31,47],own:=some 0,esc:=false }
def H141:Hints where
 loops:=fun i=>match i with
  | 3=>some ⟨[],[(4,.obj (.row 5 .u8)),(8,.val (.fv s93)),(9,.val (.int .i64)),(10,.val (.int .i64))],[]⟩
  | 11=>some ⟨[],[(4,.obj (.row 5 .u8))],[]⟩
  | _=>none
 joins:=fun i=>match i with
  | 7=>some ⟨[],[(4,.obj (.row 5 .u8)),(6,.keep (.box s93)),(7,.val (.int .i64)),(8,.val (.fv s93)),(9,.val (.int .i64)),(10,.val (.int .i64)),(43,.val .bool)],[(6,.ref (.top 6) 0)]⟩
  | 8=>some ⟨[],[(4,.obj (.row 5 .u8)),(6,.keep (.box s93)),(7,.val (.int .i64)),(8,.val (.fv s93)),(9,.val (.int .i64)),(10,.val (.int .i64))],[(6,.ref (.top 6) 0)]⟩
  | 10=>some ⟨[],[(4,.obj (.row 5 .u8)),(8,.val (.fv s93)),(9,.val (.int .i64)),(10,.val (.int .i64))],[]⟩
  | 11=>some ⟨[],[(4,.obj (.row 5 .u8))],[]⟩
  | 13=>some ⟨[],[(4,.obj (.row 5 .u8))],[]⟩
  | _=>none
def cal141 (F142:Fun):FuncId→Option Cal:=fun f=>match f with | 142=>some (mkCal D142 F142) | _=>none
def run141 (F142:Fun) (n:Nat) (x0:List AV):Option (List AV):=D141.run Tryz.prog env (cal141 F142) H141 n [.fv s93 x0]
def D140:FnD:={ body:=Tryz.f140.body.getD .skip,m:=55,ps:=[.val s44],fs:=[],pv:=[],rs:=[(2,.val (.int .i64))],ty:=[47],own:=none,esc:=false }
def H140:Hints where
 loops:=fun _=>none
 joins:=fun i=>match i with
  | 2=>some ⟨[],[(1,.keep (.box s44)),(37,.val .bool)],[(1,.ref (.top 1) 0)]⟩
  | 3=>some ⟨[],[(1,.keep (.box s44))],[(1,.ref (.top 1) 0)]⟩
  | _=>none
def cal140 (F141 F183:Fun):FuncId→Option Cal:=fun f=>match f with | 141=>some (mkCal D141 F141) | 183=>some (mkCal D183 F183) | _=>none
def run140 (F141 F183:Fun) (n:Nat) (x0:AV):Option (List AV):=D140.run Tryz.prog env (cal140 F141 F183) H140 n [eta s44 x0]
def D93:FnD:={ body:=Tryz.f93.body.getD .skip,m:=87,ps:=[.val s27,.val s27,.val s44],fs:=[],pv:=[],rs:=[(6,.obj (.row 5 .u8)),(7,.val (.int .i64))],ty:=[31,47],own:=some 0,esc:=false }
def H93:Hints where
 loops:=fun _=>none
 joins:=fun i=>match i with
  | 4=>some ⟨[],[(3,.keep (.box s27)),(4,.keep (.box s27)),(5,.keep (.box s44)),(8,.val (.int .i64))],[(3,.ref (.top 3) 0),(4,.ref (.top 4) 0),(5,.ref (.top 5) 0)]⟩
  | _=>none
def cal93 (F97 F136 F137 F139 F140 F141:Fun):FuncId→Option Cal:=fun f=>match f with | 97=>some (mkCal D97 F97) | 136=>some (mkCal D136 F136) | 137=>some (mkCal D137 F137) | 139=>some (mkCal D139 F139) | 140=>some (mkCal D140 F140) | 141=>some (mkCal D141 F141) | _=>none
def run93 (F97 F136 F137 F139 F140 F141:Fun) (n:Nat) (x0:AV) (x1:AV) (x2:AV):Option (List AV):=D93.run Tryz.prog env (cal93 F97 F136 F137 F139 F140 F141) H93 n [eta s27 x0,eta s27 x1,eta s44 x2]
def D53:FnD:={ body:=Tryz.f53.body.getD .skip,m:=44,ps:=[.val s46],fs:=[],pv:=[],rs:=[(2,.val (.fs .u8)),(3,.val (.int .i64))],ty:=[31,47],own:=none,esc:=true,fz:=[(2,(.fs .u8))] }
def H53:Hints where
 loops:=fun _=>none
 joins:=fun _=>none
def cal53 (F55 F56 F91 F92 F93:Fun):FuncId→Option Cal:=fun f=>match f with | 55=>some (mkCal D55 F55) | 56=>some (mkCal D56 F56) | 91=>some (mkCal D91 F91) | 92=>some (mkCal D92 F92) | 93=>some (mkCal D93 F93) | _=>none
def run53 (F55 F56 F91 F92 F93:Fun) (n:Nat) (x0:AV):Option (List AV):=D53.run Tryz.prog env (cal53 F55 F56 F91 F92 F93) H53 n [eta s46 x0]
def D54:FnD:={ body:=Tryz.f54.body.getD .skip,m:=15,ps:=[.val s46,.val (.fs .u8)],fs:=[],pv:=[],rs:=[(4,.cell s46 46)],ty:=[46],own:=none,esc:=true,fzc:=[(4,s46)] }
def H54:Hints where
 loops:=fun _=>none
 joins:=fun i=>match i with
  | 4=>some ⟨[],[(2,.keep (.box s46)),(4,.keep (.box s46))],[(2,.ref (.top 2) 0),(4,.ref (.top 4) 0)]⟩
  | _=>none
def cal54:FuncId→Option Cal:=fun _=>none
def run54 (n:Nat) (x0:AV) (x1:List Int):Option (List AV):=D54.run Tryz.prog env (cal54) H54 n [eta s46 x0,.fs .u8 x1]
def D81:FnD:={ body:=Tryz.f81.body.getD .skip,m:=17,ps:=[.val (.fs .u8)],fs:=[],pv:=[],rs:=[(2,.cell s27 27)],ty:=[27],own:=none,esc:=false }
def H81:Hints where
 loops:=fun _=>none
 joins:=fun _=>none
def cal81:FuncId→Option Cal:=fun _=>none
def run81 (n:Nat) (x0:List Int):Option (List AV):=D81.run Tryz.prog env (cal81) H81 n [.fs .u8 x0]
def D82:FnD:={ body:=Tryz.f82.body.getD .skip,m:=18,ps:=[.val (.int .i64),.val (.arr .u8 6)],fs:=[],pv:=[],rs:=[(4,.val (.int .i64))],ty:=[47],own:=none,esc:=false }
def H82:Hints where
 loops:=fun _=>none
 joins:=fun i=>match i with
  | 2=>some ⟨[],[(3,.keep (.box (.arr .u8 6))),(10,.val .bool)],[(3,.ref (.top 3) 0)]⟩
  | 3=>some ⟨[],[(3,.keep (.box (.arr .u8 6)))],[(3,.ref (.top 3) 0)]⟩
  | 4=>some ⟨[],[(17,.val .bool)],[]⟩
  | 5=>some ⟨[],[],[]⟩
  | _=>none
def cal82 (F77:Fun):FuncId→Option Cal:=fun f=>match f with | 77=>some (mkCal D77 F77) | _=>none
def run82 (F77:Fun) (n:Nat) (x0:Int) (x1:List Int):Option (List AV):=D82.run Tryz.prog env (cal82 F77) H82 n [.int .i64 x0,.arr .u8 6 x1]
def H111:Hints where
 loops:=fun _=>none
 joins:=fun _=>none
def cal111:FuncId→Option Cal:=fun _=>none
def run111 (n:Nat) (x0:List Int) (x1:Int):Option (List AV):=rowRun Tryz.prog env (cal111) H111 (Tryz.f111.body.getD .skip) 13 4 5 .u8 n [.fs .u8 x0,.int .i64 x1]
def D106:FnD:={ body:=Tryz.f106.body.getD .skip,m:=51,ps:=[.val s29],fs:=[],pv:=[],rs:=[(2,.obj (.row 5 .u8)),(3,.val (.int .i64))],ty:=[31,47],own:=some 0,esc:=false }
def H106:Hints where
 loops:=fun i=>match i with
  | 5=>some ⟨[],[(1,.keep (.box s29)),(20,.val (.agg (List.replicate 2 s27))),(21,.val (.int .i64))],[(1,.ref (.top 1) 0)]⟩
  | _=>none
 joins:=fun i=>match i with
  | 10=>some ⟨[],[(1,.keep (.box s29))],[(1,.ref (.top 1) 0)]⟩
  | _=>none
def cal106 (F81 F82 F111:Fun):FuncId→Option Cal:=fun f=>match f with | 81=>some (mkCal D81 F81) | 82=>some (mkCal D82 F82) | 111=>some (rowCal F111 5 .u8 31) | _=>none
def run106 (F81 F82 F111:Fun) (n:Nat) (x0:AV):Option (List AV):=D106.run Tryz.prog env (cal106 F81 F82 F111) H106 n [eta s29 x0]
def D86:FnD:={ body:=Tryz.f86.body.getD .skip,m:=23,ps:=[.val .bool,.val (.int .i64),.val (.int .i64)],fs:=[],pv:=[],rs:=[(6,.val (.int .i64))],ty:=[47],own:=none,esc:=false }
def H86:Hints where
 loops:=fun _=>none
 joins:=fun i=>match i with
  | 2=>some ⟨[],[(22,.val .bool)],[]⟩
  | 3=>some ⟨[],[],[]⟩
  | _=>none
def cal86:FuncId→Option Cal:=fun _=>none
def run86 (n:Nat) (x0:Bool) (x1:Int) (x2:Int):Option (List AV):=D86.run Tryz.prog env (cal86) H86 n [.bool x0,.int .i64 x1,.int .i64 x2]
def D157:FnD:={ body:=Tryz.f157.body.getD .skip,m:=61,ps:=[.val (.fv s93)],fs:=[],pv:=[],rs:=[(2,.obj (.row 5 .u8)),(3,.val (.int .i64))],ty:=[31,47],own:=some 0,esc:=false }
def H157:Hints where
 loops:=fun i=>match i with
  | 3=>some ⟨[],[(4,.obj (.row 5 .u8)),(7,.val (.fv s93)),(8,.val (.int .i64)),(9,.val (.int .i64))],[]⟩
  | 10=>some ⟨[],[(4,.obj (.row 5 .u8))],[]⟩
  | _=>none
 joins:=fun i=>match i with
  | 6=>some ⟨[],[(4,.obj (.row 5 .u8)),(6,.keep (.box s93)),(7,.val (.fv s93)),(8,.val (.int .i64)),(9,.val (.int .i64)),(36,.val .bool)],[(6,.ref (.top 6) 0)]⟩
  | 7=>some ⟨[],[(4,.obj (.row 5 .u8)),(6,.keep (.box s93)),(7,.val (.fv s93)),(8,.val (.int .i64)),(9,.val (.int .i64))],[(6,.ref (.top 6) 0)]⟩
  | 9=>some ⟨[],[(4,.obj (.row 5 .u8)),(7,.val (.fv s93)),(8,.val (.int .i64)),(9,.val (.int .i64))],[]⟩
  | 10=>some ⟨[],[(4,.obj (.row 5 .u8))],[]⟩
  | 12=>some ⟨[],[(4,.obj (.row 5 .u8))],[]⟩
  | _=>none
def cal157:FuncId→Option Cal:=fun _=>none
def run157 (n:Nat) (x0:List AV):Option (List AV):=D157.run Tryz.prog env (cal157) H157 n [.fv s93 x0]
def D202:FnD:={ body:=Tryz.f202.body.getD .skip,m:=12,ps:=[.val (.int .i64),.val (.int .i64)],fs:=[],pv:=[],rs:=[(4,.val .bool)],ty:=[4],own:=none,esc:=false }
def H202:Hints where
 loops:=fun _=>none
 joins:=fun _=>none
def cal202:FuncId→Option Cal:=fun _=>none
def run202 (n:Nat) (x0:Int) (x1:Int):Option (List AV):=D202.run Tryz.prog env (cal202) H202 n [.int .i64 x0,.int .i64 x1]
def D203:FnD:={ body:=Tryz.f203.body.getD .skip,m:=17,ps:=[.val s27],fs:=[],pv:=[],rs:=[(2,.val .bool)],ty:=[4],own:=none,esc:=false }
def H203:Hints where
 loops:=fun _=>none
 joins:=fun _=>none
def cal203:FuncId→Option Cal:=fun _=>none
def run203 (n:Nat) (x0:AV):Option (List AV):=D203.run Tryz.prog env (cal203) H203 n [eta s27 x0]
def D155:FnD:={ body:=Tryz.f155.body.getD .skip,m:=71,ps:=[.val s33],fs:=[],pv:=[],rs:=[(2,.val (.int .i64))],ty:=[47],own:=none,esc:=false }
def H155:Hints where
 loops:=fun _=>none
 joins:=fun i=>match i with
  | 2=>some ⟨[],[(1,.keep (.box s33)),(45,.val .bool)],[(1,.ref (.top 1) 0)]⟩
  | 3=>some ⟨[],[(1,.keep (.box s33))],[(1,.ref (.top 1) 0)]⟩
  | _=>none
def cal155 (F86 F157 F202 F203:Fun):FuncId→Option Cal:=fun f=>match f with | 86=>some (mkCal D86 F86) | 157=>some (mkCal D157 F157) | 202=>some (mkCal D202 F202) | 203=>some (mkCal D203 F203) | _=>none
def run155 (F86 F157 F202 F203:Fun) (n:Nat) (x0:AV):Option (List AV):=D155.run Tryz.prog env (cal155 F86 F157 F202 F203) H155 n [eta s33 x0]
def D269:FnD:={ body:=Tryz.f269.body.getD .skip,m:=17,ps:=[.val s27],fs:=[],pv:=[],rs:=[(2,.val (.int .i64))],ty:=[3],own:=none,esc:=false }
def H269:Hints where
 loops:=fun _=>none
 joins:=fun i=>match i with
  | 4=>some ⟨[],[(16,.val .bool)],[]⟩
  | 5=>some ⟨[],[],[]⟩
  | _=>none
def cal269:FuncId→Option Cal:=fun _=>none
def run269 (n:Nat) (x0:AV):Option (List AV):=D269.run Tryz.prog env (cal269) H269 n [eta s27 x0]
def D244:FnD:={ body:=Tryz.f244.body.getD .skip,m:=6,ps:=[.val s27],fs:=[],pv:=[],rs:=[(2,.val .bool)],ty:=[4],own:=none,esc:=false }
def H244:Hints where
 loops:=fun _=>none
 joins:=fun _=>none
def cal244 (F269:Fun):FuncId→Option Cal:=fun f=>match f with | 269=>some (mkCal D269 F269) | _=>none
def run244 (F269:Fun) (n:Nat) (x0:AV):Option (List AV):=D244.run Tryz.prog env (cal244 F269) H244 n [eta s27 x0]
def D204:FnD:={ body:=Tryz.f204.body.getD .skip,m:=66,ps:=[.val s38],fs:=[],pv:=[],rs:=[(2,.val (.int .i64))],ty:=[47],own:=none,esc:=false }
def H204:Hints where
 loops:=fun _=>none
 joins:=fun i=>match i with
  | 2=>some ⟨[],[(1,.keep (.box s38)),(3,.val .bool)],[(1,.ref (.top 1) 0)]⟩
  | 3=>some ⟨[],[(65,.val .bool)],[]⟩
  | 4=>some ⟨[],[],[]⟩
  | _=>none
def cal204 (F244:Fun):FuncId→Option Cal:=fun f=>match f with | 244=>some (mkCal D244 F244) | _=>none
def run204 (F244:Fun) (n:Nat) (x0:AV):Option (List AV):=D204.run Tryz.prog env (cal204 F244) H204 n [eta s38 x0]
def D130:FnD:={ body:=Tryz.f130.body.getD .skip,m:=16,ps:=[.val (.int .i64)],fs:=[],pv:=[],rs:=[(2,.val (.int .i64))],ty:=[3],own:=none,esc:=false }
def H130:Hints where
 loops:=fun i=>match i with
  | 2=>some ⟨[],[(0,.val (.int .i64)),(5,.val (.agg (List.replicate 4 s237))),(6,.val (.int .i64))],[]⟩
  | _=>none
 joins:=fun i=>match i with
  | 7=>some ⟨[],[],[]⟩
  | _=>none
def cal130:FuncId→Option Cal:=fun _=>none
def run130 (n:Nat) (x0:Int):Option (List AV):=D130.run Tryz.prog env (cal130) H130 n [.int .i64 x0]
def H285:Hints where
 loops:=fun i=>match i with
  | 1=>some ⟨[],[(0,.obj (.row 5 .u8)),(1,.val (.int .i64))],[]⟩
  | _=>none
 joins:=fun i=>match i with
  | 5=>some ⟨[],[(0,.obj (.row 5 .u8)),(1,.val (.int .i64))],[]⟩
  | 7=>some ⟨[],[(0,.obj (.row 5 .u8))],[]⟩
  | _=>none
def cal285:FuncId→Option Cal:=fun _=>none
def run285 (n:Nat) (x0:List Int) (x1:Int):Option (List AV):=rowRun Tryz.prog env (cal285) H285 (Tryz.f285.body.getD .skip) 28 4 5 .u8 n [.fs .u8 x0,.int .i64 x1]
def D270:FnD:={ body:=Tryz.f270.body.getD .skip,m:=106,ps:=[.val (.fv s93)],fs:=[],pv:=[],rs:=[(2,.obj (.row 5 .u8)),(3,.val (.int .i64))],ty:=[31,47],own:=some 0,esc:=false }
def H270:Hints where
 loops:=fun i=>match i with
  | 3=>some ⟨[],[(0,.val (.fv s93)),(4,.obj (.row 5 .u8)),(9,.val (.fv s93)),(10,.val (.int .i64)),(11,.val (.int .i64))],[]⟩
  | 12=>some ⟨[],[(0,.val (.fv s93)),(4,.obj (.row 5 .u8)),(6,.keep (.box s93)),(9,.val (.fv s93)),(10,.val (.int .i64)),(11,.val (.int .i64)),(77,.val (.fs .u8)),(78,.val (.int .i64)),(79,.val (.int .i64))],[(6,.ref (.top 6) 0)]⟩
  | _=>none
 joins:=fun i=>match i with
  | 6=>some ⟨[],[(0,.val (.fv s93)),(4,.obj (.row 5 .u8)),(5,.val (.int .i64)),(6,.keep (.box s93)),(9,.val (.fv s93)),(10,.val (.int .i64)),(11,.val (.int .i64)),(16,.val .bool)],[(6,.ref (.top 6) 0)]⟩
  | 10=>some ⟨[],[(0,.val (.fv s93)),(4,.obj (.row 5 .u8)),(6,.keep (.box s93)),(9,.val (.fv s93)),(10,.val (.int .i64)),(11,.val (.int .i64)),(58,.val .bool)],[(6,.ref (.top 6) 0)]⟩
  | 11=>some ⟨[],[(0,.val (.fv s93)),(4,.obj (.row 5 .u8)),(6,.keep (.box s93)),(9,.val (.fv s93)),(10,.val (.int .i64)),(11,.val (.int .i64))],[(6,.ref (.top 6) 0)]⟩
  | 17=>some ⟨[],[(0,.val (.fv s93)),(4,.obj (.row 5 .u8)),(6,.keep (.box s93)),(9,.val (.fv s93)),(10,.val (.int .i64)),(11,.val (.int .i64))],[(6,.ref (.top 6) 0)]⟩
  | 20=>some ⟨[],[(0,.val (.fv s93)),(4,.obj (.row 5 .u8)),(9,.val (.fv s93)),(10,.val (.int .i64)),(11,.val (.int .i64))],[]⟩
  | 21=>some ⟨[],[(4,.obj (.row 5 .u8))],[]⟩
  | 22=>some ⟨[],[(4,.obj (.row 5 .u8)),(104,.val .bool)],[]⟩
  | 23=>some ⟨[],[(4,.obj (.row 5 .u8))],[]⟩
  | _=>none
def cal270 (F285:Fun):FuncId→Option Cal:=fun f=>match f with | 285=>some (rowCal F285 5 .u8 31) | _=>none
def run270 (F285:Fun) (n:Nat) (x0:List AV):Option (List AV):=D270.run Tryz.prog env (cal270 F285) H270 n [.fv s93 x0]
def D245:FnD:={ body:=Tryz.f245.body.getD .skip,m:=66,ps:=[.val s124],fs:=[],pv:=[],rs:=[(2,.val (.fs .u8)),(3,.val (.int .i64))],ty:=[31,47],own:=none,esc:=true,fz:=[(2,(.fs .u8))] }
def H245:Hints where
 loops:=fun _=>none
 joins:=fun i=>match i with
  | 2=>some ⟨[],[(1,.keep (.box s124)),(4,.val .bool)],[(1,.ref (.top 1) 0)]⟩
  | 4=>some ⟨[],[(1,.keep (.box s124)),(25,.val .bool)],[(1,.ref (.top 1) 0)]⟩
  | 8=>some ⟨[],[(1,.keep (.box s124)),(46,.val .bool)],[(1,.ref (.top 1) 0)]⟩
  | 9=>some ⟨[],[(1,.keep (.box s124))],[(1,.ref (.top 1) 0)]⟩
  | _=>none
def cal245 (F130 F270:Fun):FuncId→Option Cal:=fun f=>match f with | 130=>some (mkCal D130 F130) | 270=>some (mkCal D270 F270) | _=>none
def run245 (F130 F270:Fun) (n:Nat) (x0:AV):Option (List AV):=D245.run Tryz.prog env (cal245 F130 F270) H245 n [eta s124 x0]
def D205:FnD:={ body:=Tryz.f205.body.getD .skip,m:=67,ps:=[.val (.fv s124),.val (.int .i64),.val .bool],fs:=[],pv:=[],rs:=[(6,.obj (.row 5 .u8)),(7,.val (.int .i64))],ty:=[31,47],own:=some 0,esc:=false }
def H205:Hints where
 loops:=fun i=>match i with
  | 5=>some ⟨[],[(0,.val (.fv s124)),(1,.val (.int .i64)),(2,.val .bool),(8,.obj (.row 5 .u8)),(17,.val (.fv s124)),(18,.val (.int .i64)),(19,.val (.int .i64))],[]⟩
  | _=>none
 joins:=fun i=>match i with
  | 8=>some ⟨[],[(0,.val (.fv s124)),(1,.val (.int .i64)),(2,.val .bool),(8,.obj (.row 5 .u8)),(9,.val (.int .i64)),(10,.keep (.box s124)),(17,.val (.fv s124)),(18,.val (.int .i64)),(19,.val (.int .i64)),(33,.val .bool)],[(10,.ref (.top 10) 0)]⟩
  | 9=>some ⟨[],[(0,.val (.fv s124)),(1,.val (.int .i64)),(2,.val .bool),(8,.obj (.row 5 .u8)),(9,.val (.int .i64)),(10,.keep (.box s124)),(17,.val (.fv s124)),(18,.val (.int .i64)),(19,.val (.int .i64))],[(10,.ref (.top 10) 0)]⟩
  | 15=>some ⟨[],[(0,.val (.fv s124)),(1,.val (.int .i64)),(2,.val .bool),(8,.obj (.row 5 .u8)),(11,.val (.fs .u8)),(13,.val (.int .i64)),(17,.val (.fv s124)),(18,.val (.int .i64)),(19,.val (.int .i64))],[]⟩
  | 16=>some ⟨[],[(0,.val (.fv s124)),(1,.val (.int .i64)),(2,.val .bool),(8,.obj (.row 5 .u8)),(17,.val (.fv s124)),(18,.val (.int .i64)),(19,.val (.int .i64))],[]⟩
  | 17=>some ⟨[],[(8,.obj (.row 5 .u8))],[]⟩
  | _=>none
def cal205 (F245:Fun):FuncId→Option Cal:=fun f=>match f with | 245=>some (mkCal D245 F245) | _=>none
def run205 (F245:Fun) (n:Nat) (x0:List AV) (x1:Int) (x2:Bool):Option (List AV):=D205.run Tryz.prog env (cal205 F245) H205 n [.fv s124 x0,.int .i64 x1,.bool x2]
def D180:FnD:={ body:=Tryz.f180.body.getD .skip,m:=30,ps:=[.val s36,.val (.int .i64)],fs:=[],pv:=[],rs:=[(4,.val .bool)],ty:=[4],own:=none,esc:=false }
def H180:Hints where
 loops:=fun _=>none
 joins:=fun i=>match i with
  | 2=>some ⟨[],[(1,.val (.int .i64)),(2,.keep (.box s36)),(24,.val .bool)],[(2,.ref (.top 2) 0)]⟩
  | 3=>some ⟨[],[(1,.val (.int .i64)),(2,.keep (.box s36))],[(2,.ref (.top 2) 0)]⟩
  | _=>none
def cal180:FuncId→Option Cal:=fun _=>none
def run180 (n:Nat) (x0:AV) (x1:Int):Option (List AV):=D180.run Tryz.prog env (cal180) H180 n [eta s36 x0,.int .i64 x1]
def D206:FnD:={ body:=Tryz.f206.body.getD .skip,m:=62,ps:=[.val s38],fs:=[],pv:=[],rs:=[(2,.val (.int .i64))],ty:=[47],own:=none,esc:=false }
def H206:Hints where
 loops:=fun _=>none
 joins:=fun i=>match i with
  | 3=>some ⟨[],[(1,.keep (.box s38)),(3,.keep (.box s36)),(6,.val .bool)],[(1,.ref (.top 1) 0),(3,.ref (.top 3) 0)]⟩
  | 5=>some ⟨[],[(1,.keep (.box s38)),(3,.keep (.box s36)),(15,.val .bool)],[(1,.ref (.top 1) 0),(3,.ref (.top 3) 0)]⟩
  | 9=>some ⟨[],[(29,.val .bool)],[]⟩
  | 10=>some ⟨[],[],[]⟩
  | _=>none
def cal206 (F130 F180:Fun):FuncId→Option Cal:=fun f=>match f with | 130=>some (mkCal D130 F130) | 180=>some (mkCal D180 F180) | _=>none
def run206 (F130 F180:Fun) (n:Nat) (x0:AV):Option (List AV):=D206.run Tryz.prog env (cal206 F130 F180) H206 n [eta s38 x0]
def D207:FnD:={ body:=Tryz.f207.body.getD .skip,m:=92,ps:=[.val (.fv (.fs .u8)),.val (.fs .u8)],fs:=[],pv:=[],rs:=[(4,.val (.fs .u8))],ty:=[31],own:=none,esc:=false,fz:=[(4,(.fs .u8))] }
def D159:FnD:={ body:=Tryz.f159.body.getD .skip,m:=112,ps:=[.val s38],fs:=[],pv:=[],rs:=[(2,.val (.fs .u8)),(3,.val (.int .i64))],ty:=[31,47],own:=none,esc:=true,fz:=[(2,(.fs .u8))] }
def H159:Hints where
 loops:=fun _=>none
 joins:=fun i=>match i with
  | 7=>some ⟨[],[(1,.keep (.box s38)),(5,.val (.int .i64)),(6,.val (.int .i64))],[(1,.ref (.top 1) 0)]⟩
  | 9=>some ⟨[],[(1,.keep (.box s38)),(5,.val (.int .i64)),(6,.val (.int .i64))],[(1,.ref (.top 1) 0)]⟩
  | 19=>some ⟨[],[(1,.keep (.box s38)),(5,.val (.int .i64)),(7,.obj (.row 5 .u8)),(10,.val (.int .i64))],[(1,.ref (.top 1) 0)]⟩
  | 21=>some ⟨[],[(1,.keep (.box s38)),(5,.val (.int .i64)),(7,.obj (.row 5 .u8))],[(1,.ref (.top 1) 0)]⟩
  | _=>none
def cal159 (F136 F204 F205 F206 F207:Fun):FuncId→Option Cal:=fun f=>match f with | 136=>some (mkCal D136 F136) | 204=>some (mkCal D204 F204) | 205=>some (mkCal D205 F205) | 206=>some (mkCal D206 F206) | 207=>some (mkCal D207 F207) | _=>none
def run159 (F136 F204 F205 F206 F207:Fun) (n:Nat) (x0:AV):Option (List AV):=D159.run Tryz.prog env (cal159 F136 F204 F205 F206 F207) H159 n [eta s38 x0]
def D156:FnD:={ body:=Tryz.f156.body.getD .skip,m:=11,ps:=[.val s38],fs:=[],pv:=[],rs:=[(2,.val (.int .i64))],ty:=[47],own:=none,esc:=false }
def H156:Hints where
 loops:=fun _=>none
 joins:=fun _=>none
def cal156 (F159:Fun):FuncId→Option Cal:=fun f=>match f with | 159=>some (mkCal D159 F159) | _=>none
def run156 (F159:Fun) (n:Nat) (x0:AV):Option (List AV):=D156.run Tryz.prog env (cal156 F159) H156 n [eta s38 x0]
def D107:FnD:={ body:=Tryz.f107.body.getD .skip,m:=12,ps:=[.val s46],fs:=[],pv:=[],rs:=[(2,.val (.int .i64))],ty:=[47],own:=none,esc:=false }
def H107:Hints where
 loops:=fun _=>none
 joins:=fun _=>none
def cal107 (F155 F156:Fun):FuncId→Option Cal:=fun f=>match f with | 155=>some (mkCal D155 F155) | 156=>some (mkCal D156 F156) | _=>none
def run107 (F155 F156:Fun) (n:Nat) (x0:AV):Option (List AV):=D107.run Tryz.prog env (cal107 F155 F156) H107 n [eta s46 x0]
def D108:FnD:={ body:=Tryz.f108.body.getD .skip,m:=23,ps:=[.val s46],fs:=[],pv:=[],rs:=[(2,.val (.int .i64))],ty:=[47],own:=none,esc:=false }
def H108:Hints where
 loops:=fun _=>none
 joins:=fun _=>none
def cal108 (F55 F135 F138 F140:Fun):FuncId→Option Cal:=fun f=>match f with | 55=>some (mkCal D55 F55) | 135=>some (mkCal D135 F135) | 138=>some (mkCal D138 F138) | 140=>some (mkCal D140 F140) | _=>none
def run108 (F55 F135 F138 F140:Fun) (n:Nat) (x0:AV):Option (List AV):=D108.run Tryz.prog env (cal108 F55 F135 F138 F140) H108 n [eta s46 x0]
def D158:FnD:={ body:=Tryz.f158.body.getD .skip,m:=4,ps:=[.val .bool],fs:=[],pv:=[],rs:=[(2,.val (.int .i64))],ty:=[3],own:=none,esc:=false }
def H158:Hints where
 loops:=fun _=>none
 joins:=fun _=>none
def cal158:FuncId→Option Cal:=fun _=>none
def run158 (n:Nat) (x0:Bool):Option (List AV):=D158.run Tryz.prog env (cal158) H158 n [.bool x0]
def D109:FnD:={ body:=Tryz.f109.body.getD .skip,m:=89,ps:=[.val s33],fs:=[],pv:=[],rs:=[(2,.obj (.row 5 .u8)),(3,.val (.int .i64))],ty:=[31,47],own:=some 0,esc:=false }
def H109:Hints where
 loops:=fun _=>none
 joins:=fun _=>none
def cal109 (F136 F137 F155 F157 F158:Fun):FuncId→Option Cal:=fun f=>match f with | 136=>some (mkCal D136 F136) | 137=>some (mkCal D137 F137) | 155=>some (mkCal D155 F155) | 157=>some (mkCal D157 F157) | 158=>some (mkCal D158 F158) | _=>none
def run109 (F136 F137 F155 F157 F158:Fun) (n:Nat) (x0:AV):Option (List AV):=D109.run Tryz.prog env (cal109 F136 F137 F155 F157 F158) H109 n [eta s33 x0]
def D110:FnD:={ body:=Tryz.f110.body.getD .skip,m:=8,ps:=[.val s38],fs:=[],pv:=[],rs:=[(2,.val (.fs .u8)),(3,.val (.int .i64))],ty:=[31,47],own:=none,esc:=true,fz:=[(2,(.fs .u8))] }
def H110:Hints where
 loops:=fun _=>none
 joins:=fun _=>none
def cal110 (F159:Fun):FuncId→Option Cal:=fun f=>match f with | 159=>some (mkCal D159 F159) | _=>none
def run110 (F159:Fun) (n:Nat) (x0:AV):Option (List AV):=D110.run Tryz.prog env (cal110 F159) H110 n [eta s38 x0]
def D65:FnD:={ body:=Tryz.f65.body.getD .skip,m:=50,ps:=[.val s46],fs:=[],pv:=[],rs:=[(2,.val (.fs .u8)),(3,.val (.int .i64))],ty:=[31,47],own:=none,esc:=true,fz:=[(2,(.fs .u8))] }
def H65:Hints where
 loops:=fun _=>none
 joins:=fun _=>none
def cal65 (F53 F54 F106 F107 F108 F109 F110:Fun):FuncId→Option Cal:=fun f=>match f with | 53=>some (mkCal D53 F53) | 54=>some (mkCal D54 F54) | 106=>some (mkCal D106 F106) | 107=>some (mkCal D107 F107) | 108=>some (mkCal D108 F108) | 109=>some (mkCal D109 F109) | 110=>some (mkCal D110 F110) | _=>none
def run65 (F53 F54 F106 F107 F108 F109 F110:Fun) (n:Nat) (x0:AV):Option (List AV):=D65.run Tryz.prog env (cal65 F53 F54 F106 F107 F108 F109 F110) H65 n [eta s46 x0]
def D66:FnD:={ body:=Tryz.f66.body.getD .skip,m:=8,ps:=[.val (.int .i64)],fs:=[],pv:=[],rs:=[(2,.val (.int .i64))],ty:=[3],own:=none,esc:=false }
def H66:Hints where
 loops:=fun _=>none
 joins:=fun _=>none
def cal66:FuncId→Option Cal:=fun _=>none
def run66 (n:Nat) (x0:Int):Option (List AV):=D66.run Tryz.prog env (cal66) H66 n [.int .i64 x0]
def D68:FnD:={ body:=Tryz.f68.body.getD .skip,m:=8,ps:=[.val (.fs .u8)],fs:=[],pv:=[],rs:=[(2,.obj (.row 5 .u8))],ty:=[31],own:=some 0,esc:=false }
def H68:Hints where
 loops:=fun _=>none
 joins:=fun _=>none
def cal68:FuncId→Option Cal:=fun _=>none
def run68 (n:Nat) (x0:List Int):Option (List AV):=D68.run Tryz.prog env (cal68) H68 n [.fs .u8 x0]
def D67:FnD:={ body:=Tryz.f67.body.getD .skip,m:=51,ps:=[.val s83],fs:=[],pv:=[],rs:=[(2,.obj (.row 5 .u8)),(3,.val (.int .i64))],ty:=[31,47],own:=some 0,esc:=false }
def H67:Hints where
 loops:=fun i=>match i with
  | 6=>some ⟨[],[(1,.keep (.box s83)),(5,.obj (.row 5 .u8)),(21,.val (.fv s79)),(22,.val (.int .i64)),(23,.val (.int .i64))],[(1,.ref (.top 1) 0)]⟩
  | _=>none
 joins:=fun i=>match i with
  | 11=>some ⟨[],[(1,.keep (.box s83)),(5,.obj (.row 5 .u8)),(7,.keep (.box s79)),(8,.val (.int .i64)),(21,.val (.fv s79)),(22,.val (.int .i64)),(23,.val (.int .i64))],[(1,.ref (.top 1) 0),(7,.ref (.top 7) 0)]⟩
  | 12=>some ⟨[],[(1,.keep (.box s83)),(5,.obj (.row 5 .u8)),(21,.val (.fv s79)),(22,.val (.int .i64)),(23,.val (.int .i64))],[(1,.ref (.top 1) 0)]⟩
  | 13=>some ⟨[],[(1,.keep (.box s83)),(5,.obj (.row 5 .u8))],[(1,.ref (.top 1) 0)]⟩
  | _=>none
def cal67 (F63 F68 F111:Fun):FuncId→Option Cal:=fun f=>match f with | 63=>some (mkCal D63 F63) | 68=>some (mkCal D68 F68) | 111=>some (rowCal F111 5 .u8 31) | _=>none
def run67 (F63 F68 F111:Fun) (n:Nat) (x0:AV):Option (List AV):=D67.run Tryz.prog env (cal67 F63 F68 F111) H67 n [eta s83 x0]
def D32:FnD:={ body:=Tryz.f32.body.getD .skip,m:=40,ps:=[.val s46],fs:=[],pv:=[],rs:=[(2,.obj (.row 5 .u8)),(3,.val (.int .i64))],ty:=[31,47],own:=some 0,esc:=false }
def H32:Hints where
 loops:=fun _=>none
 joins:=fun _=>none
def cal32 (F63 F64 F65 F66 F67:Fun):FuncId→Option Cal:=fun f=>match f with | 63=>some (mkCal D63 F63) | 64=>some (mkCal D64 F64) | 65=>some (mkCal D65 F65) | 66=>some (mkCal D66 F66) | 67=>some (mkCal D67 F67) | _=>none
def run32 (F63 F64 F65 F66 F67:Fun) (n:Nat) (x0:AV):Option (List AV):=D32.run Tryz.prog env (cal32 F63 F64 F65 F66 F67) H32 n [eta s46 x0]
def D33:FnD:={ body:=Tryz.f33.body.getD .skip,m:=10,ps:=[.val (.fs .u8)],fs:=[],pv:=[],rs:=[(2,.obj (.row 5 .u8))],ty:=[31],own:=some 0,esc:=false }
def H33:Hints where
 loops:=fun _=>none
 joins:=fun _=>none
def cal33 (F68:Fun):FuncId→Option Cal:=fun f=>match f with | 68=>some (mkCal D68 F68) | _=>none
def run33 (F68:Fun) (n:Nat) (x0:List Int):Option (List AV):=D33.run Tryz.prog env (cal33 F68) H33 n [.fs .u8 x0]
def D13:FnD:={ body:=Tryz.f13.body.getD .skip,m:=16,ps:=[.val s46],fs:=[],pv:=[],rs:=[(2,.obj (.row 5 .u8)),(3,.val (.int .i64))],ty:=[31,47],own:=some 0,esc:=false }
def H13:Hints where
 loops:=fun _=>none
 joins:=fun _=>none
def cal13 (F32 F33:Fun):FuncId→Option Cal:=fun f=>match f with | 32=>some (mkCal D32 F32) | 33=>some (mkCal D33 F33) | _=>none
def run13 (F32 F33:Fun) (n:Nat) (x0:AV):Option (List AV):=D13.run Tryz.prog env (cal13 F32 F33) H13 n [eta s46 x0]
def D38:FnD:={ body:=Tryz.f38.body.getD .skip,m:=80,ps:=[.val s83,.val s83],fs:=[],pv:=[],rs:=[(4,.val .bool)],ty:=[4],own:=none,esc:=false }
def H38:Hints where
 loops:=fun i=>match i with
  | 4=>some ⟨[],[(2,.keep (.box s83)),(3,.keep (.box s83)),(5,.val (.int .i64))],[(2,.ref (.top 2) 0),(3,.ref (.top 3) 0)]⟩
  | 9=>some ⟨[],[(2,.keep (.box s83)),(3,.keep (.box s83)),(6,.val (.int .i64))],[(2,.ref (.top 2) 0),(3,.ref (.top 3) 0)]⟩
  | _=>none
 joins:=fun i=>match i with
  | 2=>some ⟨[],[(2,.keep (.box s83)),(3,.keep (.box s83)),(43,.val .bool)],[(2,.ref (.top 2) 0),(3,.ref (.top 3) 0)]⟩
  | 3=>some ⟨[],[(2,.keep (.box s83)),(3,.keep (.box s83))],[(2,.ref (.top 2) 0),(3,.ref (.top 3) 0)]⟩
  | 8=>some ⟨[],[(2,.keep (.box s83)),(3,.keep (.box s83))],[(2,.ref (.top 2) 0),(3,.ref (.top 3) 0)]⟩
  | 13=>some ⟨[],[],[]⟩
  | _=>none
def cal38:FuncId→Option Cal:=fun _=>none
def D74:FnD:={ body:=Tryz.f74.body.getD .skip,m:=10,ps:=[.val (.fs .u8),.val (.fs .u8)],fs:=[],pv:=[],rs:=[(4,.val .bool)],ty:=[4],own:=none,esc:=false }
def H74:Hints where
 loops:=fun _=>none
 joins:=fun _=>none
def cal74:FuncId→Option Cal:=fun _=>none
def D73:FnD:={ body:=Tryz.f73.body.getD .skip,m:=44,ps:=[.val (.fv s93),.val (.fv s93)],fs:=[],pv:=[],rs:=[(4,.val .bool)],ty:=[4],own:=none,esc:=false }
def H73:Hints where
 loops:=fun i=>match i with
  | 4=>some ⟨[],[(0,.val (.fv s93)),(1,.val (.fv s93)),(5,.val (.int .i64))],[]⟩
  | _=>none
 joins:=fun i=>match i with
  | 5=>some ⟨[],[(0,.val (.fv s93)),(1,.val (.fv s93)),(5,.val (.int .i64))],[]⟩
  | 8=>some ⟨[],[(0,.val (.fv s93)),(1,.val (.fv s93)),(5,.val (.int .i64)),(43,.val .bool)],[]⟩
  | 9=>some ⟨[],[],[]⟩
  | _=>none
def cal73 (F74:Fun):FuncId→Option Cal:=fun f=>match f with | 74=>some (mkCal D74 F74) | _=>none
def D39:FnD:={ body:=Tryz.f39.body.getD .skip,m:=78,ps:=[.val s33,.val s33],fs:=[],pv:=[],rs:=[(4,.val .bool)],ty:=[4],own:=none,esc:=false }
def H39:Hints where
 loops:=fun _=>none
 joins:=fun i=>match i with
  | 2=>some ⟨[],[(2,.keep (.box s33)),(3,.keep (.box s33)),(65,.val .bool)],[(2,.ref (.top 2) 0),(3,.ref (.top 3) 0)]⟩
  | 3=>some ⟨[],[(2,.keep (.box s33)),(3,.keep (.box s33))],[(2,.ref (.top 2) 0),(3,.ref (.top 3) 0)]⟩
  | _=>none
def cal39 (F73 F74:Fun):FuncId→Option Cal:=fun f=>match f with | 73=>some (mkCal D73 F73) | 74=>some (mkCal D74 F74) | _=>none
def D18:FnD:={ body:=Tryz.f18.body.getD .skip,m:=10,ps:=[.val (.fs .u8),.val (.fs .u8)],fs:=[],pv:=[],rs:=[(4,.val .bool)],ty:=[4],own:=none,esc:=false }
def H18:Hints where
 loops:=fun _=>none
 joins:=fun _=>none
def cal18:FuncId→Option Cal:=fun _=>none
def D114:FnD:={ body:=Tryz.f114.body.getD .skip,m:=42,ps:=[.val (.fv s93),.val (.fv s93)],fs:=[],pv:=[],rs:=[(4,.val .bool)],ty:=[4],own:=none,esc:=false }
def H114:Hints where
 loops:=fun i=>match i with
  | 4=>some ⟨[],[(0,.val (.fv s93)),(1,.val (.fv s93)),(5,.val (.int .i64))],[]⟩
  | _=>none
 joins:=fun i=>match i with
  | 5=>some ⟨[],[(0,.val (.fv s93)),(1,.val (.fv s93)),(5,.val (.int .i64))],[]⟩
  | 7=>some ⟨[],[(0,.val (.fv s93)),(1,.val (.fv s93)),(5,.val (.int .i64)),(41,.val .bool)],[]⟩
  | 8=>some ⟨[],[],[]⟩
  | _=>none
def cal114 (F18:Fun):FuncId→Option Cal:=fun f=>match f with | 18=>some (mkCal D18 F18) | _=>none
def D75:FnD:={ body:=Tryz.f75.body.getD .skip,m:=56,ps:=[.val (.fv s124),.val (.fv s124)],fs:=[],pv:=[],rs:=[(4,.val .bool)],ty:=[4],own:=none,esc:=false }
def H75:Hints where
 loops:=fun i=>match i with
  | 4=>some ⟨[],[(0,.val (.fv s124)),(1,.val (.fv s124)),(5,.val (.int .i64))],[]⟩
  | _=>none
 joins:=fun i=>match i with
  | 5=>some ⟨[],[(0,.val (.fv s124)),(1,.val (.fv s124)),(5,.val (.int .i64))],[]⟩
  | 7=>some ⟨[],[(0,.val (.fv s124)),(1,.val (.fv s124)),(5,.val (.int .i64)),(55,.val .bool)],[]⟩
  | 8=>some ⟨[],[],[]⟩
  | _=>none
def cal75 (F18 F114:Fun):FuncId→Option Cal:=fun f=>match f with | 18=>some (mkCal D18 F18) | 114=>some (mkCal D114 F114) | _=>none
def D40:FnD:={ body:=Tryz.f40.body.getD .skip,m:=64,ps:=[.val s38,.val s38],fs:=[],pv:=[],rs:=[(4,.val .bool)],ty:=[4],own:=none,esc:=false }
def H40:Hints where
 loops:=fun _=>none
 joins:=fun i=>match i with
  | 2=>some ⟨[],[(2,.keep (.box s38)),(3,.keep (.box s38)),(51,.val .bool)],[(2,.ref (.top 2) 0),(3,.ref (.top 3) 0)]⟩
  | 3=>some ⟨[],[(2,.keep (.box s38)),(3,.keep (.box s38))],[(2,.ref (.top 2) 0),(3,.ref (.top 3) 0)]⟩
  | _=>none
def cal40 (F18 F75:Fun):FuncId→Option Cal:=fun f=>match f with | 18=>some (mkCal D18 F18) | 75=>some (mkCal D75 F75) | _=>none
def D41:FnD:={ body:=Tryz.f41.body.getD .skip,m:=59,ps:=[.val s40,.val s40],fs:=[],pv:=[],rs:=[(4,.val .bool)],ty:=[4],own:=none,esc:=false }
def H41:Hints where
 loops:=fun i=>match i with
  | 4=>some ⟨[],[(2,.keep (.box s40)),(3,.keep (.box s40)),(5,.val (.int .i64))],[(2,.ref (.top 2) 0),(3,.ref (.top 3) 0)]⟩
  | _=>none
 joins:=fun i=>match i with
  | 2=>some ⟨[],[(2,.keep (.box s40)),(3,.keep (.box s40)),(40,.val .bool)],[(2,.ref (.top 2) 0),(3,.ref (.top 3) 0)]⟩
  | 3=>some ⟨[],[(2,.keep (.box s40)),(3,.keep (.box s40))],[(2,.ref (.top 2) 0),(3,.ref (.top 3) 0)]⟩
  | 8=>some ⟨[],[],[]⟩
  | _=>none
def cal41:FuncId→Option Cal:=fun _=>none
def D42:FnD:={ body:=Tryz.f42.body.getD .skip,m:=31,ps:=[.val s42,.val s42],fs:=[],pv:=[],rs:=[(4,.val .bool)],ty:=[4],own:=none,esc:=false }
def H42:Hints where
 loops:=fun _=>none
 joins:=fun _=>none
def cal42 (F74:Fun):FuncId→Option Cal:=fun f=>match f with | 74=>some (mkCal D74 F74) | _=>none
def D43:FnD:={ body:=Tryz.f43.body.getD .skip,m:=64,ps:=[.val s44,.val s44],fs:=[],pv:=[],rs:=[(4,.val .bool)],ty:=[4],own:=none,esc:=false }
def H43:Hints where
 loops:=fun _=>none
 joins:=fun i=>match i with
  | 2=>some ⟨[],[(2,.keep (.box s44)),(3,.keep (.box s44)),(51,.val .bool)],[(2,.ref (.top 2) 0),(3,.ref (.top 3) 0)]⟩
  | 3=>some ⟨[],[(2,.keep (.box s44)),(3,.keep (.box s44))],[(2,.ref (.top 2) 0),(3,.ref (.top 3) 0)]⟩
  | _=>none
def cal43 (F73 F74:Fun):FuncId→Option Cal:=fun f=>match f with | 73=>some (mkCal D73 F73) | 74=>some (mkCal D74 F74) | _=>none
def D15:FnD:={ body:=Tryz.f15.body.getD .skip,m:=80,ps:=[.val s46,.val s46],fs:=[],pv:=[],rs:=[(4,.val .bool)],ty:=[4],own:=none,esc:=false }
def H15:Hints where
 loops:=fun _=>none
 joins:=fun i=>match i with
  | 4=>some ⟨[],[(2,.keep (.box s46)),(3,.keep (.box s46)),(45,.val .bool)],[(2,.ref (.top 2) 0),(3,.ref (.top 3) 0)]⟩
  | 5=>some ⟨[],[(2,.keep (.box s46)),(3,.keep (.box s46))],[(2,.ref (.top 2) 0),(3,.ref (.top 3) 0)]⟩
  | 6=>some ⟨[],[(2,.keep (.box s46)),(3,.keep (.box s46)),(67,.val .bool)],[(2,.ref (.top 2) 0),(3,.ref (.top 3) 0)]⟩
  | 7=>some ⟨[],[(2,.keep (.box s46)),(3,.keep (.box s46))],[(2,.ref (.top 2) 0),(3,.ref (.top 3) 0)]⟩
  | _=>none
def cal15 (F38 F39 F40 F41 F42 F43:Fun):FuncId→Option Cal:=fun f=>match f with | 38=>some (mkCal D38 F38) | 39=>some (mkCal D39 F39) | 40=>some (mkCal D40 F40) | 41=>some (mkCal D41 F41) | 42=>some (mkCal D42 F42) | 43=>some (mkCal D43 F43) | _=>none
def D17:FnD:={ body:=Tryz.f17.body.getD .skip,m:=4,ps:=[.val (.int .i64)],fs:=[],pv:=[],rs:=[(2,.val (.int .i64))],ty:=[3],own:=none,esc:=false }
def H17:Hints where
 loops:=fun _=>none
 joins:=fun _=>none
def cal17:FuncId→Option Cal:=fun _=>none
def run17 (n:Nat) (x0:Int):Option (List AV):=D17.run Tryz.prog env (cal17) H17 n [.int .i64 x0]
def D125:FnD:={ body:=Tryz.f125.body.getD .skip,m:=34,ps:=[.val (.fs .u8),.val (.int .i64),.val (.int .i64)],fs:=[],pv:=[],rs:=[(6,.val (.fs .u8))],ty:=[31],own:=none,esc:=true,fz:=[(6,(.fs .u8))] }
def H125:Hints where
 loops:=fun _=>none
 joins:=fun i=>match i with
  | 2=>some ⟨[],[(0,.val (.fs .u8)),(1,.val (.int .i64)),(2,.val (.int .i64)),(22,.val .bool)],[]⟩
  | 3=>some ⟨[],[(0,.val (.fs .u8)),(1,.val (.int .i64)),(2,.val (.int .i64))],[]⟩
  | _=>none
 pan:=fun i=>match i with
  | 2=>some (1,panU 24)
  | _=>none
def cal125:FuncId→Option Cal:=fun _=>none
def runp125 (n:Nat) (x0:List Int) (x1:Int) (x2:Int):Option Unit:=exec n 34 ⟨[],[]⟩ Tryz.prog env (cal125) H125 D125.body ⟨([.fs .u8 x0,.int .i64 x1,.int .i64 x2]:List AV)++List.replicate 31 .undef,[],[]⟩ (panK ())
def run125 (n:Nat) (x0:List Int) (x1:Int) (x2:Int):Option (List AV):=D125.run Tryz.prog env (cal125) H125 n [.fs .u8 x0,.int .i64 x1,.int .i64 x2]
def D126:FnD:={ body:=Tryz.f126.body.getD .skip,m:=19,ps:=[.val (.fs .u8),.val (.int .i64)],fs:=[],pv:=[],rs:=[(4,.val (.int .u8))],ty:=[5],own:=none,esc:=false }
def H126:Hints where
 loops:=fun _=>none
 joins:=fun i=>match i with
  | 2=>some ⟨[],[(0,.val (.fs .u8)),(1,.val (.int .i64)),(12,.val .bool)],[]⟩
  | 3=>some ⟨[],[(0,.val (.fs .u8)),(1,.val (.int .i64))],[]⟩
  | _=>none
 pan:=fun i=>match i with
  | 2=>some (1,panU 14)
  | _=>none
def cal126:FuncId→Option Cal:=fun _=>none
def runp126 (n:Nat) (x0:List Int) (x1:Int):Option Unit:=exec n 19 ⟨[],[]⟩ Tryz.prog env (cal126) H126 D126.body ⟨([.fs .u8 x0,.int .i64 x1]:List AV)++List.replicate 17 .undef,[],[]⟩ (panK ())
def run126 (n:Nat) (x0:List Int) (x1:Int):Option (List AV):=D126.run Tryz.prog env (cal126) H126 n [.fs .u8 x0,.int .i64 x1]
def D83:FnD:={ body:=Tryz.f83.body.getD .skip,m:=63,ps:=[.val (.fs .u8),.val (.int .i64),.val (.fs .i64)],fs:=[],pv:=[],rs:=[(6,.cell (.fs .i64) 142),(7,.cell (.int .i64) 3),(8,.cell (.int .i64) 47)],ty:=[142,3,47],own:=none,esc:=true,fzc:=[(6,(.fs .i64))] }
def H83:Hints where
 loops:=fun i=>match i with
  | 8=>some ⟨[],[(1,.val (.int .i64)),(6,.keepR (.row 3 .i64)),(7,.keep (.box (.int .i64))),(8,.keep (.box (.int .i64))),(9,.val (.int .i64)),(10,.val (.fs .u8)),(11,.val (.int .i64)),(28,.val (.fs .i64)),(29,.val (.int .i64)),(30,.val (.int .i64))],[(6,.ref (.top 6) 0),(7,.ref (.top 7) 0),(8,.ref (.top 8) 0)]⟩
  | 12=>some ⟨[],[(1,.val (.int .i64)),(6,.keepR (.row 3 .i64)),(7,.keep (.box (.int .i64))),(8,.keep (.box (.int .i64))),(9,.val (.int .i64)),(10,.val (.fs .u8)),(11,.val (.int .i64)),(14,.val (.int .i64)),(28,.val (.fs .i64)),(29,.val (.int .i64)),(30,.val (.int .i64)),(34,.val (.int .i64)),(35,.val (.int .i64))],[(6,.ref (.top 6) 0),(7,.ref (.top 7) 0),(8,.ref (.top 8) 0)]⟩
  | _=>none
 joins:=fun i=>match i with
  | 16=>some ⟨[],[(1,.val (.int .i64)),(6,.keepR (.row 3 .i64)),(7,.keep (.box (.int .i64))),(8,.keep (.box (.int .i64))),(9,.val (.int .i64)),(10,.val (.fs .u8)),(11,.val (.int .i64)),(14,.val (.int .i64)),(28,.val (.fs .i64)),(29,.val (.int .i64)),(30,.val (.int .i64))],[(6,.ref (.top 6) 0),(7,.ref (.top 7) 0),(8,.ref (.top 8) 0)]⟩
  | 17=>some ⟨[],[(1,.val (.int .i64)),(6,.keepR (.row 3 .i64)),(7,.keep (.box (.int .i64))),(8,.keep (.box (.int .i64))),(9,.val (.int .i64)),(10,.val (.fs .u8)),(11,.val (.int .i64)),(28,.val (.fs .i64)),(29,.val (.int .i64)),(30,.val (.int .i64))],[(6,.ref (.top 6) 0),(7,.ref (.top 7) 0),(8,.ref (.top 8) 0)]⟩
  | 18=>some ⟨[],[(1,.val (.int .i64)),(6,.keepR (.row 3 .i64)),(7,.keep (.box (.int .i64))),(8,.keep (.box (.int .i64))),(9,.val (.int .i64))],[(6,.ref (.top 6) 0),(7,.ref (.top 7) 0),(8,.ref (.top 8) 0)]⟩
  | _=>none
 over:=fun i=>match i with
  | 4=>some (ovDfr 23 [6,7,8])
  | _=>none
 pan:=fun i=>match i with
  | 5=>some (3,panC [.fs .u8,.int .i64,.int .i64] [.tmp 24,.tmp 25,.tmp 26] B125)
  | 13=>some (5,panC [.fs .u8,.int .i64] [.tmp 39,.tmp 41] B126)
  | _=>none
def cal83 (F123 F125 F126:Fun):FuncId→Option Cal:=fun f=>match f with | 123=>some (mkCal D123 F123) | 125=>some (mkCal D125 F125) | 126=>some (mkCal D126 F126) | _=>none
def run83 (F123 F125 F126:Fun) (n:Nat) (x0:List Int) (x1:Int) (x2:List Int):Option (List AV):=D83.runR Tryz.prog env (cal83 F123 F125 F126) H83 (cloX (Tryz.f124.body.getD .skip)) 5 [6,7,8] n [.fs .u8 x0,.int .i64 x1,.fs .i64 x2]
def D84:FnD:={ body:=Tryz.f84.body.getD .skip,m:=6,ps:=[.val (.fv (.fs .u8))],fs:=[],pv:=[],rs:=[(2,.val .bool)],ty:=[4],own:=none,esc:=false }
def H84:Hints where
 loops:=fun _=>none
 joins:=fun _=>none
def cal84 (F127:Fun):FuncId→Option Cal:=fun f=>match f with | 127=>some (mkCal D127 F127) | _=>none
def run84 (F127:Fun) (n:Nat) (x0:List AV):Option (List AV):=D84.run Tryz.prog env (cal84 F127) H84 n [.fv (.fs .u8) x0]
def D58:FnD:={ body:=Tryz.f58.body.getD .skip,m:=79,ps:=[.val (.int .i64),.val s27,.val s27,.val (.fs .u8)],fs:=[],pv:=[],rs:=[(8,.cell s40 40),(9,.val (.int .i64))],ty:=[40,47],own:=none,esc:=true,fzc:=[(8,s40)] }
def H58:Hints where
 loops:=fun _=>none
 joins:=fun i=>match i with
  | 4=>some ⟨[],[(0,.val (.int .i64)),(3,.val (.fs .u8)),(5,.keep (.box s27)),(6,.keep (.box s27)),(8,.keep (.box s40)),(19,.val .bool)],[(5,.ref (.top 5) 0),(6,.ref (.top 6) 0),(8,.ref (.top 8) 0)]⟩
  | 5=>some ⟨[],[(0,.val (.int .i64)),(3,.val (.fs .u8)),(5,.keep (.box s27)),(6,.keep (.box s27)),(8,.keep (.box s40))],[(5,.ref (.top 5) 0),(6,.ref (.top 6) 0),(8,.ref (.top 8) 0)]⟩
  | _=>none
def cal58 (F83 F84 F95 F96:Fun):FuncId→Option Cal:=fun f=>match f with | 83=>some (mkCal D83 F83) | 84=>some (mkCal D84 F84) | 95=>some (mkCal D95 F95) | 96=>some (mkCal D96 F96) | _=>none
def run58 (F83 F84 F95 F96:Fun) (n:Nat) (x0:Int) (x1:AV) (x2:AV) (x3:List Int):Option (List AV):=D58.run Tryz.prog env (cal58 F83 F84 F95 F96) H58 n [.int .i64 x0,eta s27 x1,eta s27 x2,.fs .u8 x3]
def D98:FnD:={ body:=Tryz.f98.body.getD .skip,m:=28,ps:=[.val s27,.val s27,.val (.int .i64),.val (.fs .u8)],fs:=[],pv:=[],rs:=[(8,.val .bool)],ty:=[4],own:=none,esc:=false }
def H98:Hints where
 loops:=fun _=>none
 joins:=fun _=>none
def cal98 (F84 F139:Fun):FuncId→Option Cal:=fun f=>match f with | 84=>some (mkCal D84 F84) | 139=>some (mkCal D139 F139) | _=>none
def run98 (F84 F139:Fun) (n:Nat) (x0:AV) (x1:AV) (x2:Int) (x3:List Int):Option (List AV):=D98.run Tryz.prog env (cal98 F84 F139) H98 n [eta s27 x0,eta s27 x1,.int .i64 x2,.fs .u8 x3]
def D59:FnD:={ body:=Tryz.f59.body.getD .skip,m:=86,ps:=[.val s27,.val s27,.val (.fs .u8)],fs:=[],pv:=[],rs:=[(6,.cell s42 42),(7,.val (.int .i64))],ty:=[42,47],own:=none,esc:=true,fzc:=[(6,s42)] }
def H59:Hints where
 loops:=fun _=>none
 joins:=fun i=>match i with
  | 12=>some ⟨[],[(2,.val (.fs .u8)),(3,.keep (.box s27)),(4,.keep (.box s27)),(6,.keep (.box s42)),(10,.val (.fs .i64)),(13,.val (.int .i64)),(14,.val .bool),(45,.val .bool)],[(3,.ref (.top 3) 0),(4,.ref (.top 4) 0),(6,.ref (.top 6) 0)]⟩
  | 14=>some ⟨[],[(2,.val (.fs .u8)),(3,.keep (.box s27)),(4,.keep (.box s27)),(6,.keep (.box s42)),(10,.val (.fs .i64)),(13,.val (.int .i64)),(14,.val .bool),(55,.val .bool)],[(3,.ref (.top 3) 0),(4,.ref (.top 4) 0),(6,.ref (.top 6) 0)]⟩
  | 15=>some ⟨[],[(2,.val (.fs .u8)),(6,.keep (.box s42)),(10,.val (.fs .i64)),(13,.val (.int .i64)),(14,.val .bool),(55,.val .bool)],[(6,.ref (.top 6) 0)]⟩
  | 16=>some ⟨[],[(2,.val (.fs .u8)),(6,.keep (.box s42)),(10,.val (.fs .i64)),(13,.val (.int .i64)),(14,.val .bool)],[(6,.ref (.top 6) 0)]⟩
  | _=>none
def cal59 (F83 F97 F98:Fun):FuncId→Option Cal:=fun f=>match f with | 83=>some (mkCal D83 F83) | 97=>some (mkCal D97 F97) | 98=>some (mkCal D98 F98) | _=>none
def run59 (F83 F97 F98:Fun) (n:Nat) (x0:AV) (x1:AV) (x2:List Int):Option (List AV):=D59.run Tryz.prog env (cal59 F83 F97 F98) H59 n [eta s27 x0,eta s27 x1,.fs .u8 x2]
def D99:FnD:={ body:=Tryz.f99.body.getD .skip,m:=72,ps:=[.val (.fs .u8)],fs:=[],pv:=[],rs:=[(2,.obj (.rows 93 s93)),(3,.val (.int .i64))],ty:=[30,47],own:=some 0,esc:=true }
def H99:Hints where
 loops:=fun i=>match i with
  | 5=>some ⟨[],[(0,.val (.fs .u8)),(4,.obj (.rows 93 s93)),(5,.val (.int .i64))],[]⟩
  | _=>none
 joins:=fun i=>match i with
  | 14=>some ⟨[],[(0,.val (.fs .u8)),(4,.obj (.rows 93 s93)),(5,.val (.int .i64)),(6,.val (.int .i64)),(7,.val (.int .i64)),(52,.val .bool)],[]⟩
  | 15=>some ⟨[],[(0,.val (.fs .u8)),(4,.obj (.rows 93 s93)),(5,.val (.int .i64)),(6,.val (.int .i64)),(7,.val (.int .i64))],[]⟩
  | 17=>some ⟨[],[(4,.obj (.rows 93 s93))],[]⟩
  | _=>none
def cal99 (F142:Fun):FuncId→Option Cal:=fun f=>match f with | 142=>some (mkCal D142 F142) | _=>none
def run99 (F142:Fun) (n:Nat) (x0:List Int):Option (List AV):=D99.run Tryz.prog env (cal99 F142) H99 n [.fs .u8 x0]
def D60:FnD:={ body:=Tryz.f60.body.getD .skip,m:=102,ps:=[.val s27,.val s27,.val (.fs .u8)],fs:=[],pv:=[],rs:=[(6,.cell s44 44),(7,.val (.int .i64))],ty:=[44,47],own:=none,esc:=true,fzc:=[(6,s44)] }
def H60:Hints where
 loops:=fun _=>none
 joins:=fun i=>match i with
  | 12=>some ⟨[],[(2,.val (.fs .u8)),(3,.keep (.box s27)),(4,.keep (.box s27)),(6,.keep (.box s44)),(10,.val (.fs .i64)),(13,.val (.int .i64)),(43,.val .bool)],[(3,.ref (.top 3) 0),(4,.ref (.top 4) 0),(6,.ref (.top 6) 0)]⟩
  | 15=>some ⟨[],[(2,.val (.fs .u8)),(6,.keep (.box s44)),(10,.val (.fs .i64)),(13,.val (.int .i64))],[(6,.ref (.top 6) 0)]⟩
  | _=>none
def cal60 (F83 F97 F98 F99:Fun):FuncId→Option Cal:=fun f=>match f with | 83=>some (mkCal D83 F83) | 97=>some (mkCal D97 F97) | 98=>some (mkCal D98 F98) | 99=>some (mkCal D99 F99) | _=>none
def run60 (F83 F97 F98 F99:Fun) (n:Nat) (x0:AV) (x1:AV) (x2:List Int):Option (List AV):=D60.run Tryz.prog env (cal60 F83 F97 F98 F99) H60 n [eta s27 x0,eta s27 x1,.fs .u8 x2]
def D26:FnD:={ body:=Tryz.f26.body.getD .skip,m:=82,ps:=[.val s46],fs:=[],pv:=[],rs:=[(2,.cell s46 46),(3,.val (.int .i64))],ty:=[46,47],own:=none,esc:=true,fzc:=[(2,s46)] }
def H26:Hints where
 loops:=fun _=>none
 joins:=fun i=>match i with
  | 2=>some ⟨[],[(1,.keep (.box s46)),(2,.keep (.box s46)),(20,.val .bool)],[(1,.ref (.top 1) 0),(2,.ref (.top 2) 0)]⟩
  | 3=>some ⟨[],[(1,.keep (.box s46)),(2,.keep (.box s46))],[(1,.ref (.top 1) 0),(2,.ref (.top 2) 0)]⟩
  | 19=>some ⟨[],[(1,.keep (.box s46)),(2,.keep (.box s46)),(6,.val (.int .i64))],[(1,.ref (.top 1) 0),(2,.ref (.top 2) 0)]⟩
  | _=>none
def cal26 (F54 F55 F56 F57 F58 F59 F60:Fun):FuncId→Option Cal:=fun f=>match f with | 54=>some (mkCal D54 F54) | 55=>some (mkCal D55 F55) | 56=>some (mkCal D56 F56) | 57=>some (mkCal D57 F57) | 58=>some (mkCal D58 F58) | 59=>some (mkCal D59 F59) | 60=>some (mkCal D60 F60) | _=>none
def run26 (F54 F55 F56 F57 F58 F59 F60:Fun) (n:Nat) (x0:AV):Option (List AV):=D26.run Tryz.prog env (cal26 F54 F55 F56 F57 F58 F59 F60) H26 n [eta s46 x0]
def D78:FnD:={ body:=Tryz.f78.body.getD .skip,m:=18,ps:=[.val (.fs .u8),.val (.int .i64)],fs:=[],pv:=[],rs:=[(4,.val (.int .i64))],ty:=[3],own:=none,esc:=false }
def H78:Hints where
 loops:=fun _=>none
 joins:=fun _=>none
def cal78:FuncId→Option Cal:=fun _=>none
def D49:FnD:={ body:=Tryz.f49.body.getD .skip,m:=104,ps:=[.val (.fs .u8)],fs:=[],pv:=[],rs:=[(2,.cell s83 83),(3,.val (.int .i64))],ty:=[83,47],own:=none,esc:=true,fzc:=[(2,s83)] }
def H49:Hints where
 loops:=fun i=>match i with
  | 9=>some ⟨[],[(0,.val (.fs .u8)),(2,.keep (.box s83)),(4,.keep (.box s83)),(5,.val (.int .i64))],[(2,.ref (.top 2) 0),(4,.ref (.top 4) 0)]⟩
  | _=>none
 joins:=fun i=>match i with
  | 13=>some ⟨[],[(0,.val (.fs .u8)),(2,.keep (.box s83)),(4,.keep (.box s83)),(5,.val (.int .i64)),(6,.val (.int .i64)),(41,.val .bool)],[(2,.ref (.top 2) 0),(4,.ref (.top 4) 0)]⟩
  | 16=>some ⟨[],[(0,.val (.fs .u8)),(2,.keep (.box s83)),(4,.keep (.box s83)),(5,.val (.int .i64)),(6,.val (.int .i64))],[(2,.ref (.top 2) 0),(4,.ref (.top 4) 0)]⟩
  | 22=>some ⟨[],[(0,.val (.fs .u8)),(2,.keep (.box s83)),(4,.keep (.box s83)),(5,.val (.int .i64))],[(2,.ref (.top 2) 0),(4,.ref (.top 4) 0)]⟩
  | _=>none
def cal49 (F77 F78 F79:Fun):FuncId→Option Cal:=fun f=>match f with | 77=>some (mkCal D77 F77) | 78=>some (mkCal D78 F78) | 79=>some (mkCal D79 F79) | _=>none
def D50:FnD:={ body:=Tryz.f50.body.getD .skip,m:=56,ps:=[.val (.fs .u8)],fs:=[],pv:=[],rs:=[(2,.cell s29 29),(3,.val (.int .i64))],ty:=[29,47],own:=none,esc:=false }
def D85:FnD:={ body:=Tryz.f85.body.getD .skip,m:=69,ps:=[.val (.fs .u8)],fs:=[],pv:=[],rs:=[(2,.obj (.rows 93 s93)),(3,.val (.int .i64))],ty:=[30,47],own:=some 0,esc:=true }
def H85:Hints where
 loops:=fun i=>match i with
  | 5=>some ⟨[],[(0,.val (.fs .u8)),(4,.obj (.rows 93 s93)),(5,.val (.int .i64))],[]⟩
  | _=>none
 joins:=fun i=>match i with
  | 15=>some ⟨[],[(0,.val (.fs .u8)),(4,.obj (.rows 93 s93)),(5,.val (.int .i64)),(6,.val (.int .i64)),(45,.val .bool)],[]⟩
  | 16=>some ⟨[],[(0,.val (.fs .u8)),(4,.obj (.rows 93 s93)),(5,.val (.int .i64)),(6,.val (.int .i64))],[]⟩
  | 18=>some ⟨[],[(4,.obj (.rows 93 s93))],[]⟩
  | _=>none
def cal85:FuncId→Option Cal:=fun _=>none
def D87:FnD:={ body:=Tryz.f87.body.getD .skip,m:=5,ps:=[.val (.int .i64)],fs:=[],pv:=[],rs:=[(2,.val .bool)],ty:=[4],own:=none,esc:=false }
def H87:Hints where
 loops:=fun _=>none
 joins:=fun _=>none
def cal87:FuncId→Option Cal:=fun _=>none
def D88:FnD:={ body:=Tryz.f88.body.getD .skip,m:=10,ps:=[.val (.fs .u8)],fs:=[],pv:=[],rs:=[(2,.cell s27 27)],ty:=[27],own:=none,esc:=false }
def H88:Hints where
 loops:=fun _=>none
 joins:=fun _=>none
def cal88:FuncId→Option Cal:=fun _=>none
def D51:FnD:={ body:=Tryz.f51.body.getD .skip,m:=140,ps:=[.val (.fs .u8)],fs:=[],pv:=[],rs:=[(2,.cell s33 33),(3,.val (.int .i64))],ty:=[33,47],own:=none,esc:=true,fzc:=[(2,s33)] }
def H51:Hints where
 loops:=fun _=>none
 joins:=fun i=>match i with
  | 11=>some ⟨[],[(0,.val (.fs .u8)),(2,.keep (.box s33)),(5,.val (.fs .i64)),(8,.val (.int .i64)),(9,.val (.int .i64)),(44,.val .bool)],[(2,.ref (.top 2) 0)]⟩
  | 13=>some ⟨[],[(0,.val (.fs .u8)),(2,.keep (.box s33)),(5,.val (.fs .i64)),(8,.val (.int .i64)),(9,.val (.int .i64)),(54,.val .bool)],[(2,.ref (.top 2) 0)]⟩
  | 16=>some ⟨[],[(0,.val (.fs .u8)),(2,.keep (.box s33)),(5,.val (.fs .i64)),(8,.val (.int .i64)),(9,.val (.int .i64))],[(2,.ref (.top 2) 0)]⟩
  | 19=>some ⟨[],[(0,.val (.fs .u8)),(2,.keep (.box s33)),(5,.val (.fs .i64)),(8,.val (.int .i64)),(9,.val (.int .i64)),(10,.obj (.rows 93 s93)),(11,.val (.int .i64))],[(2,.ref (.top 2) 0)]⟩
  | _=>none
def cal51 (F83 F84 F85 F86 F87 F88:Fun):FuncId→Option Cal:=fun f=>match f with | 83=>some (mkCal D83 F83) | 84=>some (mkCal D84 F84) | 85=>some (mkCal D85 F85) | 86=>some (mkCal D86 F86) | 87=>some (mkCal D87 F87) | 88=>some (mkCal D88 F88) | _=>none
def D52:FnD:={ body:=Tryz.f52.body.getD .skip,m:=62,ps:=[.val (.fs .u8)],fs:=[fam1],pv:=[],rs:=[(2,.cell s38 38),(3,.val (.int .i64))],ty:=[38,47],own:=none,esc:=true,fzc:=[(2,s38)] }
def D23:FnD:={ body:=Tryz.f23.body.getD .skip,m:=63,ps:=[.val (.fs .u8)],fs:=[fam1],pv:=[],rs:=[(2,.cell s46 46),(3,.val (.int .i64))],ty:=[46,47],own:=none,esc:=true,fzc:=[(2,s46)] }
def H23:Hints where
 loops:=fun _=>none
 joins:=fun i=>match i with
  | 16=>some ⟨[fam1],[(2,.keep (.box s46)),(5,.val (.int .i64)),(6,.keep (.box s46))],[(2,.ref (.top 2) 0),(6,.ref (.top 6) 0)]⟩
  | _=>none
def cal23 (F26 F49 F50 F51 F52:Fun):FuncId→Option Cal:=fun f=>match f with | 26=>some (mkCal D26 F26) | 49=>some (mkCal D49 F49) | 50=>some (mkCal D50 F50) | 51=>some (mkCal D51 F51) | 52=>some (mkCal D52 F52) | _=>none
def D30:FnD:={ body:=Tryz.f30.body.getD .skip,m:=12,ps:=[],fs:=[],pv:=[],rs:=[(0,.cell s46 46)],ty:=[46],own:=none,esc:=true,fzc:=[(0,s46)] }
def H30:Hints where
 loops:=fun _=>none
 joins:=fun _=>none
def cal30:FuncId→Option Cal:=fun _=>none
def D44:FnD:={ body:=Tryz.f44.body.getD .skip,m:=10,ps:=[],fs:=[],pv:=[],rs:=[(0,.obj (.row 5 .u8))],ty:=[31],own:=some 0,esc:=false }
def H44:Hints where
 loops:=fun i=>match i with
  | 2=>some ⟨[],[(1,.obj (.row 5 .u8))],[]⟩
  | _=>none
 joins:=fun i=>match i with
  | 4=>some ⟨[],[(1,.obj (.row 5 .u8))],[]⟩
  | _=>none
def cal44:FuncId→Option Cal:=fun _=>none
def D76:FnD:={ body:=Tryz.f76.body.getD .skip,m:=59,ps:=[.val (.int .i64),.val (.fv (.fs .u8))],fs:=[],pv:=[],rs:=[(4,.obj (.rows 46 s46)),(5,.val (.fs .i64)),(6,.val (.int .i64))],ty:=[128,129,47],own:=some 0,esc:=true,fz:=[(5,(.fs .i64))] }
def H76:Hints where
 loops:=fun i=>match i with
  | _=>none
 joins:=fun i=>match i with
  | 2=>some ⟨[],[(0,.val (.int .i64)),(3,.keep (.box (.fv (.fs .u8)))),(19,.val .bool)],[(3,.ref (.top 3) 0)]⟩
  | 3=>some ⟨[],[(0,.val (.int .i64)),(3,.keep (.box (.fv (.fs .u8))))],[(3,.ref (.top 3) 0)]⟩
  | _=>none
def cal76:FuncId→Option Cal:=fun _=>none
def D45:FnD:={ body:=Tryz.f45.body.getD .skip,m:=63,ps:=[],fs:=[],pv:=[],rs:=[(0,.val .bool)],ty:=[4],own:=none,esc:=false }
def H45:Hints where
 loops:=fun _=>none
 joins:=fun _=>none
def cal45 (F17 F76:Fun):FuncId→Option Cal:=fun f=>match f with | 17=>some (mkCal D17 F17) | 76=>some (mkCal D76 F76) | _=>none
def D16:FnD:={ body:=Tryz.f16.body.getD .skip,m:=36,ps:=[],fs:=[fam1],pv:=[],rs:=[(0,.val .bool)],ty:=[4],own:=none,esc:=true }
def H16:Hints where
 loops:=fun _=>none
 joins:=fun _=>none
def cal16 (F13 F15 F17 F18 F23 F30 F44 F45:Fun):FuncId→Option Cal:=fun f=>match f with | 13=>some (mkCal D13 F13) | 15=>some (mkCal D15 F15) | 17=>some (mkCal D17 F17) | 18=>some (mkCal D18 F18) | 23=>some (mkCal D23 F23) | 30=>some (mkCal D30 F30) | 44=>some (mkCal D44 F44) | 45=>some (mkCal D45 F45) | _=>none
def run16 (F13 F15 F17 F18 F23 F30 F44 F45:Fun) (n:Nat) (m1:List AV):Option (List AV):=D16.run Tryz.prog env (cal16 F13 F15 F17 F18 F23 F30 F44 F45) H16 n [.tup m1]
def D3:FnD:={ body:=Tryz.f3.body.getD .skip,m:=52,ps:=[.val s46,.val s46],fs:=[],pv:=[fam1],rs:=[(4,.val .bool)],ty:=[4],own:=none,esc:=false }
def H3:Hints where
 loops:=fun _=>none
 joins:=fun i=>match i with
  | 5=>some ⟨[fam1],[(5,.obj (.row 5 .u8)),(6,.val (.int .i64)),(7,.obj (.row 5 .u8)),(8,.val (.int .i64)),(9,.val .bool),(33,.val .bool)],[]⟩
  | 6=>some ⟨[fam1],[(5,.obj (.row 5 .u8)),(6,.val (.int .i64)),(7,.obj (.row 5 .u8)),(8,.val (.int .i64)),(9,.val .bool)],[]⟩
  | _=>none
def cal3 (F13 F14 F15 F16 F17 F18:Fun):FuncId→Option Cal:=fun f=>match f with | 13=>some (mkCal D13 F13) | 14=>some (mkCal D14 F14) | 15=>some (mkCal D15 F15) | 16=>some (mkCal D16 F16) | 17=>some (mkCal D17 F17) | 18=>some (mkCal D18 F18) | _=>none
def D19:FnD:={ body:=Tryz.f19.body.getD .skip,m:=47,ps:=[.val (.fs .u8)],fs:=[],pv:=[],rs:=[(2,.val (.int .i64)),(3,.val (.int .i64))],ty:=[3,3],own:=none,esc:=false }
def H19:Hints where
 loops:=fun i=>match i with
  | 3=>some ⟨[],[(0,.val (.fs .u8)),(4,.val (.int .i64)),(5,.val (.int .i64))],[]⟩
  | _=>none
 joins:=fun i=>match i with
  | 4=>some ⟨[],[(0,.val (.fs .u8)),(4,.val (.int .i64)),(5,.val (.int .i64))],[]⟩
  | 7=>some ⟨[],[(0,.val (.fs .u8)),(4,.val (.int .i64)),(5,.val (.int .i64)),(29,.val .bool)],[]⟩
  | 8=>some ⟨[],[(0,.val (.fs .u8)),(4,.val (.int .i64))],[]⟩
  | _=>none
def cal19:FuncId→Option Cal:=fun _=>none
def run19 (n:Nat) (x0:List Int):Option (List AV):=D19.run Tryz.prog env (cal19) H19 n [.fs .u8 x0]
def D46:FnD:={ body:=Tryz.f46.body.getD .skip,m:=6,ps:=[.val s46],fs:=[],pv:=[],rs:=[(2,.val (.int .i64))],ty:=[3],own:=none,esc:=false }
def H46:Hints where
 loops:=fun _=>none
 joins:=fun _=>none
def cal46:FuncId→Option Cal:=fun _=>none
def run46 (n:Nat) (x0:AV):Option (List AV):=D46.run Tryz.prog env (cal46) H46 n [eta s46 x0]
def D47:FnD:={ body:=Tryz.f47.body.getD .skip,m:=44,ps:=[.val (.int .i64),.val (.fs .u8),.val (.int .i64),.val (.int .i64)],fs:=[],pv:=[],rs:=[(8,.val (.int .i64))],ty:=[3],own:=none,esc:=false }
def H47:Hints where
 loops:=fun i=>match i with
  | 2=>some ⟨[],[(0,.val (.int .i64)),(1,.val (.fs .u8)),(2,.val (.int .i64)),(3,.val (.int .i64)),(9,.val (.int .i64))],[]⟩
  | 7=>some ⟨[],[(0,.val (.int .i64))],[]⟩
  | _=>none
 joins:=fun i=>match i with
  | 3=>some ⟨[],[(0,.val (.int .i64)),(1,.val (.fs .u8)),(2,.val (.int .i64)),(3,.val (.int .i64)),(9,.val (.int .i64))],[]⟩
  | 7=>some ⟨[],[(0,.val (.int .i64))],[]⟩
  | 9=>some ⟨[],[(0,.val (.int .i64))],[]⟩
  | _=>none
def cal47:FuncId→Option Cal:=fun _=>none
def run47 (n:Nat) (x0:Int) (x1:List Int) (x2:Int) (x3:Int):Option (List AV):=D47.run Tryz.prog env (cal47) H47 n [.int .i64 x0,.fs .u8 x1,.int .i64 x2,.int .i64 x3]
def D48:FnD:={ body:=Tryz.f48.body.getD .skip,m:=66,ps:=[.val (.fs .u8),.val s46,.val (.int .i64),.val (.int .i64),.val (.int .i64)],fs:=[],pv:=[],rs:=[(10,.val .bool)],ty:=[4],own:=none,esc:=false }
def H48:Hints where
 loops:=fun _=>none
 joins:=fun i=>match i with
  | 5=>some ⟨[],[(0,.val (.fs .u8)),(2,.val (.int .i64)),(3,.val (.int .i64)),(4,.val (.int .i64))],[]⟩
  | 8=>some ⟨[],[(0,.val (.fs .u8)),(2,.val (.int .i64)),(3,.val (.int .i64)),(4,.val (.int .i64)),(6,.keep (.box s46)),(11,.val .bool)],[(6,.ref (.top 6) 0)]⟩
  | 9=>some ⟨[],[(0,.val (.fs .u8)),(2,.val (.int .i64)),(3,.val (.int .i64)),(4,.val (.int .i64)),(6,.keep (.box s46)),(11,.val .bool),(46,.val .bool)],[(6,.ref (.top 6) 0)]⟩
  | 10=>some ⟨[],[(0,.val (.fs .u8)),(2,.val (.int .i64)),(3,.val (.int .i64)),(4,.val (.int .i64))],[]⟩
  | _=>none
def cal48 (F47:Fun):FuncId→Option Cal:=fun f=>match f with | 47=>some (mkCal D47 F47) | _=>none
def run48 (F47:Fun) (n:Nat) (x0:List Int) (x1:AV) (x2:Int) (x3:Int) (x4:Int):Option (List AV):=D48.run Tryz.prog env (cal48 F47) H48 n [.fs .u8 x0,eta s46 x1,.int .i64 x2,.int .i64 x3,.int .i64 x4]
def D20:FnD:={ body:=Tryz.f20.body.getD .skip,m:=91,ps:=[.val (.fs .u8),.val s46,.val (.int .i64)],fs:=[],pv:=[],rs:=[(6,.val .bool),(7,.val (.int .i64))],ty:=[4,3],own:=none,esc:=false }
def H20:Hints where
 loops:=fun _=>none
 joins:=fun i=>match i with
  | 4=>some ⟨[],[(0,.val (.fs .u8)),(2,.val (.int .i64)),(4,.keep (.box s46)),(8,.val (.int .i64)),(9,.val (.int .i64)),(60,.val .bool)],[(4,.ref (.top 4) 0)]⟩
  | 5=>some ⟨[],[(0,.val (.fs .u8)),(2,.val (.int .i64)),(4,.keep (.box s46)),(8,.val (.int .i64)),(9,.val (.int .i64))],[(4,.ref (.top 4) 0)]⟩
  | _=>none
def cal20 (F46 F47 F48:Fun):FuncId→Option Cal:=fun f=>match f with | 46=>some (mkCal D46 F46) | 47=>some (mkCal D47 F47) | 48=>some (mkCal D48 F48) | _=>none
def run20 (F46 F47 F48:Fun) (n:Nat) (x0:List Int) (x1:AV) (x2:Int):Option (List AV):=D20.run Tryz.prog env (cal20 F46 F47 F48) H20 n [.fs .u8 x0,eta s46 x1,.int .i64 x2]
def D21:FnD:={ body:=Tryz.f21.body.getD .skip,m:=123,ps:=[.val (.fs .u8),.val s46,.val (.int .i64)],fs:=[],pv:=[],rs:=[(6,.val .bool),(7,.val (.int .i64))],ty:=[4,3],own:=none,esc:=false }
def H21:Hints where
 loops:=fun i=>match i with
  | 12=>some ⟨[],[(0,.val (.fs .u8)),(2,.val (.int .i64)),(4,.keep (.box s46)),(8,.val (.int .i64)),(9,.val (.int .i64)),(10,.val (.int .i64)),(11,.val (.int .i64))],[(4,.ref (.top 4) 0)]⟩
  | _=>none
 joins:=fun i=>match i with
  | 15=>some ⟨[],[(0,.val (.fs .u8)),(2,.val (.int .i64)),(4,.keep (.box s46)),(8,.val (.int .i64)),(9,.val (.int .i64)),(10,.val (.int .i64))],[(4,.ref (.top 4) 0)]⟩
  | 16=>some ⟨[],[(0,.val (.fs .u8)),(2,.val (.int .i64)),(4,.keep (.box s46)),(8,.val (.int .i64)),(9,.val (.int .i64))],[(4,.ref (.top 4) 0)]⟩
  | 17=>some ⟨[],[(0,.val (.fs .u8)),(2,.val (.int .i64)),(4,.keep (.box s46)),(8,.val (.int .i64)),(9,.val (.int .i64)),(96,.val .bool)],[(4,.ref (.top 4) 0)]⟩
  | 18=>some ⟨[],[(0,.val (.fs .u8)),(2,.val (.int .i64)),(4,.keep (.box s46)),(8,.val (.int .i64)),(9,.val (.int .i64))],[(4,.ref (.top 4) 0)]⟩
  | _=>none
def cal21 (F47 F48:Fun):FuncId→Option Cal:=fun f=>match f with | 47=>some (mkCal D47 F47) | 48=>some (mkCal D48 F48) | _=>none
def run21 (F47 F48:Fun) (n:Nat) (x0:List Int) (x1:AV) (x2:Int):Option (List AV):=D21.run Tryz.prog env (cal21 F47 F48) H21 n [.fs .u8 x0,eta s46 x1,.int .i64 x2]
def D4:FnD:={ body:=Tryz.f4.body.getD .skip,m:=93,ps:=[.val s46],fs:=[],pv:=[fam1],rs:=[(2,.val .bool)],ty:=[4],own:=none,esc:=false }
def H4:Hints where
 loops:=fun i=>match i with
  | 19=>some ⟨[fam1],[(3,.obj (.row 5 .u8)),(9,.val (.int .i64))],[]⟩
  | _=>none
 joins:=fun i=>match i with
  | 16=>some ⟨[fam1],[(3,.obj (.row 5 .u8)),(7,.val .bool),(8,.val (.int .i64))],[]⟩
  | 17=>some ⟨[fam1],[(3,.obj (.row 5 .u8)),(8,.val (.int .i64)),(79,.val .bool)],[]⟩
  | 18=>some ⟨[fam1],[(3,.obj (.row 5 .u8)),(8,.val (.int .i64))],[]⟩
  | 23=>some ⟨[fam1],[],[]⟩
  | _=>none
def cal4 (F13 F16 F17 F19 F20 F21:Fun):FuncId→Option Cal:=fun f=>match f with | 13=>some (mkCal D13 F13) | 16=>some (mkCal D16 F16) | 17=>some (mkCal D17 F17) | 19=>some (mkCal D19 F19) | 20=>some (mkCal D20 F20) | 21=>some (mkCal D21 F21) | _=>none
def run4 (F13 F16 F17 F19 F20 F21:Fun) (n:Nat) (x0:AV):Option (List AV):=D4.run Tryz.prog env (cal4 F13 F16 F17 F19 F20 F21) H4 n [eta s46 x0]
def D22:FnD:={ body:=Tryz.f22.body.getD .skip,m:=11,ps:=[.val s46],fs:=[],pv:=[],rs:=[(2,.val (.int .i64))],ty:=[47],own:=none,esc:=false }
def H22:Hints where
 loops:=fun _=>none
 joins:=fun _=>none
def cal22 (F32:Fun):FuncId→Option Cal:=fun f=>match f with | 32=>some (mkCal D32 F32) | _=>none
def run22 (F32:Fun) (n:Nat) (x0:AV):Option (List AV):=D22.run Tryz.prog env (cal22 F32) H22 n [eta s46 x0]
end
end Go.Proofs.YtlmnjnhmhacgkaaGreatDoor.Am
end
