/-
  The descriptions of the functions that are reached.
-/
import Derived.Test.YtlmnjnhmhacgkaaDoorProg
import Derived.Test.YtlmnjnhmhacgkaaDoorAmG
section
set_option linter.unusedVariables false
namespace Go.Proofs.YtlmnjnhmhacgkaaDoor.Am
open Go Go.Am Go.Proofs
noncomputable section
abbrev Fun:=Nat→List AV→Option (List AV)
def s27:Sh:=.agg [(.int .i64),(.arr .u8 16)]
def s29:Sh:=.agg [(.int .i64),(.arr .u8 6),s27,(.arr .u8 6),s27]
def s93:Sh:=.agg [(.int .i64),(.fs .u8)]
def s33:Sh:=.agg [(.int .i64),(.int .i64),.bool,.bool,(.int .i64),(.int .i64),(.int .i64),s27,s27,(.fv s93),(.fs .u8)]
def s36:Sh:=.agg [.bool,.bool,(.int .i64),(.int .i64)]
def s124:Sh:=.agg [(.int .i64),(.fv s93),(.fs .u8)]
def s38:Sh:=.agg [(.int .i64),(.int .i64),(.int .i64),s27,s27,(.fv s124),s36,(.int .i64),(.fs .u8)]
def s40:Sh:=.agg [(.int .i64),(.int .i64),(.int .i64),(.int .i64),(.fs .u8)]
def s42:Sh:=.agg [(.int .i64),(.int .i64),.bool,(.fs .u8)]
def s44:Sh:=.agg [(.int .i64),(.int .i64),(.int .i64),(.int .i64),(.int .i64),(.int .i64),(.int .i64),(.fv s93),(.fs .u8)]
def s79:Sh:=.agg [(.int .i64),(.int .i64),.bool,(.int .i64)]
def s46:Sh:=.agg [(.arr .u8 6),(.arr .u8 6),(.fv s79),(.int .i64),s29,s33,s38,(.int .i64),s40,s42,s44]
def s66:Sh:=.agg [(.int .i64),s27,s27,(.int .i64),(.int .i64)]
def s104:Sh:=.agg [s27,s27,(.int .i64),(.int .i64),.bool]
def s83:Sh:=.agg [(.arr .u8 6),(.arr .u8 6),(.fv s79),(.int .i64),(.fs .u8)]
def s237:Sh:=.agg [(.int .i64),(.int .i64)]
def glob:Nat→Option AV:=fun g=>match g with
 | 0=>some (.arr .i64 12 [4,4,8,16,16,1,1,1,13,8,8,16])
 | 1=>some (.arr .i64 4 [16,16,16,16])
 | 2=>some (.arr .i64 10 [16,16,32,32,4,4,8,16,16,16])
 | 4=>some (.agg [.agg [.int .i64 0,.int .i64 1],.agg [.int .i64 43,.int .i64 2],.agg [.int .i64 44,.int .i64 3],.agg [.int .i64 60,.int .i64 1]])
 | 3=>some (.arr .u64 9 [0,0,16,8,4,17247241216,0,0,1024])
 | _=>none
def env:Env:=⟨glob,fun t=>match t with  | _=>none,fun t=>match t with  | _=>none,fun t d=>match t,d with  | _,_=>false⟩
def D904:FnD:={ body:=Tryd.f4.body.getD .skip,m:=6,ps:=[.val (.int .u8)],fs:=[],pv:=[],rs:=[(2,.cell s27 27)],ty:=[27],own:=none,esc:=false }
def H904:Hints where
 loops:=fun _=>none
 joins:=fun _=>none
def cal904:FuncId→Option Cal:=fun _=>none
def run904 (n:Nat) (x0:Int):Option (List AV):=D904.run Tryd.prog env (cal904) H904 n [.int .u8 x0]
def D55:FnD:={ body:=Tryd.f13.body.getD .skip,m:=39,ps:=[.val s46],fs:=[],pv:=[],rs:=[(2,.cell s104 63)],ty:=[63],own:=none,esc:=false }
def H55:Hints where
 loops:=fun _=>none
 joins:=fun _=>none
def cal55:FuncId→Option Cal:=fun _=>none
def run55 (n:Nat) (x0:AV):Option (List AV):=D55.run Tryd.prog env (cal55) H55 n [eta s46 x0]
def D61:FnD:={ body:=Tryd.f14.body.getD .skip,m:=30,ps:=[.val s40,.val (.int .i64),.val (.int .i64)],fs:=[],pv:=[],rs:=[(6,.val (.int .i64)),(7,.val (.int .i64)),(8,.val .bool)],ty:=[3,3,4],own:=none,esc:=false }
def H61:Hints where
 loops:=fun _=>none
 joins:=fun i=>match i with
  | 7=>some ⟨[],[],[]⟩
  | _=>none
def cal61:FuncId→Option Cal:=fun _=>none
def run61 (n:Nat) (x0:AV) (x1:Int) (x2:Int):Option (List AV):=D61.run Tryd.prog env (cal61) H61 n [eta s40 x0,.int .i64 x1,.int .i64 x2]
def D27:FnD:={ body:=Tryd.f7.body.getD .skip,m:=71,ps:=[.val s46],fs:=[],pv:=[],rs:=[(2,.cell s66 48),(3,.val .bool)],ty:=[48,4],own:=none,esc:=false }
def H27:Hints where
 loops:=fun _=>none
 joins:=fun i=>match i with
  | 2=>some ⟨[],[(1,.keep (.box s46)),(2,.keep (.box s66)),(16,.val .bool)],[(1,.ref (.top 1) 0),(2,.ref (.top 2) 0)]⟩
  | 3=>some ⟨[],[(1,.keep (.box s46)),(2,.keep (.box s66))],[(1,.ref (.top 1) 0),(2,.ref (.top 2) 0)]⟩
  | 17=>some ⟨[],[(1,.keep (.box s46)),(2,.keep (.box s66)),(5,.keep (.box s66)),(7,.val (.int .i64)),(8,.val (.int .i64))],[(1,.ref (.top 1) 0),(2,.ref (.top 2) 0),(5,.ref (.top 5) 0)]⟩
  | 18=>some ⟨[],[(2,.keep (.box s66)),(5,.keep (.box s66)),(6,.val .bool)],[(2,.ref (.top 2) 0),(5,.ref (.top 5) 0)]⟩
  | _=>none
def cal27 (F55 F61:Fun):FuncId→Option Cal:=fun f=>match f with | 13=>some (mkCal D55 F55) | 14=>some (mkCal D61 F61) | _=>none
def run27 (F55 F61:Fun) (n:Nat) (x0:AV):Option (List AV):=D27.run Tryd.prog env (cal27 F55 F61) H27 n [eta s46 x0]
def D77:FnD:={ body:=Tryd.f35.body.getD .skip,m:=7,ps:=[.val (.arr .u8 6)],fs:=[],pv:=[],rs:=[(2,.val .bool)],ty:=[4],own:=none,esc:=false }
def H77:Hints where
 loops:=fun _=>none
 joins:=fun _=>none
def cal77:FuncId→Option Cal:=fun _=>none
def run77 (n:Nat) (x0:List Int):Option (List AV):=D77.run Tryd.prog env (cal77) H77 n [.arr .u8 6 x0]
def D79:FnD:={ body:=Tryd.f36.body.getD .skip,m:=9,ps:=[.val (.int .i64)],fs:=[],pv:=[],rs:=[(2,.val .bool)],ty:=[4],own:=none,esc:=false }
def H79:Hints where
 loops:=fun _=>none
 joins:=fun _=>none
def cal79:FuncId→Option Cal:=fun _=>none
def run79 (n:Nat) (x0:Int):Option (List AV):=D79.run Tryd.prog env (cal79) H79 n [.int .i64 x0]
def D63:FnD:={ body:=Tryd.f25.body.getD .skip,m:=85,ps:=[.val s83],fs:=[],pv:=[],rs:=[(2,.val (.int .i64))],ty:=[50],own:=none,esc:=false }
def H63:Hints where
 loops:=fun i=>match i with
  | 6=>some ⟨[],[(1,.keep (.box s83)),(15,.val (.fv s79)),(16,.val (.int .i64)),(17,.val (.int .i64))],[(1,.ref (.top 1) 0)]⟩
  | 12=>some ⟨[],[(1,.keep (.box s83)),(37,.val (.fv s79)),(38,.val (.int .i64)),(39,.val (.int .i64))],[(1,.ref (.top 1) 0)]⟩
  | _=>none
 joins:=fun i=>match i with
  | 9=>some ⟨[],[(1,.keep (.box s83)),(15,.val (.fv s79)),(16,.val (.int .i64)),(17,.val (.int .i64)),(34,.val .bool)],[(1,.ref (.top 1) 0)]⟩
  | 10=>some ⟨[],[(1,.keep (.box s83)),(15,.val (.fv s79)),(16,.val (.int .i64)),(17,.val (.int .i64))],[(1,.ref (.top 1) 0)]⟩
  | 11=>some ⟨[],[(1,.keep (.box s83))],[(1,.ref (.top 1) 0)]⟩
  | 15=>some ⟨[],[(1,.keep (.box s83)),(37,.val (.fv s79)),(38,.val (.int .i64)),(39,.val (.int .i64)),(60,.val .bool)],[(1,.ref (.top 1) 0)]⟩
  | 16=>some ⟨[],[(1,.keep (.box s83)),(37,.val (.fv s79)),(38,.val (.int .i64)),(39,.val (.int .i64))],[(1,.ref (.top 1) 0)]⟩
  | 17=>some ⟨[],[(1,.keep (.box s83))],[(1,.ref (.top 1) 0)]⟩
  | 18=>some ⟨[],[(1,.keep (.box s83)),(74,.val .bool)],[(1,.ref (.top 1) 0)]⟩
  | 19=>some ⟨[],[(1,.keep (.box s83))],[(1,.ref (.top 1) 0)]⟩
  | _=>none
def cal63 (F77 F79:Fun):FuncId→Option Cal:=fun f=>match f with | 35=>some (mkCal D77 F77) | 36=>some (mkCal D79 F79) | _=>none
def run63 (F77 F79:Fun) (n:Nat) (x0:AV):Option (List AV):=D63.run Tryd.prog env (cal63 F77 F79) H63 n [eta s83 x0]
def D34:FnD:={ body:=Tryd.f17.body.getD .skip,m:=26,ps:=[.val (.fv s79),.val (.fv s79)],fs:=[],pv:=[],rs:=[(4,.val .bool)],ty:=[4],own:=none,esc:=false }
def H34:Hints where
 loops:=fun i=>match i with
  | 4=>some ⟨[],[(0,.val (.fv s79)),(1,.val (.fv s79)),(12,.val (.int .i64)),(13,.val (.int .i64))],[]⟩
  | _=>none
 joins:=fun i=>match i with
  | 9=>some ⟨[],[],[]⟩
  | _=>none
def cal34:FuncId→Option Cal:=fun _=>none
def run34 (n:Nat) (x0:List AV) (x1:List AV):Option (List AV):=D34.run Tryd.prog env (cal34) H34 n [.fv s79 x0,.fv s79 x1]
def D70:FnD:={ body:=Tryd.f31.body.getD .skip,m:=10,ps:=[.val (.fs .u8),.val (.fs .u8)],fs:=[],pv:=[],rs:=[(4,.val .bool)],ty:=[4],own:=none,esc:=false }
def H70:Hints where
 loops:=fun _=>none
 joins:=fun _=>none
def cal70:FuncId→Option Cal:=fun _=>none
def run70 (n:Nat) (x0:List Int) (x1:List Int):Option (List AV):=D70.run Tryd.prog env (cal70) H70 n [.fs .u8 x0,.fs .u8 x1]
def D113:FnD:={ body:=Tryd.f48.body.getD .skip,m:=17,ps:=[.val s93,.val s93],fs:=[],pv:=[],rs:=[(4,.val .bool)],ty:=[4],own:=none,esc:=false }
def H113:Hints where
 loops:=fun _=>none
 joins:=fun _=>none
def cal113 (F70:Fun):FuncId→Option Cal:=fun f=>match f with | 31=>some (mkCal D70 F70) | _=>none
def run113 (F70:Fun) (n:Nat) (x0:AV) (x1:AV):Option (List AV):=D113.run Tryd.prog env (cal113 F70) H113 n [eta s93 x0,eta s93 x1]
def D112:FnD:={ body:=Tryd.f47.body.getD .skip,m:=32,ps:=[.val (.fv s93),.val (.fv s93),.fn 48],fs:=[],pv:=[],rs:=[(6,.val .bool)],ty:=[4],own:=none,esc:=false }
def H112:Hints where
 loops:=fun i=>match i with
  | 4=>some ⟨[],[(1,.val (.fv s93)),(15,.val (.fv s93)),(16,.val (.int .i64)),(17,.val (.int .i64))],[(2,.fn 48)]⟩
  | _=>none
 joins:=fun i=>match i with
  | 10=>some ⟨[],[],[]⟩
  | _=>none
def cal112 (F113:Fun):FuncId→Option Cal:=fun f=>match f with | 48=>some (mkCal D113 F113) | _=>none
def run112 (F113:Fun) (n:Nat) (x0:List AV) (x1:List AV):Option (List AV):=D112.run Tryd.prog env (cal112 F113) H112 n [.fv s93 x0,.fv s93 x1,.nili]
def D69:FnD:={ body:=Tryd.f30.body.getD .skip,m:=8,ps:=[.val (.fv s93),.val (.fv s93)],fs:=[],pv:=[],rs:=[(4,.val .bool)],ty:=[4],own:=none,esc:=false }
def H69:Hints where
 loops:=fun _=>none
 joins:=fun _=>none
def cal69 (F112:Fun):FuncId→Option Cal:=fun f=>match f with | 47=>some (mkCal D112 F112) | _=>none
def run69 (F112:Fun) (n:Nat) (x0:List AV) (x1:List AV):Option (List AV):=D69.run Tryd.prog env (cal69 F112) H69 n [.fv s93 x0,.fv s93 x1]
def D35:FnD:={ body:=Tryd.f18.body.getD .skip,m:=78,ps:=[.val s33,.val s33],fs:=[],pv:=[],rs:=[(4,.val .bool)],ty:=[4],own:=none,esc:=false }
def H35:Hints where
 loops:=fun _=>none
 joins:=fun i=>match i with
  | 2=>some ⟨[],[(2,.keep (.box s33)),(3,.keep (.box s33)),(51,.val .bool)],[(2,.ref (.top 2) 0),(3,.ref (.top 3) 0)]⟩
  | 3=>some ⟨[],[(2,.keep (.box s33)),(3,.keep (.box s33))],[(2,.ref (.top 2) 0),(3,.ref (.top 3) 0)]⟩
  | _=>none
def cal35 (F69 F70:Fun):FuncId→Option Cal:=fun f=>match f with | 30=>some (mkCal D69 F69) | 31=>some (mkCal D70 F70) | _=>none
def run35 (F69 F70:Fun) (n:Nat) (x0:AV) (x1:AV):Option (List AV):=D35.run Tryd.prog env (cal35 F69 F70) H35 n [eta s33 x0,eta s33 x1]
def D72:FnD:={ body:=Tryd.f33.body.getD .skip,m:=24,ps:=[.val s124,.val s124],fs:=[],pv:=[],rs:=[(4,.val .bool)],ty:=[4],own:=none,esc:=false }
def H72:Hints where
 loops:=fun _=>none
 joins:=fun _=>none
def cal72 (F69 F70:Fun):FuncId→Option Cal:=fun f=>match f with | 30=>some (mkCal D69 F69) | 31=>some (mkCal D70 F70) | _=>none
def run72 (F69 F70:Fun) (n:Nat) (x0:AV) (x1:AV):Option (List AV):=D72.run Tryd.prog env (cal72 F69 F70) H72 n [eta s124 x0,eta s124 x1]
def D71:FnD:={ body:=Tryd.f32.body.getD .skip,m:=32,ps:=[.val (.fv s124),.val (.fv s124),.fn 33],fs:=[],pv:=[],rs:=[(6,.val .bool)],ty:=[4],own:=none,esc:=false }
def H71:Hints where
 loops:=fun i=>match i with
  | 4=>some ⟨[],[(1,.val (.fv s124)),(15,.val (.fv s124)),(16,.val (.int .i64)),(17,.val (.int .i64))],[(2,.fn 33)]⟩
  | _=>none
 joins:=fun i=>match i with
  | 10=>some ⟨[],[],[]⟩
  | _=>none
def cal71 (F72:Fun):FuncId→Option Cal:=fun f=>match f with | 33=>some (mkCal D72 F72) | _=>none
def run71 (F72:Fun) (n:Nat) (x0:List AV) (x1:List AV):Option (List AV):=D71.run Tryd.prog env (cal71 F72) H71 n [.fv s124 x0,.fv s124 x1,.nili]
def D36:FnD:={ body:=Tryd.f19.body.getD .skip,m:=66,ps:=[.val s38,.val s38],fs:=[],pv:=[],rs:=[(4,.val .bool)],ty:=[4],own:=none,esc:=false }
def H36:Hints where
 loops:=fun _=>none
 joins:=fun i=>match i with
  | 2=>some ⟨[],[(2,.keep (.box s38)),(3,.keep (.box s38)),(52,.val .bool)],[(2,.ref (.top 2) 0),(3,.ref (.top 3) 0)]⟩
  | 3=>some ⟨[],[(2,.keep (.box s38)),(3,.keep (.box s38))],[(2,.ref (.top 2) 0),(3,.ref (.top 3) 0)]⟩
  | _=>none
def cal36 (F70 F71:Fun):FuncId→Option Cal:=fun f=>match f with | 31=>some (mkCal D70 F70) | 32=>some (mkCal D71 F71) | _=>none
def run36 (F70 F71:Fun) (n:Nat) (x0:AV) (x1:AV):Option (List AV):=D36.run Tryd.prog env (cal36 F70 F71) H36 n [eta s38 x0,eta s38 x1]
def D37:FnD:={ body:=Tryd.f20.body.getD .skip,m:=153,ps:=[.val s46,.val s46],fs:=[],pv:=[],rs:=[(4,.val .bool)],ty:=[4],own:=none,esc:=false }
def H37:Hints where
 loops:=fun _=>none
 joins:=fun i=>match i with
  | 3=>some ⟨[],[(2,.keep (.box s46)),(3,.keep (.box s46)),(7,.val .bool)],[(2,.ref (.top 2) 0),(3,.ref (.top 3) 0)]⟩
  | 5=>some ⟨[],[(2,.keep (.box s46)),(3,.keep (.box s46)),(7,.val .bool),(10,.val .bool)],[(2,.ref (.top 2) 0),(3,.ref (.top 3) 0)]⟩
  | 7=>some ⟨[],[(7,.val .bool),(10,.val .bool),(11,.keep (.box s44)),(12,.keep (.box s44)),(13,.val .bool)],[(11,.ref (.top 11) 0),(12,.ref (.top 12) 0)]⟩
  | _=>none
def cal37 (F69 F70:Fun):FuncId→Option Cal:=fun f=>match f with | 30=>some (mkCal D69 F69) | 31=>some (mkCal D70 F70) | _=>none
def run37 (F69 F70:Fun) (n:Nat) (x0:AV) (x1:AV):Option (List AV):=D37.run Tryd.prog env (cal37 F69 F70) H37 n [eta s46 x0,eta s46 x1]
def D14:FnD:={ body:=Tryd.f10.body.getD .skip,m:=63,ps:=[.val s46,.val s46],fs:=[],pv:=[],rs:=[(4,.val .bool)],ty:=[4],own:=none,esc:=false }
def H14:Hints where
 loops:=fun _=>none
 joins:=fun i=>match i with
  | 2=>some ⟨[],[(2,.keep (.box s46)),(3,.keep (.box s46)),(45,.val .bool)],[(2,.ref (.top 2) 0),(3,.ref (.top 3) 0)]⟩
  | 3=>some ⟨[],[(2,.keep (.box s46)),(3,.keep (.box s46))],[(2,.ref (.top 2) 0),(3,.ref (.top 3) 0)]⟩
  | _=>none
def cal14 (F34 F35 F36 F37:Fun):FuncId→Option Cal:=fun f=>match f with | 17=>some (mkCal D34 F34) | 18=>some (mkCal D35 F35) | 19=>some (mkCal D36 F36) | 20=>some (mkCal D37 F37) | _=>none
def run14 (F34 F35 F36 F37:Fun) (n:Nat) (x0:AV) (x1:AV):Option (List AV):=D14.run Tryd.prog env (cal14 F34 F35 F36 F37) H14 n [eta s46 x0,eta s46 x1]
def D94:FnD:={ body:=Tryd.f49.body.getD .skip,m:=24,ps:=[.val (.int .i64),.val (.int .i64)],fs:=[],pv:=[],rs:=[(4,.val (.int .i64))],ty:=[3],own:=none,esc:=false }
def H94:Hints where
 loops:=fun _=>none
 joins:=fun i=>match i with
  | 6=>some ⟨[],[(0,.val (.int .i64)),(1,.val (.int .i64)),(11,.val .bool)],[]⟩
  | 7=>some ⟨[],[(11,.val .bool)],[]⟩
  | 8=>some ⟨[],[],[]⟩
  | _=>none
def cal94:FuncId→Option Cal:=fun _=>none
def run94 (n:Nat) (x0:Int) (x1:Int):Option (List AV):=D94.run Tryd.prog env (cal94) H94 n [.int .i64 x0,.int .i64 x1]
def D57:FnD:={ body:=Tryd.f37.body.getD .skip,m:=18,ps:=[.val s46],fs:=[],pv:=[],rs:=[(2,.val (.int .i64))],ty:=[3],own:=none,esc:=false }
def H57:Hints where
 loops:=fun _=>none
 joins:=fun i=>match i with
  | 3=>some ⟨[],[(3,.keep (.box s104)),(12,.val .bool)],[(3,.ref (.top 3) 0)]⟩
  | 4=>some ⟨[],[(3,.keep (.box s104))],[(3,.ref (.top 3) 0)]⟩
  | _=>none
def cal57 (F55 F94:Fun):FuncId→Option Cal:=fun f=>match f with | 13=>some (mkCal D55 F55) | 49=>some (mkCal D94 F94) | _=>none
def run57 (F55 F94:Fun) (n:Nat) (x0:AV):Option (List AV):=D57.run Tryd.prog env (cal57 F55 F94) H57 n [eta s46 x0]
def D56:FnD:={ body:=Tryd.f38.body.getD .skip,m:=12,ps:=[.val s46],fs:=[],pv:=[],rs:=[(2,.val (.fs .u8))],ty:=[31],own:=none,esc:=true,fz:=[(2,(.fs .u8))] }
def H56:Hints where
 loops:=fun _=>none
 joins:=fun _=>none
def cal56:FuncId→Option Cal:=fun _=>none
def run56 (n:Nat) (x0:AV):Option (List AV):=D56.run Tryd.prog env (cal56) H56 n [eta s46 x0]
def D64:FnD:={ body:=Tryd.f26.body.getD .skip,m:=99,ps:=[.val s46],fs:=[],pv:=[],rs:=[(2,.val .bool)],ty:=[4],own:=none,esc:=false }
def H64:Hints where
 loops:=fun _=>none
 joins:=fun i=>match i with
  | 2=>some ⟨[],[(1,.keep (.box s46)),(21,.val .bool)],[(1,.ref (.top 1) 0)]⟩
  | 3=>some ⟨[],[(1,.keep (.box s46))],[(1,.ref (.top 1) 0)]⟩
  | 11=>some ⟨[],[(1,.keep (.box s46)),(3,.keep (.box s46))],[(1,.ref (.top 1) 0),(3,.ref (.top 3) 0)]⟩
  | 18=>some ⟨[],[(1,.keep (.box s46)),(3,.keep (.box s46))],[(1,.ref (.top 1) 0),(3,.ref (.top 3) 0)]⟩
  | 19=>some ⟨[],[(1,.keep (.box s46)),(77,.val .bool)],[(1,.ref (.top 1) 0)]⟩
  | 20=>some ⟨[],[(1,.keep (.box s46))],[(1,.ref (.top 1) 0)]⟩
  | _=>none
def cal64 (F14 F55 F56 F57:Fun):FuncId→Option Cal:=fun f=>match f with | 10=>some (mkCal D14 F14) | 13=>some (mkCal D55 F55) | 37=>some (mkCal D57 F57) | 38=>some (mkCal D56 F56) | _=>none
def run64 (F14 F55 F56 F57:Fun) (n:Nat) (x0:AV):Option (List AV):=D64.run Tryd.prog env (cal64 F14 F55 F56 F57) H64 n [eta s46 x0]
def H111:Hints where
 loops:=fun _=>none
 joins:=fun _=>none
def cal111:FuncId→Option Cal:=fun _=>none
def run111 (n:Nat) (x0:List Int) (x1:Int):Option (List AV):=rowRun Tryd.prog env (cal111) H111 (Tryd.f46.body.getD .skip) 13 4 5 .u8 n [.fs .u8 x0,.int .i64 x1]
def D82:FnD:={ body:=Tryd.f50.body.getD .skip,m:=18,ps:=[.val (.int .i64),.val (.arr .u8 6)],fs:=[],pv:=[],rs:=[(4,.val (.int .i64))],ty:=[50],own:=none,esc:=false }
def H82:Hints where
 loops:=fun _=>none
 joins:=fun i=>match i with
  | 2=>some ⟨[],[(3,.keep (.box (.arr .u8 6))),(10,.val .bool)],[(3,.ref (.top 3) 0)]⟩
  | 3=>some ⟨[],[(3,.keep (.box (.arr .u8 6)))],[(3,.ref (.top 3) 0)]⟩
  | 4=>some ⟨[],[(17,.val .bool)],[]⟩
  | 5=>some ⟨[],[],[]⟩
  | _=>none
def cal82 (F77:Fun):FuncId→Option Cal:=fun f=>match f with | 35=>some (mkCal D77 F77) | _=>none
def run82 (F77:Fun) (n:Nat) (x0:Int) (x1:List Int):Option (List AV):=D82.run Tryd.prog env (cal82 F77) H82 n [.int .i64 x0,.arr .u8 6 x1]
def D81:FnD:={ body:=Tryd.f51.body.getD .skip,m:=17,ps:=[.val (.fs .u8)],fs:=[],pv:=[],rs:=[(2,.cell s27 27)],ty:=[27],own:=none,esc:=false }
def H81:Hints where
 loops:=fun _=>none
 joins:=fun _=>none
def cal81:FuncId→Option Cal:=fun _=>none
def run81 (n:Nat) (x0:List Int):Option (List AV):=D81.run Tryd.prog env (cal81) H81 n [.fs .u8 x0]
def D106:FnD:={ body:=Tryd.f39.body.getD .skip,m:=51,ps:=[.val s29],fs:=[],pv:=[],rs:=[(2,.obj (.row 5 .u8)),(3,.val (.int .i64))],ty:=[31,50],own:=some 0,esc:=false }
def H106:Hints where
 loops:=fun i=>match i with
  | 5=>some ⟨[],[(1,.keep (.box s29)),(20,.val (.agg (List.replicate 2 s27))),(21,.val (.int .i64))],[(1,.ref (.top 1) 0)]⟩
  | _=>none
 joins:=fun i=>match i with
  | 10=>some ⟨[],[(1,.keep (.box s29))],[(1,.ref (.top 1) 0)]⟩
  | _=>none
def cal106 (F81 F82 F111:Fun):FuncId→Option Cal:=fun f=>match f with | 46=>some (rowCal F111 5 .u8 31) | 50=>some (mkCal D82 F82) | 51=>some (mkCal D81 F81) | _=>none
def run106 (F81 F82 F111:Fun) (n:Nat) (x0:AV):Option (List AV):=D106.run Tryd.prog env (cal106 F81 F82 F111) H106 n [eta s29 x0]
def D157:FnD:={ body:=Tryd.f60.body.getD .skip,m:=61,ps:=[.val (.fv s93)],fs:=[],pv:=[],rs:=[(2,.obj (.row 5 .u8)),(3,.val (.int .i64))],ty:=[31,50],own:=some 0,esc:=false }
def H157:Hints where
 loops:=fun i=>match i with
  | 3=>some ⟨[],[(4,.obj (.row 5 .u8)),(7,.val (.fv s93)),(8,.val (.int .i64)),(9,.val (.int .i64))],[]⟩
  | 10=>some ⟨[],[(4,.obj (.row 5 .u8))],[]⟩
  | _=>none
 joins:=fun i=>match i with
  | 6=>some ⟨[],[(4,.obj (.row 5 .u8)),(6,.keep (.box s93)),(7,.val (.fv s93)),(8,.val (.int .i64)),(9,.val (.int .i64)),(36,.val .bool)],[(6,.ref (.top 6) 0)]⟩
  | 7=>some ⟨[],[(4,.obj (.row 5 .u8)),(6,.keep (.box s93)),(7,.val (.fv s93)),(8,.val (.int .i64)),(9,.val (.int .i64))],[(6,.ref (.top 6) 0)]⟩
  | 9=>some ⟨[],[(4,.obj (.row 5 .u8)),(7,.val (.fv s93)),(8,.val (.int .i64)),(9,.val (.int .i64))],[]⟩
  | 10=>some ⟨[],[(4,.obj (.row 5 .u8))],[]⟩
  | 12=>some ⟨[],[(4,.obj (.row 5 .u8))],[]⟩
  | _=>none
def cal157:FuncId→Option Cal:=fun _=>none
def run157 (n:Nat) (x0:List AV):Option (List AV):=D157.run Tryd.prog env (cal157) H157 n [.fv s93 x0]
def D202:FnD:={ body:=Tryd.f65.body.getD .skip,m:=12,ps:=[.val (.int .i64),.val (.int .i64)],fs:=[],pv:=[],rs:=[(4,.val .bool)],ty:=[4],own:=none,esc:=false }
def H202:Hints where
 loops:=fun _=>none
 joins:=fun _=>none
def cal202:FuncId→Option Cal:=fun _=>none
def run202 (n:Nat) (x0:Int) (x1:Int):Option (List AV):=D202.run Tryd.prog env (cal202) H202 n [.int .i64 x0,.int .i64 x1]
def D203:FnD:={ body:=Tryd.f66.body.getD .skip,m:=17,ps:=[.val s27],fs:=[],pv:=[],rs:=[(2,.val .bool)],ty:=[4],own:=none,esc:=false }
def H203:Hints where
 loops:=fun _=>none
 joins:=fun _=>none
def cal203:FuncId→Option Cal:=fun _=>none
def run203 (n:Nat) (x0:AV):Option (List AV):=D203.run Tryd.prog env (cal203) H203 n [eta s27 x0]
def D86:FnD:={ body:=Tryd.f67.body.getD .skip,m:=23,ps:=[.val .bool,.val (.int .i64),.val (.int .i64)],fs:=[],pv:=[],rs:=[(6,.val (.int .i64))],ty:=[50],own:=none,esc:=false }
def H86:Hints where
 loops:=fun _=>none
 joins:=fun i=>match i with
  | 2=>some ⟨[],[(22,.val .bool)],[]⟩
  | 3=>some ⟨[],[],[]⟩
  | _=>none
def cal86:FuncId→Option Cal:=fun _=>none
def run86 (n:Nat) (x0:Bool) (x1:Int) (x2:Int):Option (List AV):=D86.run Tryd.prog env (cal86) H86 n [.bool x0,.int .i64 x1,.int .i64 x2]
def D155:FnD:={ body:=Tryd.f52.body.getD .skip,m:=71,ps:=[.val s33],fs:=[],pv:=[],rs:=[(2,.val (.int .i64))],ty:=[50],own:=none,esc:=false }
def H155:Hints where
 loops:=fun _=>none
 joins:=fun i=>match i with
  | 2=>some ⟨[],[(1,.keep (.box s33)),(45,.val .bool)],[(1,.ref (.top 1) 0)]⟩
  | 3=>some ⟨[],[(1,.keep (.box s33))],[(1,.ref (.top 1) 0)]⟩
  | _=>none
def cal155 (F86 F157 F202 F203:Fun):FuncId→Option Cal:=fun f=>match f with | 60=>some (mkCal D157 F157) | 65=>some (mkCal D202 F202) | 66=>some (mkCal D203 F203) | 67=>some (mkCal D86 F86) | _=>none
def run155 (F86 F157 F202 F203:Fun) (n:Nat) (x0:AV):Option (List AV):=D155.run Tryd.prog env (cal155 F86 F157 F202 F203) H155 n [eta s33 x0]
def D123:FnD:={ body:=Tryd.f74.body.getD .skip,m:=31,ps:=[.val (.fs .i64)],fs:=[],pv:=[],rs:=[(2,.val (.int .i64)),(3,.val (.int .i64))],ty:=[3,50],own:=none,esc:=false }
def H123:Hints where
 loops:=fun i=>match i with
  | 5=>some ⟨[],[(4,.val (.int .i64)),(10,.val (.fs .i64)),(11,.val (.int .i64)),(12,.val (.int .i64))],[]⟩
  | _=>none
 joins:=fun i=>match i with
  | 8=>some ⟨[],[(4,.val (.int .i64)),(6,.val (.int .i64)),(10,.val (.fs .i64)),(11,.val (.int .i64)),(12,.val (.int .i64)),(21,.val .bool)],[]⟩
  | 9=>some ⟨[],[(4,.val (.int .i64)),(6,.val (.int .i64)),(10,.val (.fs .i64)),(11,.val (.int .i64)),(12,.val (.int .i64))],[]⟩
  | 10=>some ⟨[],[(4,.val (.int .i64)),(10,.val (.fs .i64)),(11,.val (.int .i64)),(12,.val (.int .i64))],[]⟩
  | 11=>some ⟨[],[(4,.val (.int .i64))],[]⟩
  | _=>none
def cal123:FuncId→Option Cal:=fun _=>none
def D136:FnD:={ body:=Tryd.f61.body.getD .skip,m:=77,ps:=[.val (.fs .i64),.val (.fs .i64)],fs:=[],pv:=[],rs:=[(4,.obj (.row 5 .u8)),(5,.val (.int .i64))],ty:=[31,50],own:=some 0,esc:=false }
def H136:Hints where
 loops:=fun i=>match i with
  | 9=>some ⟨[],[(1,.val (.fs .i64)),(8,.obj (.row 5 .u8)),(9,.val (.int .i64)),(29,.val (.fs .i64)),(30,.val (.int .i64)),(31,.val (.int .i64))],[]⟩
  | 15=>some ⟨[],[(1,.val (.fs .i64)),(8,.obj (.row 5 .u8)),(9,.val (.int .i64)),(12,.val (.int .i64)),(13,.val (.int .i64)),(29,.val (.fs .i64)),(30,.val (.int .i64)),(31,.val (.int .i64))],[]⟩
  | _=>none
 joins:=fun i=>match i with
  | 13=>some ⟨[],[(1,.val (.fs .i64)),(8,.obj (.row 5 .u8)),(9,.val (.int .i64)),(11,.val (.int .i64)),(12,.val (.int .i64)),(29,.val (.fs .i64)),(30,.val (.int .i64)),(31,.val (.int .i64)),(48,.val .bool)],[]⟩
  | 14=>some ⟨[],[(1,.val (.fs .i64)),(8,.obj (.row 5 .u8)),(9,.val (.int .i64)),(11,.val (.int .i64)),(12,.val (.int .i64)),(29,.val (.fs .i64)),(30,.val (.int .i64)),(31,.val (.int .i64))],[]⟩
  | 19=>some ⟨[],[(1,.val (.fs .i64)),(8,.obj (.row 5 .u8)),(9,.val (.int .i64)),(29,.val (.fs .i64)),(30,.val (.int .i64)),(31,.val (.int .i64))],[]⟩
  | 20=>some ⟨[],[(8,.obj (.row 5 .u8))],[]⟩
  | _=>none
def cal136 (F123:Fun):FuncId→Option Cal:=fun f=>match f with | 74=>some (mkCal D123 F123) | _=>none
def run136 (F123:Fun) (n:Nat) (x0:List Int) (x1:List Int):Option (List AV):=D136.run Tryd.prog env (cal136 F123) H136 n [.fs .i64 x0,.fs .i64 x1]
def D269:FnD:={ body:=Tryd.f34.body.getD .skip,m:=17,ps:=[.val s27],fs:=[],pv:=[],rs:=[(2,.val (.int .i64))],ty:=[3],own:=none,esc:=false }
def H269:Hints where
 loops:=fun _=>none
 joins:=fun i=>match i with
  | 4=>some ⟨[],[(16,.val .bool)],[]⟩
  | 5=>some ⟨[],[],[]⟩
  | _=>none
def cal269:FuncId→Option Cal:=fun _=>none
def run269 (n:Nat) (x0:AV):Option (List AV):=D269.run Tryd.prog env (cal269) H269 n [eta s27 x0]
def D244:FnD:={ body:=Tryd.f21.body.getD .skip,m:=6,ps:=[.val s27],fs:=[],pv:=[],rs:=[(2,.val .bool)],ty:=[4],own:=none,esc:=false }
def H244:Hints where
 loops:=fun _=>none
 joins:=fun _=>none
def cal244 (F269:Fun):FuncId→Option Cal:=fun f=>match f with | 34=>some (mkCal D269 F269) | _=>none
def run244 (F269:Fun) (n:Nat) (x0:AV):Option (List AV):=D244.run Tryd.prog env (cal244 F269) H244 n [eta s27 x0]
def D204:FnD:={ body:=Tryd.f76.body.getD .skip,m:=66,ps:=[.val s38],fs:=[],pv:=[],rs:=[(2,.val (.int .i64))],ty:=[50],own:=none,esc:=false }
def H204:Hints where
 loops:=fun _=>none
 joins:=fun i=>match i with
  | 2=>some ⟨[],[(1,.keep (.box s38)),(3,.val .bool)],[(1,.ref (.top 1) 0)]⟩
  | 3=>some ⟨[],[(65,.val .bool)],[]⟩
  | 4=>some ⟨[],[],[]⟩
  | _=>none
def cal204 (F244:Fun):FuncId→Option Cal:=fun f=>match f with | 21=>some (mkCal D244 F244) | _=>none
def run204 (F244:Fun) (n:Nat) (x0:AV):Option (List AV):=D204.run Tryd.prog env (cal204 F244) H204 n [eta s38 x0]
def D130:FnD:={ body:=Tryd.f84.body.getD .skip,m:=16,ps:=[.val (.int .i64)],fs:=[],pv:=[],rs:=[(2,.val (.int .i64))],ty:=[3],own:=none,esc:=false }
def H130:Hints where
 loops:=fun i=>match i with
  | 2=>some ⟨[],[(0,.val (.int .i64)),(5,.val (.agg (List.replicate 4 s237))),(6,.val (.int .i64))],[]⟩
  | _=>none
 joins:=fun i=>match i with
  | 7=>some ⟨[],[],[]⟩
  | _=>none
def cal130:FuncId→Option Cal:=fun _=>none
def run130 (n:Nat) (x0:Int):Option (List AV):=D130.run Tryd.prog env (cal130) H130 n [.int .i64 x0]
def H285:Hints where
 loops:=fun i=>match i with
  | 1=>some ⟨[],[(0,.obj (.row 5 .u8)),(1,.val (.int .i64))],[]⟩
  | _=>none
 joins:=fun i=>match i with
  | 5=>some ⟨[],[(0,.obj (.row 5 .u8)),(1,.val (.int .i64))],[]⟩
  | 7=>some ⟨[],[(0,.obj (.row 5 .u8))],[]⟩
  | _=>none
def cal285:FuncId→Option Cal:=fun _=>none
def run285 (n:Nat) (x0:List Int) (x1:Int):Option (List AV):=rowRun Tryd.prog env (cal285) H285 (Tryd.f88.body.getD .skip) 28 4 5 .u8 n [.fs .u8 x0,.int .i64 x1]
def D270:FnD:={ body:=Tryd.f87.body.getD .skip,m:=106,ps:=[.val (.fv s93)],fs:=[],pv:=[],rs:=[(2,.obj (.row 5 .u8)),(3,.val (.int .i64))],ty:=[31,50],own:=some 0,esc:=false }
def H270:Hints where
 loops:=fun i=>match i with
  | 3=>some ⟨[],[(0,.val (.fv s93)),(4,.obj (.row 5 .u8)),(9,.val (.fv s93)),(10,.val (.int .i64)),(11,.val (.int .i64))],[]⟩
  | 12=>some ⟨[],[(0,.val (.fv s93)),(4,.obj (.row 5 .u8)),(6,.keep (.box s93)),(9,.val (.fv s93)),(10,.val (.int .i64)),(11,.val (.int .i64)),(77,.val (.fs .u8)),(78,.val (.int .i64)),(79,.val (.int .i64))],[(6,.ref (.top 6) 0)]⟩
  | _=>none
 joins:=fun i=>match i with
  | 6=>some ⟨[],[(0,.val (.fv s93)),(4,.obj (.row 5 .u8)),(5,.val (.int .i64)),(6,.keep (.box s93)),(9,.val (.fv s93)),(10,.val (.int .i64)),(11,.val (.int .i64)),(16,.val .bool)],[(6,.ref (.top 6) 0)]⟩
  | 10=>some ⟨[],[(0,.val (.fv s93)),(4,.obj (.row 5 .u8)),(6,.keep (.box s93)),(9,.val (.fv s93)),(10,.val (.int .i64)),(11,.val (.int .i64)),(58,.val .bool)],[(6,.ref (.top 6) 0)]⟩
  | 11=>some ⟨[],[(0,.val (.fv s93)),(4,.obj (.row 5 .u8)),(6,.keep (.box s93)),(9,.val (.fv s93)),(10,.val (.int .i64)),(11,.val (.int .i64))],[(6,.ref (.top 6) 0)]⟩
  | 17=>some ⟨[],[(0,.val (.fv s93)),(4,.obj (.row 5 .u8)),(6,.keep (.box s93)),(9,.val (.fv s93)),(10,.val (.int .i64)),(11,.val (.int .i64))],[(6,.ref (.top 6) 0)]⟩
  | 20=>some ⟨[],[(0,.val (.fv s93)),(4,.obj (.row 5 .u8)),(9,.val (.fv s93)),(10,.val (.int .i64)),(11,.val (.int .i64))],[]⟩
  | 21=>some ⟨[],[(4,.obj (.row 5 .u8))],[]⟩
  | 22=>some ⟨[],[(4,.obj (.row 5 .u8)),(104,.val .bool)],[]⟩
  | 23=>some ⟨[],[(4,.obj (.row 5 .u8))],[]⟩
  | _=>none
def cal270 (F285:Fun):FuncId→Option Cal:=fun f=>match f with | 88=>some (rowCal F285 5 .u8 31) | _=>none
def run270 (F285:Fun) (n:Nat) (x0:List AV):Option (List AV):=D270.run Tryd.prog env (cal270 F285) H270 n [.fv s93 x0]
def D245:FnD:={ body:=Tryd.f83.body.getD .skip,m:=66,ps:=[.val s124],fs:=[],pv:=[],rs:=[(2,.val (.fs .u8)),(3,.val (.int .i64))],ty:=[31,50],own:=none,esc:=true,fz:=[(2,(.fs .u8))] }
def H245:Hints where
 loops:=fun _=>none
 joins:=fun i=>match i with
  | 2=>some ⟨[],[(1,.keep (.box s124)),(4,.val .bool)],[(1,.ref (.top 1) 0)]⟩
  | 4=>some ⟨[],[(1,.keep (.box s124)),(25,.val .bool)],[(1,.ref (.top 1) 0)]⟩
  | 8=>some ⟨[],[(1,.keep (.box s124)),(46,.val .bool)],[(1,.ref (.top 1) 0)]⟩
  | 9=>some ⟨[],[(1,.keep (.box s124))],[(1,.ref (.top 1) 0)]⟩
  | _=>none
def cal245 (F130 F270:Fun):FuncId→Option Cal:=fun f=>match f with | 84=>some (mkCal D130 F130) | 87=>some (mkCal D270 F270) | _=>none
def run245 (F130 F270:Fun) (n:Nat) (x0:AV):Option (List AV):=D245.run Tryd.prog env (cal245 F130 F270) H245 n [eta s124 x0]
def D205:FnD:={ body:=Tryd.f77.body.getD .skip,m:=67,ps:=[.val (.fv s124),.val (.int .i64),.val .bool],fs:=[],pv:=[],rs:=[(6,.obj (.row 5 .u8)),(7,.val (.int .i64))],ty:=[31,50],own:=some 0,esc:=false }
def H205:Hints where
 loops:=fun i=>match i with
  | 5=>some ⟨[],[(0,.val (.fv s124)),(1,.val (.int .i64)),(2,.val .bool),(8,.obj (.row 5 .u8)),(17,.val (.fv s124)),(18,.val (.int .i64)),(19,.val (.int .i64))],[]⟩
  | _=>none
 joins:=fun i=>match i with
  | 8=>some ⟨[],[(0,.val (.fv s124)),(1,.val (.int .i64)),(2,.val .bool),(8,.obj (.row 5 .u8)),(9,.val (.int .i64)),(10,.keep (.box s124)),(17,.val (.fv s124)),(18,.val (.int .i64)),(19,.val (.int .i64)),(33,.val .bool)],[(10,.ref (.top 10) 0)]⟩
  | 9=>some ⟨[],[(0,.val (.fv s124)),(1,.val (.int .i64)),(2,.val .bool),(8,.obj (.row 5 .u8)),(9,.val (.int .i64)),(10,.keep (.box s124)),(17,.val (.fv s124)),(18,.val (.int .i64)),(19,.val (.int .i64))],[(10,.ref (.top 10) 0)]⟩
  | 15=>some ⟨[],[(0,.val (.fv s124)),(1,.val (.int .i64)),(2,.val .bool),(8,.obj (.row 5 .u8)),(11,.val (.fs .u8)),(13,.val (.int .i64)),(17,.val (.fv s124)),(18,.val (.int .i64)),(19,.val (.int .i64))],[]⟩
  | 16=>some ⟨[],[(0,.val (.fv s124)),(1,.val (.int .i64)),(2,.val .bool),(8,.obj (.row 5 .u8)),(17,.val (.fv s124)),(18,.val (.int .i64)),(19,.val (.int .i64))],[]⟩
  | 17=>some ⟨[],[(8,.obj (.row 5 .u8))],[]⟩
  | _=>none
def cal205 (F245:Fun):FuncId→Option Cal:=fun f=>match f with | 83=>some (mkCal D245 F245) | _=>none
def run205 (F245:Fun) (n:Nat) (x0:List AV) (x1:Int) (x2:Bool):Option (List AV):=D205.run Tryd.prog env (cal205 F245) H205 n [.fv s124 x0,.int .i64 x1,.bool x2]
def D180:FnD:={ body:=Tryd.f85.body.getD .skip,m:=30,ps:=[.val s36,.val (.int .i64)],fs:=[],pv:=[],rs:=[(4,.val .bool)],ty:=[4],own:=none,esc:=false }
def H180:Hints where
 loops:=fun _=>none
 joins:=fun i=>match i with
  | 2=>some ⟨[],[(1,.val (.int .i64)),(2,.keep (.box s36)),(24,.val .bool)],[(2,.ref (.top 2) 0)]⟩
  | 3=>some ⟨[],[(1,.val (.int .i64)),(2,.keep (.box s36))],[(2,.ref (.top 2) 0)]⟩
  | _=>none
def cal180:FuncId→Option Cal:=fun _=>none
def run180 (n:Nat) (x0:AV) (x1:Int):Option (List AV):=D180.run Tryd.prog env (cal180) H180 n [eta s36 x0,.int .i64 x1]
def D206:FnD:={ body:=Tryd.f78.body.getD .skip,m:=62,ps:=[.val s38],fs:=[],pv:=[],rs:=[(2,.val (.int .i64))],ty:=[50],own:=none,esc:=false }
def H206:Hints where
 loops:=fun _=>none
 joins:=fun i=>match i with
  | 3=>some ⟨[],[(1,.keep (.box s38)),(3,.keep (.box s36)),(6,.val .bool)],[(1,.ref (.top 1) 0),(3,.ref (.top 3) 0)]⟩
  | 5=>some ⟨[],[(1,.keep (.box s38)),(3,.keep (.box s36)),(15,.val .bool)],[(1,.ref (.top 1) 0),(3,.ref (.top 3) 0)]⟩
  | 9=>some ⟨[],[(29,.val .bool)],[]⟩
  | 10=>some ⟨[],[],[]⟩
  | _=>none
def cal206 (F130 F180:Fun):FuncId→Option Cal:=fun f=>match f with | 84=>some (mkCal D130 F130) | 85=>some (mkCal D180 F180) | _=>none
def run206 (F130 F180:Fun) (n:Nat) (x0:AV):Option (List AV):=D206.run Tryd.prog env (cal206 F130 F180) H206 n [eta s38 x0]
def D207:FnD:={ body:=Tryd.f79.body.getD .skip,m:=92,ps:=[.val (.fv (.fs .u8)),.val (.fs .u8)],fs:=[],pv:=[],rs:=[(4,.val (.fs .u8))],ty:=[31],own:=none,esc:=false,fz:=[(4,(.fs .u8))] }
def D159:FnD:={ body:=Tryd.f64.body.getD .skip,m:=112,ps:=[.val s38],fs:=[],pv:=[],rs:=[(2,.val (.fs .u8)),(3,.val (.int .i64))],ty:=[31,50],own:=none,esc:=true,fz:=[(2,(.fs .u8))] }
def H159:Hints where
 loops:=fun _=>none
 joins:=fun i=>match i with
  | 7=>some ⟨[],[(1,.keep (.box s38)),(5,.val (.int .i64)),(6,.val (.int .i64))],[(1,.ref (.top 1) 0)]⟩
  | 9=>some ⟨[],[(1,.keep (.box s38)),(5,.val (.int .i64)),(6,.val (.int .i64))],[(1,.ref (.top 1) 0)]⟩
  | 19=>some ⟨[],[(1,.keep (.box s38)),(5,.val (.int .i64)),(7,.obj (.row 5 .u8)),(10,.val (.int .i64))],[(1,.ref (.top 1) 0)]⟩
  | 21=>some ⟨[],[(1,.keep (.box s38)),(5,.val (.int .i64)),(7,.obj (.row 5 .u8))],[(1,.ref (.top 1) 0)]⟩
  | _=>none
def cal159 (F136 F204 F205 F206 F207:Fun):FuncId→Option Cal:=fun f=>match f with | 61=>some (mkCal D136 F136) | 76=>some (mkCal D204 F204) | 77=>some (mkCal D205 F205) | 78=>some (mkCal D206 F206) | 79=>some (mkCal D207 F207) | _=>none
def run159 (F136 F204 F205 F206 F207:Fun) (n:Nat) (x0:AV):Option (List AV):=D159.run Tryd.prog env (cal159 F136 F204 F205 F206 F207) H159 n [eta s38 x0]
def D156:FnD:={ body:=Tryd.f53.body.getD .skip,m:=11,ps:=[.val s38],fs:=[],pv:=[],rs:=[(2,.val (.int .i64))],ty:=[50],own:=none,esc:=false }
def H156:Hints where
 loops:=fun _=>none
 joins:=fun _=>none
def cal156 (F159:Fun):FuncId→Option Cal:=fun f=>match f with | 64=>some (mkCal D159 F159) | _=>none
def run156 (F159:Fun) (n:Nat) (x0:AV):Option (List AV):=D156.run Tryd.prog env (cal156 F159) H156 n [eta s38 x0]
def D107:FnD:={ body:=Tryd.f40.body.getD .skip,m:=12,ps:=[.val s46],fs:=[],pv:=[],rs:=[(2,.val (.int .i64))],ty:=[50],own:=none,esc:=false }
def H107:Hints where
 loops:=fun _=>none
 joins:=fun _=>none
def cal107 (F155 F156:Fun):FuncId→Option Cal:=fun f=>match f with | 52=>some (mkCal D155 F155) | 53=>some (mkCal D156 F156) | _=>none
def run107 (F155 F156:Fun) (n:Nat) (x0:AV):Option (List AV):=D107.run Tryd.prog env (cal107 F155 F156) H107 n [eta s46 x0]
def D135:FnD:={ body:=Tryd.f54.body.getD .skip,m:=47,ps:=[.val s40],fs:=[],pv:=[],rs:=[(2,.val (.int .i64))],ty:=[50],own:=none,esc:=false }
def H135:Hints where
 loops:=fun _=>none
 joins:=fun i=>match i with
  | 2=>some ⟨[],[(1,.keep (.box s40)),(3,.val .bool)],[(1,.ref (.top 1) 0)]⟩
  | 4=>some ⟨[],[(1,.keep (.box s40)),(12,.val .bool)],[(1,.ref (.top 1) 0)]⟩
  | 7=>some ⟨[],[],[]⟩
  | _=>none
def cal135:FuncId→Option Cal:=fun _=>none
def run135 (n:Nat) (x0:AV):Option (List AV):=D135.run Tryd.prog env (cal135) H135 n [eta s40 x0]
def D183:FnD:={ body:=Tryd.f68.body.getD .skip,m:=12,ps:=[.val (.int .i64),.val (.int .i64)],fs:=[],pv:=[],rs:=[(4,.val .bool)],ty:=[4],own:=none,esc:=false }
def H183:Hints where
 loops:=fun _=>none
 joins:=fun _=>none
def cal183:FuncId→Option Cal:=fun _=>none
def run183 (n:Nat) (x0:Int) (x1:Int):Option (List AV):=D183.run Tryd.prog env (cal183) H183 n [.int .i64 x0,.int .i64 x1]
def D138:FnD:={ body:=Tryd.f55.body.getD .skip,m:=34,ps:=[.val (.int .i64),.val s42],fs:=[],pv:=[],rs:=[(4,.val (.int .i64))],ty:=[50],own:=none,esc:=false }
def H138:Hints where
 loops:=fun _=>none
 joins:=fun i=>match i with
  | 2=>some ⟨[],[(0,.val (.int .i64)),(3,.keep (.box s42)),(5,.val .bool)],[(3,.ref (.top 3) 0)]⟩
  | 4=>some ⟨[],[(3,.keep (.box s42)),(12,.val .bool)],[(3,.ref (.top 3) 0)]⟩
  | 7=>some ⟨[],[],[]⟩
  | _=>none
def cal138 (F183:Fun):FuncId→Option Cal:=fun f=>match f with | 68=>some (mkCal D183 F183) | _=>none
def run138 (F183:Fun) (n:Nat) (x0:Int) (x1:AV):Option (List AV):=D138.run Tryd.prog env (cal138 F183) H138 n [.int .i64 x0,eta s42 x1]
def D142:FnD:={ body:=Tryd.f80.body.getD .skip,m:=23,ps:=[.val (.int .i64),.val (.int .i64)],fs:=[],pv:=[],rs:=[(4,.val .bool)],ty:=[4],own:=none,esc:=false }
def H142:Hints where
 loops:=fun _=>none
 joins:=fun _=>none
def cal142:FuncId→Option Cal:=fun _=>none
def run142 (n:Nat) (x0:Int) (x1:Int):Option (List AV):=D142.run Tryd.prog env (cal142) H142 n [.int .i64 x0,.int .i64 x1]
def D141:FnD:={ body:=Tryd.f69.body.getD .skip,m:=65,ps:=[.val (.fv s93)],fs:=[],pv:=[],rs:=[(2,.obj (.row 5 .u8)),(3,.val (.int .i64))],ty:=[31,50],own:=some 0,esc:=false }
def H141:Hints where
 loops:=fun i=>match i with
  | 3=>some ⟨[],[(4,.obj (.row 5 .u8)),(8,.val (.fv s93)),(9,.val (.int .i64)),(10,.val (.int .i64))],[]⟩
  | 11=>some ⟨[],[(4,.obj (.row 5 .u8))],[]⟩
  | _=>none
 joins:=fun i=>match i with
  | 7=>some ⟨[],[(4,.obj (.row 5 .u8)),(6,.keep (.box s93)),(7,.val (.int .i64)),(8,.val (.fv s93)),(9,.val (.int .i64)),(10,.val (.int .i64)),(43,.val .bool)],[(6,.ref (.top 6) 0)]⟩
  | 8=>some ⟨[],[(4,.obj (.row 5 .u8)),(6,.keep (.box s93)),(7,.val (.int .i64)),(8,.val (.fv s93)),(9,.val (.int .i64)),(10,.val (.int .i64))],[(6,.ref (.top 6) 0)]⟩
  | 10=>some ⟨[],[(4,.obj (.row 5 .u8)),(8,.val (.fv s93)),(9,.val (.int .i64)),(10,.val (.int .i64))],[]⟩
  | 11=>some ⟨[],[(4,.obj (.row 5 .u8))],[]⟩
  | 13=>some ⟨[],[(4,.obj (.row 5 .u8))],[]⟩
  | _=>none
def cal141 (F142:Fun):FuncId→Option Cal:=fun f=>match f with | 80=>some (mkCal D142 F142) | _=>none
def run141 (F142:Fun) (n:Nat) (x0:List AV):Option (List AV):=D141.run Tryd.prog env (cal141 F142) H141 n [.fv s93 x0]
def D140:FnD:={ body:=Tryd.f56.body.getD .skip,m:=55,ps:=[.val s44],fs:=[],pv:=[],rs:=[(2,.val (.int .i64))],ty:=[50],own:=none,esc:=false }
def H140:Hints where
 loops:=fun _=>none
 joins:=fun i=>match i with
  | 2=>some ⟨[],[(1,.keep (.box s44)),(37,.val .bool)],[(1,.ref (.top 1) 0)]⟩
  | 3=>some ⟨[],[(1,.keep (.box s44))],[(1,.ref (.top 1) 0)]⟩
  | _=>none
def cal140 (F141 F183:Fun):FuncId→Option Cal:=fun f=>match f with | 68=>some (mkCal D183 F183) | 69=>some (mkCal D141 F141) | _=>none
def run140 (F141 F183:Fun) (n:Nat) (x0:AV):Option (List AV):=D140.run Tryd.prog env (cal140 F141 F183) H140 n [eta s44 x0]
def D108:FnD:={ body:=Tryd.f41.body.getD .skip,m:=23,ps:=[.val s46],fs:=[],pv:=[],rs:=[(2,.val (.int .i64))],ty:=[50],own:=none,esc:=false }
def H108:Hints where
 loops:=fun _=>none
 joins:=fun _=>none
def cal108 (F55 F135 F138 F140:Fun):FuncId→Option Cal:=fun f=>match f with | 13=>some (mkCal D55 F55) | 54=>some (mkCal D135 F135) | 55=>some (mkCal D138 F138) | 56=>some (mkCal D140 F140) | _=>none
def run108 (F55 F135 F138 F140:Fun) (n:Nat) (x0:AV):Option (List AV):=D108.run Tryd.prog env (cal108 F55 F135 F138 F140) H108 n [eta s46 x0]
def D178:FnD:={ body:=Tryd.f82.body.getD .skip,m:=11,ps:=[.val (.int .i64)],fs:=[],pv:=[],rs:=[(2,.val (.int .i64))],ty:=[3],own:=none,esc:=false }
def H178:Hints where
 loops:=fun i=>match i with
  | 1=>some ⟨[],[(0,.val (.int .i64))],[]⟩
  | _=>none
 joins:=fun i=>match i with
  | 3=>some ⟨[],[(0,.val (.int .i64))],[]⟩
  | _=>none
def cal178:FuncId→Option Cal:=fun _=>none
def run178 (n:Nat) (x0:Int):Option (List AV):=D178.run Tryd.prog env (cal178) H178 n [.int .i64 x0]
def D127:FnD:={ body:=Tryd.f75.body.getD .skip,m:=38,ps:=[.val (.fv (.fs .u8))],fs:=[],pv:=[],rs:=[(2,.val (.int .i64))],ty:=[3],own:=none,esc:=false }
def H127:Hints where
 loops:=fun i=>match i with
  | 3=>some ⟨[],[(3,.val (.int .i64)),(4,.val .bool),(9,.val (.fv (.fs .u8))),(10,.val (.int .i64)),(11,.val (.int .i64))],[]⟩
  | 6=>some ⟨[],[(3,.val (.int .i64)),(4,.val .bool),(9,.val (.fv (.fs .u8))),(10,.val (.int .i64)),(11,.val (.int .i64)),(15,.val (.fs .u8)),(16,.val (.int .i64)),(17,.val (.int .i64))],[]⟩
  | _=>none
 joins:=fun i=>match i with
  | 11=>some ⟨[],[(3,.val (.int .i64)),(4,.val .bool),(9,.val (.fv (.fs .u8))),(10,.val (.int .i64)),(11,.val (.int .i64)),(15,.val (.fs .u8)),(16,.val (.int .i64)),(17,.val (.int .i64))],[]⟩
  | 12=>some ⟨[],[(3,.val (.int .i64)),(4,.val .bool),(9,.val (.fv (.fs .u8))),(10,.val (.int .i64)),(11,.val (.int .i64)),(15,.val (.fs .u8)),(16,.val (.int .i64)),(17,.val (.int .i64))],[]⟩
  | 13=>some ⟨[],[(3,.val (.int .i64)),(4,.val .bool),(9,.val (.fv (.fs .u8))),(10,.val (.int .i64)),(11,.val (.int .i64))],[]⟩
  | 14=>some ⟨[],[(3,.val (.int .i64)),(4,.val .bool),(9,.val (.fv (.fs .u8))),(10,.val (.int .i64)),(11,.val (.int .i64))],[]⟩
  | 15=>some ⟨[],[(3,.val (.int .i64))],[]⟩
  | _=>none
def cal127 (F178:Fun):FuncId→Option Cal:=fun f=>match f with | 82=>some (mkCal D178 F178) | _=>none
def run127 (F178:Fun) (n:Nat) (x0:List AV):Option (List AV):=D127.run Tryd.prog env (cal127 F178) H127 n [.fv (.fs .u8) x0]
def D137:FnD:={ body:=Tryd.f63.body.getD .skip,m:=6,ps:=[.val (.fv (.fs .u8))],fs:=[],pv:=[],rs:=[(2,.val (.int .i64))],ty:=[3],own:=none,esc:=false }
def H137:Hints where
 loops:=fun _=>none
 joins:=fun _=>none
def cal137 (F127:Fun):FuncId→Option Cal:=fun f=>match f with | 75=>some (mkCal D127 F127) | _=>none
def run137 (F127:Fun) (n:Nat) (x0:List AV):Option (List AV):=D137.run Tryd.prog env (cal137 F127) H137 n [.fv (.fs .u8) x0]
def D184:FnD:={ body:=Tryd.f81.body.getD .skip,m:=29,ps:=[.val s27],fs:=[],pv:=[],rs:=[(2,.val (.int .i64))],ty:=[3],own:=none,esc:=false }
def H184:Hints where
 loops:=fun _=>none
 joins:=fun _=>none
def cal184:FuncId→Option Cal:=fun _=>none
def run184 (n:Nat) (x0:AV):Option (List AV):=D184.run Tryd.prog env (cal184) H184 n [eta s27 x0]
def D139:FnD:={ body:=Tryd.f73.body.getD .skip,m:=76,ps:=[.val s27,.val s27,.val (.int .i64),.val (.int .i64)],fs:=[],pv:=[],rs:=[(8,.obj (.row 5 .u8)),(9,.val (.int .i64))],ty:=[31,50],own:=some 0,esc:=false }
def H139:Hints where
 loops:=fun _=>none
 joins:=fun i=>match i with
  | 3=>some ⟨[],[(2,.val (.int .i64)),(3,.val (.int .i64)),(4,.keep (.box s27)),(5,.keep (.box s27)),(10,.val (.int .i64)),(14,.val .bool)],[(4,.ref (.top 4) 0),(5,.ref (.top 5) 0)]⟩
  | 5=>some ⟨[],[(2,.val (.int .i64)),(3,.val (.int .i64)),(4,.keep (.box s27)),(5,.keep (.box s27)),(10,.val (.int .i64)),(23,.val .bool)],[(4,.ref (.top 4) 0),(5,.ref (.top 5) 0)]⟩
  | 6=>some ⟨[],[(2,.val (.int .i64)),(3,.val (.int .i64)),(4,.keep (.box s27)),(5,.keep (.box s27)),(10,.val (.int .i64))],[(4,.ref (.top 4) 0),(5,.ref (.top 5) 0)]⟩
  | _=>none
def cal139 (F184:Fun):FuncId→Option Cal:=fun f=>match f with | 81=>some (mkCal D184 F184) | _=>none
def run139 (F184:Fun) (n:Nat) (x0:AV) (x1:AV) (x2:Int) (x3:Int):Option (List AV):=D139.run Tryd.prog env (cal139 F184) H139 n [eta s27 x0,eta s27 x1,.int .i64 x2,.int .i64 x3]
def D95:FnD:={ body:=Tryd.f70.body.getD .skip,m:=26,ps:=[.val (.int .i64),.val s27,.val s27,.val (.int .i64)],fs:=[],pv:=[],rs:=[(8,.obj (.row 5 .u8)),(9,.val (.int .i64))],ty:=[31,50],own:=some 0,esc:=false }
def H95:Hints where
 loops:=fun _=>none
 joins:=fun i=>match i with
  | 4=>some ⟨[],[(3,.val (.int .i64)),(5,.keep (.box s27)),(6,.keep (.box s27)),(19,.val .bool)],[(5,.ref (.top 5) 0),(6,.ref (.top 6) 0)]⟩
  | 5=>some ⟨[],[(3,.val (.int .i64)),(5,.keep (.box s27)),(6,.keep (.box s27))],[(5,.ref (.top 5) 0),(6,.ref (.top 6) 0)]⟩
  | _=>none
def cal95 (F139:Fun):FuncId→Option Cal:=fun f=>match f with | 73=>some (mkCal D139 F139) | _=>none
def run95 (F139:Fun) (n:Nat) (x0:Int) (x1:AV) (x2:AV) (x3:Int):Option (List AV):=D95.run Tryd.prog env (cal95 F139) H95 n [.int .i64 x0,eta s27 x1,eta s27 x2,.int .i64 x3]
def D96:FnD:={ body:=Tryd.f71.body.getD .skip,m:=2,ps:=[],fs:=[],pv:=[],rs:=[(0,.obj (.row 3 .i64))],ty:=[120],own:=some 0,esc:=false }
def H96:Hints where
 loops:=fun _=>none
 joins:=fun _=>none
def cal96:FuncId→Option Cal:=fun _=>none
def run96 (n:Nat):Option (List AV):=D96.run Tryd.prog env (cal96) H96 n []
def D91:FnD:={ body:=Tryd.f57.body.getD .skip,m:=67,ps:=[.val s27,.val s27,.val s40],fs:=[],pv:=[],rs:=[(6,.obj (.row 5 .u8)),(7,.val (.int .i64))],ty:=[31,50],own:=some 0,esc:=false }
def H91:Hints where
 loops:=fun _=>none
 joins:=fun _=>none
def cal91 (F95 F96 F135 F136 F137:Fun):FuncId→Option Cal:=fun f=>match f with | 54=>some (mkCal D135 F135) | 61=>some (mkCal D136 F136) | 63=>some (mkCal D137 F137) | 70=>some (mkCal D95 F95) | 71=>some (mkCal D96 F96) | _=>none
def run91 (F95 F96 F135 F136 F137:Fun) (n:Nat) (x0:AV) (x1:AV) (x2:AV):Option (List AV):=D91.run Tryd.prog env (cal91 F95 F96 F135 F136 F137) H91 n [eta s27 x0,eta s27 x1,eta s40 x2]
def D97:FnD:={ body:=Tryd.f72.body.getD .skip,m:=14,ps:=[.val s27,.val s27],fs:=[],pv:=[],rs:=[(4,.val (.int .i64))],ty:=[50],own:=none,esc:=false }
def H97:Hints where
 loops:=fun _=>none
 joins:=fun _=>none
def cal97 (F139:Fun):FuncId→Option Cal:=fun f=>match f with | 73=>some (mkCal D139 F139) | _=>none
def run97 (F139:Fun) (n:Nat) (x0:AV) (x1:AV):Option (List AV):=D97.run Tryd.prog env (cal97 F139) H97 n [eta s27 x0,eta s27 x1]
def D92:FnD:={ body:=Tryd.f58.body.getD .skip,m:=73,ps:=[.val s27,.val s27,.val s42],fs:=[],pv:=[],rs:=[(6,.obj (.row 5 .u8)),(7,.val (.int .i64))],ty:=[31,50],own:=some 0,esc:=false }
def H92:Hints where
 loops:=fun _=>none
 joins:=fun i=>match i with
  | 4=>some ⟨[],[(3,.keep (.box s27)),(4,.keep (.box s27)),(5,.keep (.box s42)),(8,.val (.int .i64))],[(3,.ref (.top 3) 0),(4,.ref (.top 4) 0),(5,.ref (.top 5) 0)]⟩
  | 15=>some ⟨[],[(10,.obj (.row 5 .u8)),(14,.val (.int .i64))],[]⟩
  | _=>none
def cal92 (F97 F136 F137 F138 F139:Fun):FuncId→Option Cal:=fun f=>match f with | 55=>some (mkCal D138 F138) | 61=>some (mkCal D136 F136) | 63=>some (mkCal D137 F137) | 72=>some (mkCal D97 F97) | 73=>some (mkCal D139 F139) | _=>none
def run92 (F97 F136 F137 F138 F139:Fun) (n:Nat) (x0:AV) (x1:AV) (x2:AV):Option (List AV):=D92.run Tryd.prog env (cal92 F97 F136 F137 F138 F139) H92 n [eta s27 x0,eta s27 x1,eta s42 x2]
def D93:FnD:={ body:=Tryd.f59.body.getD .skip,m:=87,ps:=[.val s27,.val s27,.val s44],fs:=[],pv:=[],rs:=[(6,.obj (.row 5 .u8)),(7,.val (.int .i64))],ty:=[31,50],own:=some 0,esc:=false }
def H93:Hints where
 loops:=fun _=>none
 joins:=fun i=>match i with
  | 4=>some ⟨[],[(3,.keep (.box s27)),(4,.keep (.box s27)),(5,.keep (.box s44)),(8,.val (.int .i64))],[(3,.ref (.top 3) 0),(4,.ref (.top 4) 0),(5,.ref (.top 5) 0)]⟩
  | _=>none
def cal93 (F97 F136 F137 F139 F140 F141:Fun):FuncId→Option Cal:=fun f=>match f with | 56=>some (mkCal D140 F140) | 61=>some (mkCal D136 F136) | 63=>some (mkCal D137 F137) | 69=>some (mkCal D141 F141) | 72=>some (mkCal D97 F97) | 73=>some (mkCal D139 F139) | _=>none
def run93 (F97 F136 F137 F139 F140 F141:Fun) (n:Nat) (x0:AV) (x1:AV) (x2:AV):Option (List AV):=D93.run Tryd.prog env (cal93 F97 F136 F137 F139 F140 F141) H93 n [eta s27 x0,eta s27 x1,eta s44 x2]
def D53:FnD:={ body:=Tryd.f42.body.getD .skip,m:=44,ps:=[.val s46],fs:=[],pv:=[],rs:=[(2,.val (.fs .u8)),(3,.val (.int .i64))],ty:=[31,50],own:=none,esc:=true,fz:=[(2,(.fs .u8))] }
def H53:Hints where
 loops:=fun _=>none
 joins:=fun _=>none
def cal53 (F55 F56 F91 F92 F93:Fun):FuncId→Option Cal:=fun f=>match f with | 13=>some (mkCal D55 F55) | 38=>some (mkCal D56 F56) | 57=>some (mkCal D91 F91) | 58=>some (mkCal D92 F92) | 59=>some (mkCal D93 F93) | _=>none
def run53 (F55 F56 F91 F92 F93:Fun) (n:Nat) (x0:AV):Option (List AV):=D53.run Tryd.prog env (cal53 F55 F56 F91 F92 F93) H53 n [eta s46 x0]
def D54:FnD:={ body:=Tryd.f43.body.getD .skip,m:=15,ps:=[.val s46,.val (.fs .u8)],fs:=[],pv:=[],rs:=[(4,.cell s46 46)],ty:=[46],own:=none,esc:=true,fzc:=[(4,s46)] }
def H54:Hints where
 loops:=fun _=>none
 joins:=fun i=>match i with
  | 4=>some ⟨[],[(2,.keep (.box s46)),(4,.keep (.box s46))],[(2,.ref (.top 2) 0),(4,.ref (.top 4) 0)]⟩
  | _=>none
def cal54:FuncId→Option Cal:=fun _=>none
def run54 (n:Nat) (x0:AV) (x1:List Int):Option (List AV):=D54.run Tryd.prog env (cal54) H54 n [eta s46 x0,.fs .u8 x1]
def D158:FnD:={ body:=Tryd.f62.body.getD .skip,m:=4,ps:=[.val .bool],fs:=[],pv:=[],rs:=[(2,.val (.int .i64))],ty:=[3],own:=none,esc:=false }
def H158:Hints where
 loops:=fun _=>none
 joins:=fun _=>none
def cal158:FuncId→Option Cal:=fun _=>none
def run158 (n:Nat) (x0:Bool):Option (List AV):=D158.run Tryd.prog env (cal158) H158 n [.bool x0]
def D109:FnD:={ body:=Tryd.f44.body.getD .skip,m:=89,ps:=[.val s33],fs:=[],pv:=[],rs:=[(2,.obj (.row 5 .u8)),(3,.val (.int .i64))],ty:=[31,50],own:=some 0,esc:=false }
def H109:Hints where
 loops:=fun _=>none
 joins:=fun _=>none
def cal109 (F136 F137 F155 F157 F158:Fun):FuncId→Option Cal:=fun f=>match f with | 52=>some (mkCal D155 F155) | 60=>some (mkCal D157 F157) | 61=>some (mkCal D136 F136) | 62=>some (mkCal D158 F158) | 63=>some (mkCal D137 F137) | _=>none
def run109 (F136 F137 F155 F157 F158:Fun) (n:Nat) (x0:AV):Option (List AV):=D109.run Tryd.prog env (cal109 F136 F137 F155 F157 F158) H109 n [eta s33 x0]
def D110:FnD:={ body:=Tryd.f45.body.getD .skip,m:=8,ps:=[.val s38],fs:=[],pv:=[],rs:=[(2,.val (.fs .u8)),(3,.val (.int .i64))],ty:=[31,50],own:=none,esc:=true,fz:=[(2,(.fs .u8))] }
def H110:Hints where
 loops:=fun _=>none
 joins:=fun _=>none
def cal110 (F159:Fun):FuncId→Option Cal:=fun f=>match f with | 64=>some (mkCal D159 F159) | _=>none
def run110 (F159:Fun) (n:Nat) (x0:AV):Option (List AV):=D110.run Tryd.prog env (cal110 F159) H110 n [eta s38 x0]
def D65:FnD:={ body:=Tryd.f27.body.getD .skip,m:=50,ps:=[.val s46],fs:=[],pv:=[],rs:=[(2,.val (.fs .u8)),(3,.val (.int .i64))],ty:=[31,50],own:=none,esc:=true,fz:=[(2,(.fs .u8))] }
def H65:Hints where
 loops:=fun _=>none
 joins:=fun _=>none
def cal65 (F53 F54 F106 F107 F108 F109 F110:Fun):FuncId→Option Cal:=fun f=>match f with | 39=>some (mkCal D106 F106) | 40=>some (mkCal D107 F107) | 41=>some (mkCal D108 F108) | 42=>some (mkCal D53 F53) | 43=>some (mkCal D54 F54) | 44=>some (mkCal D109 F109) | 45=>some (mkCal D110 F110) | _=>none
def run65 (F53 F54 F106 F107 F108 F109 F110:Fun) (n:Nat) (x0:AV):Option (List AV):=D65.run Tryd.prog env (cal65 F53 F54 F106 F107 F108 F109 F110) H65 n [eta s46 x0]
def D66:FnD:={ body:=Tryd.f28.body.getD .skip,m:=8,ps:=[.val (.int .i64)],fs:=[],pv:=[],rs:=[(2,.val (.int .i64))],ty:=[3],own:=none,esc:=false }
def H66:Hints where
 loops:=fun _=>none
 joins:=fun _=>none
def cal66:FuncId→Option Cal:=fun _=>none
def run66 (n:Nat) (x0:Int):Option (List AV):=D66.run Tryd.prog env (cal66) H66 n [.int .i64 x0]
def D68:FnD:={ body:=Tryd.f24.body.getD .skip,m:=8,ps:=[.val (.fs .u8)],fs:=[],pv:=[],rs:=[(2,.obj (.row 5 .u8))],ty:=[31],own:=some 0,esc:=false }
def H68:Hints where
 loops:=fun _=>none
 joins:=fun _=>none
def cal68:FuncId→Option Cal:=fun _=>none
def run68 (n:Nat) (x0:List Int):Option (List AV):=D68.run Tryd.prog env (cal68) H68 n [.fs .u8 x0]
def D68v:FnD:={ body:=Tryd.f24.body.getD .skip,m:=8,ps:=[.val (.fs .u8)],fs:=[],pv:=[],rs:=[(2,.val (.fs .u8))],ty:=[31],own:=none,esc:=true,fz:=[(2,(.fs .u8))] }
def run68v (n:Nat) (x0:List Int):Option (List AV):=D68v.run Tryd.prog env (cal68) H68 n [.fs .u8 x0]
def D67:FnD:={ body:=Tryd.f29.body.getD .skip,m:=51,ps:=[.val s83],fs:=[],pv:=[],rs:=[(2,.obj (.row 5 .u8)),(3,.val (.int .i64))],ty:=[31,50],own:=some 0,esc:=false }
def H67:Hints where
 loops:=fun i=>match i with
  | 6=>some ⟨[],[(1,.keep (.box s83)),(5,.obj (.row 5 .u8)),(21,.val (.fv s79)),(22,.val (.int .i64)),(23,.val (.int .i64))],[(1,.ref (.top 1) 0)]⟩
  | _=>none
 joins:=fun i=>match i with
  | 11=>some ⟨[],[(1,.keep (.box s83)),(5,.obj (.row 5 .u8)),(7,.keep (.box s79)),(8,.val (.int .i64)),(21,.val (.fv s79)),(22,.val (.int .i64)),(23,.val (.int .i64))],[(1,.ref (.top 1) 0),(7,.ref (.top 7) 0)]⟩
  | 12=>some ⟨[],[(1,.keep (.box s83)),(5,.obj (.row 5 .u8)),(21,.val (.fv s79)),(22,.val (.int .i64)),(23,.val (.int .i64))],[(1,.ref (.top 1) 0)]⟩
  | 13=>some ⟨[],[(1,.keep (.box s83)),(5,.obj (.row 5 .u8))],[(1,.ref (.top 1) 0)]⟩
  | _=>none
def cal67 (F63 F68 F111:Fun):FuncId→Option Cal:=fun f=>match f with | 24=>some (mkCal D68 F68) | 25=>some (mkCal D63 F63) | 46=>some (rowCal F111 5 .u8 31) | _=>none
def run67 (F63 F68 F111:Fun) (n:Nat) (x0:AV):Option (List AV):=D67.run Tryd.prog env (cal67 F63 F68 F111) H67 n [eta s83 x0]
def D32:FnD:={ body:=Tryd.f15.body.getD .skip,m:=40,ps:=[.val s46],fs:=[],pv:=[],rs:=[(2,.obj (.row 5 .u8)),(3,.val (.int .i64))],ty:=[31,50],own:=some 0,esc:=false }
def H32:Hints where
 loops:=fun _=>none
 joins:=fun _=>none
def cal32 (F63 F64 F65 F66 F67:Fun):FuncId→Option Cal:=fun f=>match f with | 25=>some (mkCal D63 F63) | 26=>some (mkCal D64 F64) | 27=>some (mkCal D65 F65) | 28=>some (mkCal D66 F66) | 29=>some (mkCal D67 F67) | _=>none
def run32 (F63 F64 F65 F66 F67:Fun) (n:Nat) (x0:AV):Option (List AV):=D32.run Tryd.prog env (cal32 F63 F64 F65 F66 F67) H32 n [eta s46 x0]
def D22:FnD:={ body:=Tryd.f8.body.getD .skip,m:=11,ps:=[.val s46],fs:=[],pv:=[],rs:=[(2,.val (.int .i64))],ty:=[50],own:=none,esc:=false }
def H22:Hints where
 loops:=fun _=>none
 joins:=fun _=>none
def cal22 (F32:Fun):FuncId→Option Cal:=fun f=>match f with | 15=>some (mkCal D32 F32) | _=>none
def run22 (F32:Fun) (n:Nat) (x0:AV):Option (List AV):=D22.run Tryd.prog env (cal22 F32) H22 n [eta s46 x0]
def D911:FnD:={ body:=Tryd.f11.body.getD .skip,m:=40,ps:=[.val s66],fs:=[],pv:=[],rs:=[(2,.val .bool)],ty:=[4],own:=none,esc:=false }
def H911:Hints where
 loops:=fun _=>none
 joins:=fun _=>none
def cal911 (F244:Fun):FuncId→Option Cal:=fun f=>match f with | 21=>some (mkCal D244 F244) | _=>none
def run911 (F244:Fun) (n:Nat) (x0:AV):Option (List AV):=D911.run Tryd.prog env (cal911 F244) H911 n [eta s66 x0]
def D922:FnD:={ body:=Tryd.f22.body.getD .skip,m:=8,ps:=[.val (.fv s79)],fs:=[],pv:=[],rs:=[(2,.val (.fv s79))],ty:=[24],own:=none,esc:=true,fz:=[(2,(.fv s79))] }
def H922:Hints where
 loops:=fun _=>none
 joins:=fun _=>none
def cal922:FuncId→Option Cal:=fun _=>none
def run922 (n:Nat) (x0:List AV):Option (List AV):=D922.run Tryd.prog env (cal922) H922 n [.fv s79 x0]
def D923:FnD:={ body:=Tryd.f23.body.getD .skip,m:=23,ps:=[.val (.fv s93)],fs:=[],pv:=[],rs:=[(2,.val (.fv s93))],ty:=[30],own:=none,esc:=true,fz:=[(2,(.fv s93))] }
def H923:Hints where
 loops:=fun i=>match i with
  | 3=>some ⟨[],[(3,.obj (.rows 92 s93)),(6,.val (.fv s93)),(7,.val (.int .i64)),(8,.val (.int .i64))],[]⟩
  | _=>none
 joins:=fun i=>match i with
  | 7=>some ⟨[],[(3,.obj (.rows 92 s93))],[]⟩
  | _=>none
def cal923 (F68:Fun):FuncId→Option Cal:=fun f=>match f with | 24=>some (mkCal D68 F68) | _=>none
def run923 (F68:Fun) (n:Nat) (x0:List AV):Option (List AV):=D923.run Tryd.prog env (cal923 F68) H923 n [.fv s93 x0]
def D912:FnD:={ body:=Tryd.f12.body.getD .skip,m:=77,ps:=[.val s46],fs:=[],pv:=[],rs:=[(2,.cell s46 46)],ty:=[46],own:=none,esc:=true,fzc:=[(2,s46)] }
def H912:Hints where
 loops:=fun i=>match i with
  | 5=>some ⟨[],[(1,.keep (.box s46)),(2,.keep (.box s46)),(3,.obj (.rows 79 s124)),(24,.val (.fv s124)),(25,.val (.int .i64)),(26,.val (.int .i64))],[(1,.ref (.top 1) 0),(2,.ref (.top 2) 0)]⟩
  | _=>none
 joins:=fun i=>match i with
  | 9=>some ⟨[],[(1,.keep (.box s46)),(2,.keep (.box s46)),(3,.obj (.rows 79 s124))],[(1,.ref (.top 1) 0),(2,.ref (.top 2) 0)]⟩
  | _=>none
def cal912 (F68 F922 F923:Fun):FuncId→Option Cal:=fun f=>match f with | 22=>some (mkCal D922 F922) | 23=>some (mkCal D923 F923) | 24=>some (mkCal D68v F68) | _=>none
def run912 (F68 F922 F923:Fun) (n:Nat) (x0:AV):Option (List AV):=D912.run Tryd.prog env (cal912 F68 F922 F923) H912 n [eta s46 x0]
def D905:FnD:={ body:=Tryd.f5.body.getD .skip,m:=118,ps:=[.val s46,.val s66],fs:=[],pv:=[],rs:=[(4,.cell s46 46),(5,.val (.int .i64))],ty:=[46,50],own:=none,esc:=true,fzc:=[(4,s46)] }
def H905:Hints where
 loops:=fun _=>none
 joins:=fun i=>match i with
  | 5=>some ⟨[],[(2,.keep (.box s46)),(3,.keep (.box s66)),(4,.keep (.box s46)),(6,.keep (.box s66)),(40,.val .bool)],[(2,.ref (.top 2) 0),(3,.ref (.top 3) 0),(4,.ref (.top 4) 0),(6,.ref (.top 6) 0)]⟩
  | 6=>some ⟨[],[(2,.keep (.box s46)),(3,.keep (.box s66)),(4,.keep (.box s46)),(6,.keep (.box s66))],[(2,.ref (.top 2) 0),(3,.ref (.top 3) 0),(4,.ref (.top 4) 0),(6,.ref (.top 6) 0)]⟩
  | 10=>some ⟨[],[(2,.keep (.box s46)),(3,.keep (.box s66)),(4,.keep (.box s46))],[(2,.ref (.top 2) 0),(3,.ref (.top 3) 0),(4,.ref (.top 4) 0)]⟩
  | 13=>some ⟨[],[(2,.keep (.box s46)),(3,.keep (.box s66)),(4,.keep (.box s46)),(8,.val (.int .i64)),(77,.val .bool)],[(2,.ref (.top 2) 0),(3,.ref (.top 3) 0),(4,.ref (.top 4) 0)]⟩
  | 18=>some ⟨[],[(2,.keep (.box s46)),(4,.keep (.box s46)),(8,.val (.int .i64))],[(2,.ref (.top 2) 0),(4,.ref (.top 4) 0)]⟩
  | 23=>some ⟨[],[(2,.keep (.box s46)),(4,.keep (.box s46))],[(2,.ref (.top 2) 0),(4,.ref (.top 4) 0)]⟩
  | _=>none
def cal905 (F22 F27 F911 F912:Fun):FuncId→Option Cal:=fun f=>match f with | 7=>some (mkCal D27 F27) | 8=>some (mkCal D22 F22) | 11=>some (mkCal D911 F911) | 12=>some (mkCal D912 F912) | _=>none
def run905 (F22 F27 F911 F912:Fun) (n:Nat) (x0:AV) (x1:AV):Option (List AV):=D905.run Tryd.prog env (cal905 F22 F27 F911 F912) H905 n [eta s46 x0,eta s66 x1]
def D906:FnD:={ body:=Tryd.f6.body.getD .skip,m:=5,ps:=[],fs:=[],pv:=[],rs:=[(0,.cell s66 48)],ty:=[48],own:=none,esc:=false }
def H906:Hints where
 loops:=fun _=>none
 joins:=fun _=>none
def cal906 (F904:Fun):FuncId→Option Cal:=fun f=>match f with | 4=>some (mkCal D904 F904) | _=>none
def run906 (F904:Fun) (n:Nat):Option (List AV):=D906.run Tryd.prog env (cal906 F904) H906 n []
def D276:FnD:={ body:=Tryd.f16.body.getD .skip,m:=19,ps:=[.val s27],fs:=[],pv:=[],rs:=[(2,.val .bool)],ty:=[4],own:=none,esc:=false }
def H276:Hints where
 loops:=fun i=>match i with
  | 4=>some ⟨[],[(1,.keep (.box s27)),(3,.val (.int .i64))],[(1,.ref (.top 1) 0)]⟩
  | _=>none
 joins:=fun i=>match i with
  | 8=>some ⟨[],[],[]⟩
  | _=>none
def cal276:FuncId→Option Cal:=fun _=>none
def run276 (n:Nat) (x0:AV):Option (List AV):=D276.run Tryd.prog env (cal276) H276 n [eta s27 x0]
def D909:FnD:={ body:=Tryd.f9.body.getD .skip,m:=40,ps:=[.val s66],fs:=[],pv:=[],rs:=[(2,.val .bool)],ty:=[4],own:=none,esc:=false }
def H909:Hints where
 loops:=fun _=>none
 joins:=fun i=>match i with
  | 2=>some ⟨[],[(1,.keep (.box s66)),(21,.val .bool)],[(1,.ref (.top 1) 0)]⟩
  | 3=>some ⟨[],[(1,.keep (.box s66))],[(1,.ref (.top 1) 0)]⟩
  | _=>none
def cal909 (F276:Fun):FuncId→Option Cal:=fun f=>match f with | 16=>some (mkCal D276 F276) | _=>none
def run909 (F276:Fun) (n:Nat) (x0:AV):Option (List AV):=D909.run Tryd.prog env (cal909 F276) H909 n [eta s66 x0]
def D903:FnD:={ body:=Tryd.f3.body.getD .skip,m:=173,ps:=[.val s46,.val s66],fs:=[],pv:=[],rs:=[(4,.val .bool)],ty:=[4],own:=none,esc:=false }
def H903:Hints where
 loops:=fun _=>none
 joins:=fun i=>match i with
  | 5=>some ⟨[],[(2,.keep (.box s46)),(3,.keep (.box s66)),(6,.keep (.box s46)),(8,.keep (.box s66)),(44,.val .bool)],[(2,.ref (.top 2) 0),(3,.ref (.top 3) 0),(6,.ref (.top 6) 0),(8,.ref (.top 8) 0)]⟩
  | 6=>some ⟨[],[(2,.keep (.box s46)),(3,.keep (.box s66)),(6,.keep (.box s46)),(8,.keep (.box s66))],[(2,.ref (.top 2) 0),(3,.ref (.top 3) 0),(6,.ref (.top 6) 0),(8,.ref (.top 8) 0)]⟩
  | 8=>some ⟨[],[(2,.keep (.box s46)),(3,.keep (.box s66)),(6,.keep (.box s46)),(8,.keep (.box s66)),(10,.keep (.box s66)),(12,.val .bool)],[(2,.ref (.top 2) 0),(3,.ref (.top 3) 0),(6,.ref (.top 6) 0),(8,.ref (.top 8) 0),(10,.ref (.top 10) 0)]⟩
  | 9=>some ⟨[],[(2,.keep (.box s46)),(3,.keep (.box s66)),(6,.keep (.box s46)),(8,.keep (.box s66)),(10,.keep (.box s66)),(12,.val .bool),(13,.val .bool)],[(2,.ref (.top 2) 0),(3,.ref (.top 3) 0),(6,.ref (.top 6) 0),(8,.ref (.top 8) 0),(10,.ref (.top 10) 0)]⟩
  | 10=>some ⟨[],[(2,.keep (.box s46)),(3,.keep (.box s66)),(6,.keep (.box s46)),(8,.keep (.box s66)),(10,.keep (.box s66)),(12,.val .bool),(13,.val .bool),(96,.val .bool)],[(2,.ref (.top 2) 0),(3,.ref (.top 3) 0),(6,.ref (.top 6) 0),(8,.ref (.top 8) 0),(10,.ref (.top 10) 0)]⟩
  | 11=>some ⟨[],[(2,.keep (.box s46)),(3,.keep (.box s66)),(6,.keep (.box s46)),(8,.keep (.box s66)),(10,.keep (.box s66)),(12,.val .bool)],[(2,.ref (.top 2) 0),(3,.ref (.top 3) 0),(6,.ref (.top 6) 0),(8,.ref (.top 8) 0),(10,.ref (.top 10) 0)]⟩
  | 15=>some ⟨[],[(2,.keep (.box s46)),(3,.keep (.box s66)),(6,.keep (.box s46)),(8,.keep (.box s66)),(10,.keep (.box s66)),(133,.val .bool)],[(2,.ref (.top 2) 0),(3,.ref (.top 3) 0),(6,.ref (.top 6) 0),(8,.ref (.top 8) 0),(10,.ref (.top 10) 0)]⟩
  | 16=>some ⟨[],[(2,.keep (.box s46)),(3,.keep (.box s66)),(6,.keep (.box s46)),(8,.keep (.box s66)),(10,.keep (.box s66))],[(2,.ref (.top 2) 0),(3,.ref (.top 3) 0),(6,.ref (.top 6) 0),(8,.ref (.top 8) 0),(10,.ref (.top 10) 0)]⟩
  | _=>none
def cal903 (F14 F22 F27 F904 F905 F906 F909:Fun):FuncId→Option Cal:=fun f=>match f with | 4=>some (mkCal D904 F904) | 5=>some (mkCal D905 F905) | 6=>some (mkCal D906 F906) | 7=>some (mkCal D27 F27) | 8=>some (mkCal D22 F22) | 9=>some (mkCal D909 F909) | 10=>some (mkCal D14 F14) | _=>none
def run903 (F14 F22 F27 F904 F905 F906 F909:Fun) (n:Nat) (x0:AV) (x1:AV):Option (List AV):=D903.run Tryd.prog env (cal903 F14 F22 F27 F904 F905 F906 F909) H903 n [eta s46 x0,eta s66 x1]
end
end Go.Proofs.YtlmnjnhmhacgkaaDoor.Am
end
