/-
  The descriptions of the functions that are reached.
-/
import Derived.Test.YtlmnjnhmhacgkaaGreatDoorProg
import Derived.Test.YtlmnjnhmhacgkaaGreatDoorAmG
section
set_option linter.unusedVariables false
namespace Go.Proofs.YtlmnjnhmhacgkaaGreatDoor.Am
open Go Go.Am Go.Proofs
noncomputable section
abbrev Fun:=Nat->List AV->Option (List AV)
def s27:Sh:=.agg [(.int .i64),(.arr .u8 16)]
def s29:Sh:=.agg [(.int .i64),(.arr .u8 6),s27,(.arr .u8 6),s27]
def s93:Sh:=.agg [(.int .i64),(.fs .u8)]
def s33:Sh:=.agg [(.int .i64),(.int .i64),.bool,.bool,(.int .i64),(.int .i64),(.int .i64),s27,s27,(.fv s93),(.fs .u8)]
def s36:Sh:=.agg [.bool,.bool,(.int .i64),(.int .i64)]
def s124:Sh:=.agg [(.int .i64),(.fv s93),(.fs .u8)]
def s38:Sh:=.agg [(.int .i64),(.int .i64),(.int .i64),s27,s27,(.fv s124),s36,(.int .i64),(.fs .u8)]
def s40:Sh:=.agg [(.int .i64),(.int .i64),(.int .i64),(.int .i64),(.fs .u8)]
def s42:Sh:=.agg [(.int .i64),(.int .i64),.bool,(.fs .u8)]
def s44:Sh:=.agg [(.int .i64),(.int .i64),(.int .i64),(.int .i64),(.int .i64),(.int .i64),(.int .i64),(.fv s93),(.fs .u8)]
def s79:Sh:=.agg [(.int .i64),(.int .i64),.bool,(.int .i64)]
def s46:Sh:=.agg [(.arr .u8 6),(.arr .u8 6),(.fv s79),(.int .i64),s29,s33,s38,(.int .i64),s40,s42,s44]
def s66:Sh:=.agg [(.int .i64),s27,s27,(.int .i64),(.int .i64)]
def s83:Sh:=.agg [(.arr .u8 6),(.arr .u8 6),(.fv s79),(.int .i64),(.fs .u8)]
def s104:Sh:=.agg [s27,s27,(.int .i64),(.int .i64),.bool]
def s152:Sh:=.agg [(.fv s124),s36,(.int .i64),(.fs .u8)]
def s236:Sh:=.agg [(.fs .u8),(.int .i64)]
def s237:Sh:=.agg [(.int .i64),(.int .i64)]
def xX:zZ:=⟨1,236,s236,none⟩
def B126 (l:List AV):Bool:=decide ((getE l 1).toInt<0) || decide ((getE l 1).toInt >= ((getE l 0).qq.length:Nat))
def B122 (l:List AV):Bool:=decide (((getE l 0).qq.length:Nat)<=2 ^ 47) && (decide ((getE l 1).toInt<0) || (decide ((getE l 1).toInt >((getE l 0).qq.length:Nat)) || (decide (0<(getE l 2).toInt) && (decide ((getE l 2).toInt<=8) && decide ((getE l 1).toInt+(getE l 2).toInt >((getE l 0).qq.length:Nat))))))
def B125 (l:List AV):Bool:=decide ((getE l 1).toInt<0) || (decide ((getE l 1).toInt >((getE l 0).qq.length:Nat)) || decide ((getE l 2).toInt > IntKind.i64.wrap (((getE l 0).qq.length:Nat) - (getE l 1).toInt)))
def B215 (l:List AV):Bool:=decide (((getE l 0).qq.length:Nat)<=2 ^ 47) && (decide (0<=(getE l 1).toInt) && (decide ((getE l 1).toInt<=2 ^ 47) && (decide ((getE l 1).toInt+1 >= ((getE l 0).qq.length:Nat)) || (decide (0<=qk (getE l 0).qq ((getE l 1).toInt+1).toNat) && (decide (qk (getE l 0).qq ((getE l 1).toInt+1).toNat<256) && decide ((getE l 1).toInt+2+qk (getE l 0).qq ((getE l 1).toInt+1).toNat >((getE l 0).qq.length:Nat)))))))
def glob:Nat->Option AV:=fun g=>match g with
 | 0=>some (.arr .i64 12 [4,4,8,16,16,1,1,1,13,8,8,16])
 | 1=>some (.arr .i64 4 [16,16,16,16])
 | 2=>some (.arr .i64 10 [16,16,32,32,4,4,8,16,16,16])
 | 3=>some (.agg [.agg [.int .i64 0,.int .i64 1],.agg [.int .i64 43,.int .i64 2],.agg [.int .i64 44,.int .i64 3],.agg [.int .i64 60,.int .i64 1]])
 | 4=>some (.arr .u64 9 [0,0,16,8,4,17247241216,0,0,1024])
 | _=>none
def env:Env:=⟨glob,fun t=>match t with | 236=>some 1 | _=>none,fun t=>match t with  | _=>none,fun t d=>match t,d with | 236,5=>true | _,_=>false⟩
abbrev CT:=FuncId->Option Cal
noncomputable def cl:List (FuncId × Cal)->CT
 | [],_=>none
 | p::l,f=>match Nat.beq f p.1 with
  | true=>some p.2
  | false=>cl l f
noncomputable abbrev dF (b:Func) (m:Nat) (p:List Pk) (r:Res) (t:List TypeId):FnD:={ body:=b.body.getD .skip,m:=m,ps:=p,fs:=[],pv:=[],rs:=r,ty:=t,own:=none,esc:=false }
abbrev _root_.Go.Am.FnD.R (d:FnD) (c:CT) (h:zi) (n:Nat) (l:List AV):Option (List AV):=d.run Tryz.prog env c h n l
noncomputable def lk:List (Nat × Tpl)->Nat->Option Tpl
 | [],_=>none
 | p::l,f=>match Nat.beq f p.1 with
  | true=>some p.2
  | false=>lk l f
abbrev hM (l j:List (Nat × Tpl)):zi:={ loops:=lk l,joins:=lk j }
abbrev uI:Tk:=.val (.int .i64)
abbrev uB:Tk:=.val .bool
abbrev uY:Tk:=.val (.fs .u8)
abbrev uR:Tk:=.obj (.row 5 .u8)
abbrev uO:Tk:=.val (.fv s93)
abbrev uN:Tk:=.val (.fs .i64)
abbrev uK (s:Sh):Tk:=.keep (.box s)
abbrev uT (i:Nat):Nat × AV:=(i,.ref (.top i) 0)
def D77:FnD:=dF Tryz.f77 7 [.val (.arr .u8 6)] [(2,.val .bool)] [4]
def H77:=hM [] []
def cal77:CT:=cl []
def run77 (n:Nat) (x0:List Int):=D77.R cal77 H77 n [.arr .u8 6 x0]
def D79:FnD:=dF Tryz.f79 9 [.val (.int .i64)] [(2,.val .bool)] [4]
def H79:=hM [] []
def cal79:CT:=cl []
def run79 (n:Nat) (x0:Int):=D79.R cal79 H79 n [.int .i64 x0]
def D63:FnD:=dF Tryz.f63 85 [.val s83] [(2,.val (.int .i64))] [47]
def H63:=hM [(6,⟨[],[(1,uK s83),(15,.val (.fv s79)),(16,uI),(17,uI)],[uT 1]⟩),(12,⟨[],[(1,uK s83),(37,.val (.fv s79)),(38,uI),(39,uI)],[uT 1]⟩)] [(9,⟨[],[(1,uK s83),(15,.val (.fv s79)),(16,uI),(17,uI),(34,uB)],[uT 1]⟩),(10,⟨[],[(1,uK s83),(15,.val (.fv s79)),(16,uI),(17,uI)],[uT 1]⟩),(11,⟨[],[(1,uK s83)],[uT 1]⟩),(15,⟨[],[(1,uK s83),(37,.val (.fv s79)),(38,uI),(39,uI),(60,uB)],[uT 1]⟩),(16,⟨[],[(1,uK s83),(37,.val (.fv s79)),(38,uI),(39,uI)],[uT 1]⟩),(17,⟨[],[(1,uK s83)],[uT 1]⟩),(18,⟨[],[(1,uK s83),(74,uB)],[uT 1]⟩),(19,⟨[],[(1,uK s83)],[uT 1]⟩)]
def cal63 (F77 F79:Fun):CT:=cl [(77,qj D77 F77),(79,qj D79 F79)]
def run63 (F77 F79:Fun) (n:Nat) (x0:AV):=D63.R (cal63 F77 F79) H63 n [eta s83 x0]
def D34:FnD:=dF Tryz.f34 26 [.val (.fv s79),.val (.fv s79)] [(4,.val .bool)] [4]
def H34:=hM [(4,⟨[],[(0,.val (.fv s79)),(1,.val (.fv s79)),(12,uI),(13,uI)],[]⟩)] [(9,⟨[],[],[]⟩)]
def cal34:CT:=cl []
def run34 (n:Nat) (x0 x1:List AV):=D34.R cal34 H34 n [.fv s79 x0,.fv s79 x1]
def D70:FnD:=dF Tryz.f70 10 [.val (.fs .u8),.val (.fs .u8)] [(4,.val .bool)] [4]
def H70:=hM [] []
def cal70:CT:=cl []
def run70 (n:Nat) (x0 x1:List Int):=D70.R cal70 H70 n [.fs .u8 x0,.fs .u8 x1]
def D113:FnD:=dF Tryz.f113 17 [.val s93,.val s93] [(4,.val .bool)] [4]
def H113:=hM [] []
def cal113 (F70:Fun):CT:=cl [(70,qj D70 F70)]
def run113 (F70:Fun) (n:Nat) (x0 x1:AV):=D113.R (cal113 F70) H113 n [eta s93 x0,eta s93 x1]
def D112:FnD:=dF Tryz.f112 32 [.val (.fv s93),.val (.fv s93),.fn 113] [(6,.val .bool)] [4]
def H112:=hM [(4,⟨[],[(1,uO),(15,uO),(16,uI),(17,uI)],[(2,.fn 113)]⟩)] [(10,⟨[],[],[]⟩)]
def cal112 (F113:Fun):CT:=cl [(113,qj D113 F113)]
def run112 (F113:Fun) (n:Nat) (x0 x1:List AV):=D112.R (cal112 F113) H112 n [.fv s93 x0,.fv s93 x1,.nili]
def D69:FnD:=dF Tryz.f69 8 [.val (.fv s93),.val (.fv s93)] [(4,.val .bool)] [4]
def H69:=hM [] []
def cal69 (F112:Fun):CT:=cl [(112,qj D112 F112)]
def run69 (F112:Fun) (n:Nat) (x0 x1:List AV):=D69.R (cal69 F112) H69 n [.fv s93 x0,.fv s93 x1]
def D35:FnD:=dF Tryz.f35 78 [.val s33,.val s33] [(4,.val .bool)] [4]
def H35:=hM [] [(2,⟨[],[(2,uK s33),(3,uK s33),(51,uB)],[uT 2,uT 3]⟩),(3,⟨[],[(2,uK s33),(3,uK s33)],[uT 2,uT 3]⟩)]
def cal35 (F69 F70:Fun):CT:=cl [(69,qj D69 F69),(70,qj D70 F70)]
def run35 (F69 F70:Fun) (n:Nat) (x0 x1:AV):=D35.R (cal35 F69 F70) H35 n [eta s33 x0,eta s33 x1]
def D72:FnD:=dF Tryz.f72 24 [.val s124,.val s124] [(4,.val .bool)] [4]
def H72:=hM [] []
def cal72 (F69 F70:Fun):CT:=cl [(69,qj D69 F69),(70,qj D70 F70)]
def run72 (F69 F70:Fun) (n:Nat) (x0 x1:AV):=D72.R (cal72 F69 F70) H72 n [eta s124 x0,eta s124 x1]
def D71:FnD:=dF Tryz.f71 32 [.val (.fv s124),.val (.fv s124),.fn 72] [(6,.val .bool)] [4]
def H71:=hM [(4,⟨[],[(1,.val (.fv s124)),(15,.val (.fv s124)),(16,uI),(17,uI)],[(2,.fn 72)]⟩)] [(10,⟨[],[],[]⟩)]
def cal71 (F72:Fun):CT:=cl [(72,qj D72 F72)]
def run71 (F72:Fun) (n:Nat) (x0 x1:List AV):=D71.R (cal71 F72) H71 n [.fv s124 x0,.fv s124 x1,.nili]
def D36:FnD:=dF Tryz.f36 66 [.val s38,.val s38] [(4,.val .bool)] [4]
def H36:=hM [] [(2,⟨[],[(2,uK s38),(3,uK s38),(52,uB)],[uT 2,uT 3]⟩),(3,⟨[],[(2,uK s38),(3,uK s38)],[uT 2,uT 3]⟩)]
def cal36 (F70 F71:Fun):CT:=cl [(70,qj D70 F70),(71,qj D71 F71)]
def run36 (F70 F71:Fun) (n:Nat) (x0 x1:AV):=D36.R (cal36 F70 F71) H36 n [eta s38 x0,eta s38 x1]
def D37:FnD:=dF Tryz.f37 153 [.val s46,.val s46] [(4,.val .bool)] [4]
def H37:=hM [] [(3,⟨[],[(2,uK s46),(3,uK s46),(7,uB)],[uT 2,uT 3]⟩),(5,⟨[],[(2,uK s46),(3,uK s46),(7,uB),(10,uB)],[uT 2,uT 3]⟩),(7,⟨[],[(7,uB),(10,uB),(11,uK s44),(12,uK s44),(13,uB)],[uT 11,uT 12]⟩)]
def cal37 (F69 F70:Fun):CT:=cl [(69,qj D69 F69),(70,qj D70 F70)]
def run37 (F69 F70:Fun) (n:Nat) (x0 x1:AV):=D37.R (cal37 F69 F70) H37 n [eta s46 x0,eta s46 x1]
def D14:FnD:=dF Tryz.f14 63 [.val s46,.val s46] [(4,.val .bool)] [4]
def H14:=hM [] [(2,⟨[],[(2,uK s46),(3,uK s46),(45,uB)],[uT 2,uT 3]⟩),(3,⟨[],[(2,uK s46),(3,uK s46)],[uT 2,uT 3]⟩)]
def cal14 (F34 F35 F36 F37:Fun):CT:=cl [(34,qj D34 F34),(35,qj D35 F35),(36,qj D36 F36),(37,qj D37 F37)]
def run14 (F34 F35 F36 F37:Fun) (n:Nat) (x0 x1:AV):=D14.R (cal14 F34 F35 F36 F37) H14 n [eta s46 x0,eta s46 x1]
def D55:FnD:=dF Tryz.f55 39 [.val s46] [(2,.cell s104 104)] [104]
def H55:=hM [] []
def cal55:CT:=cl []
def run55 (n:Nat) (x0:AV):=D55.R cal55 H55 n [eta s46 x0]
def D56:FnD:={dF Tryz.f56 12 [.val s46] [(2,.val (.fs .u8))] [31] with esc:=true,fz:=[(2,(.fs .u8))]}
def H56:=hM [] []
def cal56:CT:=cl []
def run56 (n:Nat) (x0:AV):=D56.R cal56 H56 n [eta s46 x0]
def D94:FnD:=dF Tryz.f94 24 [.val (.int .i64),.val (.int .i64)] [(4,.val (.int .i64))] [3]
def H94:=hM [] [(6,⟨[],[(0,uI),(1,uI),(11,uB)],[]⟩),(7,⟨[],[(11,uB)],[]⟩),(8,⟨[],[],[]⟩)]
def cal94:CT:=cl []
def run94 (n:Nat) (x0 x1:Int):=D94.R cal94 H94 n [.int .i64 x0,.int .i64 x1]
def D57:FnD:=dF Tryz.f57 18 [.val s46] [(2,.val (.int .i64))] [3]
def H57:=hM [] [(3,⟨[],[(3,uK s104),(12,uB)],[uT 3]⟩),(4,⟨[],[(3,uK s104)],[uT 3]⟩)]
def cal57 (F55 F94:Fun):CT:=cl [(55,qj D55 F55),(94,qj D94 F94)]
def run57 (F55 F94:Fun) (n:Nat) (x0:AV):=D57.R (cal57 F55 F94) H57 n [eta s46 x0]
def D64:FnD:=dF Tryz.f64 99 [.val s46] [(2,.val .bool)] [4]
def H64:=hM [] [(2,⟨[],[(1,uK s46),(21,uB)],[uT 1]⟩),(3,⟨[],[(1,uK s46)],[uT 1]⟩),(11,⟨[],[(1,uK s46),(3,uK s46)],[uT 1,uT 3]⟩),(18,⟨[],[(1,uK s46),(3,uK s46)],[uT 1,uT 3]⟩),(19,⟨[],[(1,uK s46),(77,uB)],[uT 1]⟩),(20,⟨[],[(1,uK s46)],[uT 1]⟩)]
def cal64 (F14 F55 F56 F57:Fun):CT:=cl [(14,qj D14 F14),(55,qj D55 F55),(56,qj D56 F56),(57,qj D57 F57)]
def run64 (F14 F55 F56 F57:Fun) (n:Nat) (x0:AV):=D64.R (cal64 F14 F55 F56 F57) H64 n [eta s46 x0]
def D184:FnD:=dF Tryz.f184 29 [.val s27] [(2,.val (.int .i64))] [3]
def H184:=hM [] []
def cal184:CT:=cl []
def run184 (n:Nat) (x0:AV):=D184.R cal184 H184 n [eta s27 x0]
def D139:FnD:={dF Tryz.f139 76 [.val s27,.val s27,.val (.int .i64),.val (.int .i64)] [(8,.obj (.row 5 .u8)),(9,.val (.int .i64))] [31,47] with own:=some 0}
def H139:=hM [] [(3,⟨[],[(2,uI),(3,uI),(4,uK s27),(5,uK s27),(10,uI),(14,uB)],[uT 4,uT 5]⟩),(5,⟨[],[(2,uI),(3,uI),(4,uK s27),(5,uK s27),(10,uI),(23,uB)],[uT 4,uT 5]⟩),(6,⟨[],[(2,uI),(3,uI),(4,uK s27),(5,uK s27),(10,uI)],[uT 4,uT 5]⟩)]
def cal139 (F184:Fun):CT:=cl [(184,qj D184 F184)]
def run139 (F184:Fun) (n:Nat) (x0 x1:AV) (x2 x3:Int):=D139.R (cal139 F184) H139 n [eta s27 x0,eta s27 x1,.int .i64 x2,.int .i64 x3]
def D95:FnD:={dF Tryz.f95 26 [.val (.int .i64),.val s27,.val s27,.val (.int .i64)] [(8,.obj (.row 5 .u8)),(9,.val (.int .i64))] [31,47] with own:=some 0}
def H95:=hM [] [(4,⟨[],[(3,uI),(5,uK s27),(6,uK s27),(19,uB)],[uT 5,uT 6]⟩),(5,⟨[],[(3,uI),(5,uK s27),(6,uK s27)],[uT 5,uT 6]⟩)]
def cal95 (F139:Fun):CT:=cl [(139,qj D139 F139)]
def run95 (F139:Fun) (n:Nat) (x0:Int) (x1 x2:AV) (x3:Int):=D95.R (cal95 F139) H95 n [.int .i64 x0,eta s27 x1,eta s27 x2,.int .i64 x3]
def D96:FnD:={dF Tryz.f96 2 [] [(0,.obj (.row 3 .i64))] [142] with own:=some 0}
def H96:=hM [] []
def cal96:CT:=cl []
def run96 (n:Nat):=D96.R cal96 H96 n []
def D135:FnD:=dF Tryz.f135 47 [.val s40] [(2,.val (.int .i64))] [47]
def H135:=hM [] [(2,⟨[],[(1,uK s40),(3,uB)],[uT 1]⟩),(4,⟨[],[(1,uK s40),(12,uB)],[uT 1]⟩),(7,⟨[],[],[]⟩)]
def cal135:CT:=cl []
def run135 (n:Nat) (x0:AV):=D135.R cal135 H135 n [eta s40 x0]
def D123:FnD:=dF Tryz.f123 31 [.val (.fs .i64)] [(2,.val (.int .i64)),(3,.val (.int .i64))] [3,47]
def H123:=hM [(5,⟨[],[(4,uI),(10,uN),(11,uI),(12,uI)],[]⟩)] [(8,⟨[],[(4,uI),(6,uI),(10,uN),(11,uI),(12,uI),(21,uB)],[]⟩),(9,⟨[],[(4,uI),(6,uI),(10,uN),(11,uI),(12,uI)],[]⟩),(10,⟨[],[(4,uI),(10,uN),(11,uI),(12,uI)],[]⟩),(11,⟨[],[(4,uI)],[]⟩)]
def cal123:CT:=cl []
def D136:FnD:={dF Tryz.f136 77 [.val (.fs .i64),.val (.fs .i64)] [(4,.obj (.row 5 .u8)),(5,.val (.int .i64))] [31,47] with own:=some 0}
def H136:=hM [(9,⟨[],[(1,uN),(8,uR),(9,uI),(29,uN),(30,uI),(31,uI)],[]⟩),(15,⟨[],[(1,uN),(8,uR),(9,uI),(12,uI),(13,uI),(29,uN),(30,uI),(31,uI)],[]⟩)] [(13,⟨[],[(1,uN),(8,uR),(9,uI),(11,uI),(12,uI),(29,uN),(30,uI),(31,uI),(48,uB)],[]⟩),(14,⟨[],[(1,uN),(8,uR),(9,uI),(11,uI),(12,uI),(29,uN),(30,uI),(31,uI)],[]⟩),(19,⟨[],[(1,uN),(8,uR),(9,uI),(29,uN),(30,uI),(31,uI)],[]⟩),(20,⟨[],[(8,uR)],[]⟩)]
def cal136 (F123:Fun):CT:=cl [(123,qj D123 F123)]
def run136 (F123:Fun) (n:Nat) (x0 x1:List Int):=D136.R (cal136 F123) H136 n [.fs .i64 x0,.fs .i64 x1]
def D178:FnD:=dF Tryz.f178 11 [.val (.int .i64)] [(2,.val (.int .i64))] [3]
def H178:=hM [(1,⟨[],[(0,uI)],[]⟩)] [(3,⟨[],[(0,uI)],[]⟩)]
def cal178:CT:=cl []
def run178 (n:Nat) (x0:Int):=D178.R cal178 H178 n [.int .i64 x0]
def D127:FnD:=dF Tryz.f127 38 [.val (.fv (.fs .u8))] [(2,.val (.int .i64))] [3]
def H127:=hM [(3,⟨[],[(3,uI),(4,uB),(9,.val (.fv (.fs .u8))),(10,uI),(11,uI)],[]⟩),(6,⟨[],[(3,uI),(4,uB),(9,.val (.fv (.fs .u8))),(10,uI),(11,uI),(15,uY),(16,uI),(17,uI)],[]⟩)] [(11,⟨[],[(3,uI),(4,uB),(9,.val (.fv (.fs .u8))),(10,uI),(11,uI),(15,uY),(16,uI),(17,uI)],[]⟩),(12,⟨[],[(3,uI),(4,uB),(9,.val (.fv (.fs .u8))),(10,uI),(11,uI),(15,uY),(16,uI),(17,uI)],[]⟩),(13,⟨[],[(3,uI),(4,uB),(9,.val (.fv (.fs .u8))),(10,uI),(11,uI)],[]⟩),(14,⟨[],[(3,uI),(4,uB),(9,.val (.fv (.fs .u8))),(10,uI),(11,uI)],[]⟩),(15,⟨[],[(3,uI)],[]⟩)]
def cal127 (F178:Fun):CT:=cl [(178,qj D178 F178)]
def run127 (F178:Fun) (n:Nat) (x0:List AV):=D127.R (cal127 F178) H127 n [.fv (.fs .u8) x0]
def D137:FnD:=dF Tryz.f137 6 [.val (.fv (.fs .u8))] [(2,.val (.int .i64))] [3]
def H137:=hM [] []
def cal137 (F127:Fun):CT:=cl [(127,qj D127 F127)]
def run137 (F127:Fun) (n:Nat) (x0:List AV):=D137.R (cal137 F127) H137 n [.fv (.fs .u8) x0]
def D91:FnD:={dF Tryz.f91 67 [.val s27,.val s27,.val s40] [(6,.obj (.row 5 .u8)),(7,.val (.int .i64))] [31,47] with own:=some 0}
def H91:=hM [] []
def cal91 (F95 F96 F135 F136 F137:Fun):CT:=cl [(95,qj D95 F95),(96,qj D96 F96),(135,qj D135 F135),(136,qj D136 F136),(137,qj D137 F137)]
def run91 (F95 F96 F135 F136 F137:Fun) (n:Nat) (x0 x1 x2:AV):=D91.R (cal91 F95 F96 F135 F136 F137) H91 n [eta s27 x0,eta s27 x1,eta s40 x2]
def D97:FnD:=dF Tryz.f97 14 [.val s27,.val s27] [(4,.val (.int .i64))] [47]
def H97:=hM [] []
def cal97 (F139:Fun):CT:=cl [(139,qj D139 F139)]
def run97 (F139:Fun) (n:Nat) (x0 x1:AV):=D97.R (cal97 F139) H97 n [eta s27 x0,eta s27 x1]
def D183:FnD:=dF Tryz.f183 12 [.val (.int .i64),.val (.int .i64)] [(4,.val .bool)] [4]
def H183:=hM [] []
def cal183:CT:=cl []
def run183 (n:Nat) (x0 x1:Int):=D183.R cal183 H183 n [.int .i64 x0,.int .i64 x1]
def D138:FnD:=dF Tryz.f138 34 [.val (.int .i64),.val s42] [(4,.val (.int .i64))] [47]
def H138:=hM [] [(2,⟨[],[(0,uI),(3,uK s42),(5,uB)],[uT 3]⟩),(4,⟨[],[(3,uK s42),(12,uB)],[uT 3]⟩),(7,⟨[],[],[]⟩)]
def cal138 (F183:Fun):CT:=cl [(183,qj D183 F183)]
def run138 (F183:Fun) (n:Nat) (x0:Int) (x1:AV):=D138.R (cal138 F183) H138 n [.int .i64 x0,eta s42 x1]
def D92:FnD:={dF Tryz.f92 73 [.val s27,.val s27,.val s42] [(6,.obj (.row 5 .u8)),(7,.val (.int .i64))] [31,47] with own:=some 0}
def H92:=hM [] [(4,⟨[],[(3,uK s27),(4,uK s27),(5,uK s42),(8,uI)],[uT 3,uT 4,uT 5]⟩),(15,⟨[],[(10,uR),(14,uI)],[]⟩)]
def cal92 (F97 F136 F137 F138 F139:Fun):CT:=cl [(97,qj D97 F97),(136,qj D136 F136),(137,qj D137 F137),(138,qj D138 F138),(139,qj D139 F139)]
def run92 (F97 F136 F137 F138 F139:Fun) (n:Nat) (x0 x1 x2:AV):=D92.R (cal92 F97 F136 F137 F138 F139) H92 n [eta s27 x0,eta s27 x1,eta s42 x2]
def D142:FnD:=dF Tryz.f142 23 [.val (.int .i64),.val (.int .i64)] [(4,.val .bool)] [4]
def H142:=hM [] []
def cal142:CT:=cl []
def run142 (n:Nat) (x0 x1:Int):=D142.R cal142 H142 n [.int .i64 x0,.int .i64 x1]
def D141:FnD:={dF Tryz.f141 65 [.val (.fv s93)] [(2,.obj (.row 5 .u8)),(3,.val (.int .i64))] [31,47] with own:=some 0}
def H141:=hM [(3,⟨[],[(4,uR),(8,uO),(9,uI),(10,uI)],[]⟩),(11,⟨[],[(4,uR)],[]⟩)] [(7,⟨[],[(4,uR),(6,uK s93),(7,uI),(8,uO),(9,uI),(10,uI),(43,uB)],[uT 6]⟩),(8,⟨[],[(4,uR),(6,uK s93),(7,uI),(8,uO),(9,uI),(10,uI)],[uT 6]⟩),(10,⟨[],[(4,uR),(8,uO),(9,uI),(10,uI)],[]⟩),(11,⟨[],[(4,uR)],[]⟩),(13,⟨[],[(4,uR)],[]⟩)]
def cal141 (F142:Fun):CT:=cl [(142,qj D142 F142)]
def run141 (F142:Fun) (n:Nat) (x0:List AV):=D141.R (cal141 F142) H141 n [.fv s93 x0]
def D140:FnD:=dF Tryz.f140 55 [.val s44] [(2,.val (.int .i64))] [47]
def H140:=hM [] [(2,⟨[],[(1,uK s44),(37,uB)],[uT 1]⟩),(3,⟨[],[(1,uK s44)],[uT 1]⟩)]
def cal140 (F141 F183:Fun):CT:=cl [(141,qj D141 F141),(183,qj D183 F183)]
def run140 (F141 F183:Fun) (n:Nat) (x0:AV):=D140.R (cal140 F141 F183) H140 n [eta s44 x0]
def D93:FnD:={dF Tryz.f93 87 [.val s27,.val s27,.val s44] [(6,.obj (.row 5 .u8)),(7,.val (.int .i64))] [31,47] with own:=some 0}
def H93:=hM [] [(4,⟨[],[(3,uK s27),(4,uK s27),(5,uK s44),(8,uI)],[uT 3,uT 4,uT 5]⟩)]
def cal93 (F97 F136 F137 F139 F140 F141:Fun):CT:=cl [(97,qj D97 F97),(136,qj D136 F136),(137,qj D137 F137),(139,qj D139 F139),(140,qj D140 F140),(141,qj D141 F141)]
def run93 (F97 F136 F137 F139 F140 F141:Fun) (n:Nat) (x0 x1 x2:AV):=D93.R (cal93 F97 F136 F137 F139 F140 F141) H93 n [eta s27 x0,eta s27 x1,eta s44 x2]
def D53:FnD:={dF Tryz.f53 44 [.val s46] [(2,.val (.fs .u8)),(3,.val (.int .i64))] [31,47] with esc:=true,fz:=[(2,(.fs .u8))]}
def H53:=hM [] []
def cal53 (F55 F56 F91 F92 F93:Fun):CT:=cl [(55,qj D55 F55),(56,qj D56 F56),(91,qj D91 F91),(92,qj D92 F92),(93,qj D93 F93)]
def run53 (F55 F56 F91 F92 F93:Fun) (n:Nat) (x0:AV):=D53.R (cal53 F55 F56 F91 F92 F93) H53 n [eta s46 x0]
def D54:FnD:={dF Tryz.f54 15 [.val s46,.val (.fs .u8)] [(4,.cell s46 46)] [46] with esc:=true,fzc:=[(4,s46)]}
def H54:=hM [] [(4,⟨[],[(2,uK s46),(4,uK s46)],[uT 2,uT 4]⟩)]
def cal54:CT:=cl []
def run54 (n:Nat) (x0:AV) (x1:List Int):=D54.R cal54 H54 n [eta s46 x0,.fs .u8 x1]
def D81:FnD:=dF Tryz.f81 17 [.val (.fs .u8)] [(2,.cell s27 27)] [27]
def H81:=hM [] []
def cal81:CT:=cl []
def run81 (n:Nat) (x0:List Int):=D81.R cal81 H81 n [.fs .u8 x0]
def D82:FnD:=dF Tryz.f82 18 [.val (.int .i64),.val (.arr .u8 6)] [(4,.val (.int .i64))] [47]
def H82:=hM [] [(2,⟨[],[(3,.keep (.box (.arr .u8 6))),(10,uB)],[uT 3]⟩),(3,⟨[],[(3,.keep (.box (.arr .u8 6)))],[uT 3]⟩),(4,⟨[],[(17,uB)],[]⟩),(5,⟨[],[],[]⟩)]
def cal82 (F77:Fun):CT:=cl [(77,qj D77 F77)]
def run82 (F77:Fun) (n:Nat) (x0:Int) (x1:List Int):=D82.R (cal82 F77) H82 n [.int .i64 x0,.arr .u8 6 x1]
def H111:=hM [] []
def cal111:CT:=cl []
def run111 (n:Nat) (x0:List Int) (x1:Int):Option (List AV):=fG Tryz.prog env (cal111) H111 (Tryz.f111.body.getD .skip) 13 4 5 .u8 n [.fs .u8 x0,.int .i64 x1]
def D106:FnD:={dF Tryz.f106 51 [.val s29] [(2,.obj (.row 5 .u8)),(3,.val (.int .i64))] [31,47] with own:=some 0}
def H106:=hM [(5,⟨[],[(1,uK s29),(20,.val (.agg (List.replicate 2 s27))),(21,uI)],[uT 1]⟩)] [(10,⟨[],[(1,uK s29)],[uT 1]⟩)]
def cal106 (F81 F82 F111:Fun):CT:=cl [(81,qj D81 F81),(82,qj D82 F82),(111,pK F111 5 .u8 31)]
def run106 (F81 F82 F111:Fun) (n:Nat) (x0:AV):=D106.R (cal106 F81 F82 F111) H106 n [eta s29 x0]
def D86:FnD:=dF Tryz.f86 23 [.val .bool,.val (.int .i64),.val (.int .i64)] [(6,.val (.int .i64))] [47]
def H86:=hM [] [(2,⟨[],[(22,uB)],[]⟩),(3,⟨[],[],[]⟩)]
def cal86:CT:=cl []
def run86 (n:Nat) (x0:Bool) (x1 x2:Int):=D86.R cal86 H86 n [.bool x0,.int .i64 x1,.int .i64 x2]
def D157:FnD:={dF Tryz.f157 61 [.val (.fv s93)] [(2,.obj (.row 5 .u8)),(3,.val (.int .i64))] [31,47] with own:=some 0}
def H157:=hM [(3,⟨[],[(4,uR),(7,uO),(8,uI),(9,uI)],[]⟩),(10,⟨[],[(4,uR)],[]⟩)] [(6,⟨[],[(4,uR),(6,uK s93),(7,uO),(8,uI),(9,uI),(36,uB)],[uT 6]⟩),(7,⟨[],[(4,uR),(6,uK s93),(7,uO),(8,uI),(9,uI)],[uT 6]⟩),(9,⟨[],[(4,uR),(7,uO),(8,uI),(9,uI)],[]⟩),(10,⟨[],[(4,uR)],[]⟩),(12,⟨[],[(4,uR)],[]⟩)]
def cal157:CT:=cl []
def run157 (n:Nat) (x0:List AV):=D157.R cal157 H157 n [.fv s93 x0]
def D202:FnD:=dF Tryz.f202 12 [.val (.int .i64),.val (.int .i64)] [(4,.val .bool)] [4]
def H202:=hM [] []
def cal202:CT:=cl []
def run202 (n:Nat) (x0 x1:Int):=D202.R cal202 H202 n [.int .i64 x0,.int .i64 x1]
def D203:FnD:=dF Tryz.f203 17 [.val s27] [(2,.val .bool)] [4]
def H203:=hM [] []
def cal203:CT:=cl []
def run203 (n:Nat) (x0:AV):=D203.R cal203 H203 n [eta s27 x0]
def D155:FnD:=dF Tryz.f155 71 [.val s33] [(2,.val (.int .i64))] [47]
def H155:=hM [] [(2,⟨[],[(1,uK s33),(45,uB)],[uT 1]⟩),(3,⟨[],[(1,uK s33)],[uT 1]⟩)]
def cal155 (F86 F157 F202 F203:Fun):CT:=cl [(86,qj D86 F86),(157,qj D157 F157),(202,qj D202 F202),(203,qj D203 F203)]
def run155 (F86 F157 F202 F203:Fun) (n:Nat) (x0:AV):=D155.R (cal155 F86 F157 F202 F203) H155 n [eta s33 x0]
def D269:FnD:=dF Tryz.f269 17 [.val s27] [(2,.val (.int .i64))] [3]
def H269:=hM [] [(4,⟨[],[(16,uB)],[]⟩),(5,⟨[],[],[]⟩)]
def cal269:CT:=cl []
def run269 (n:Nat) (x0:AV):=D269.R cal269 H269 n [eta s27 x0]
def D244:FnD:=dF Tryz.f244 6 [.val s27] [(2,.val .bool)] [4]
def H244:=hM [] []
def cal244 (F269:Fun):CT:=cl [(269,qj D269 F269)]
def run244 (F269:Fun) (n:Nat) (x0:AV):=D244.R (cal244 F269) H244 n [eta s27 x0]
def D204:FnD:=dF Tryz.f204 66 [.val s38] [(2,.val (.int .i64))] [47]
def H204:=hM [] [(2,⟨[],[(1,uK s38),(3,uB)],[uT 1]⟩),(3,⟨[],[(65,uB)],[]⟩),(4,⟨[],[],[]⟩)]
def cal204 (F244:Fun):CT:=cl [(244,qj D244 F244)]
def run204 (F244:Fun) (n:Nat) (x0:AV):=D204.R (cal204 F244) H204 n [eta s38 x0]
def D130:FnD:=dF Tryz.f130 16 [.val (.int .i64)] [(2,.val (.int .i64))] [3]
def H130:=hM [(2,⟨[],[(0,uI),(5,.val (.agg (List.replicate 4 s237))),(6,uI)],[]⟩)] [(7,⟨[],[],[]⟩)]
def cal130:CT:=cl []
def run130 (n:Nat) (x0:Int):=D130.R cal130 H130 n [.int .i64 x0]
def H285:=hM [(1,⟨[],[(0,uR),(1,uI)],[]⟩)] [(5,⟨[],[(0,uR),(1,uI)],[]⟩),(7,⟨[],[(0,uR)],[]⟩)]
def cal285:CT:=cl []
def run285 (n:Nat) (x0:List Int) (x1:Int):Option (List AV):=fG Tryz.prog env (cal285) H285 (Tryz.f285.body.getD .skip) 28 4 5 .u8 n [.fs .u8 x0,.int .i64 x1]
def D270:FnD:={dF Tryz.f270 106 [.val (.fv s93)] [(2,.obj (.row 5 .u8)),(3,.val (.int .i64))] [31,47] with own:=some 0}
def H270:=hM [(3,⟨[],[(0,uO),(4,uR),(9,uO),(10,uI),(11,uI)],[]⟩),(12,⟨[],[(0,uO),(4,uR),(6,uK s93),(9,uO),(10,uI),(11,uI),(77,uY),(78,uI),(79,uI)],[uT 6]⟩)] [(6,⟨[],[(0,uO),(4,uR),(5,uI),(6,uK s93),(9,uO),(10,uI),(11,uI),(16,uB)],[uT 6]⟩),(10,⟨[],[(0,uO),(4,uR),(6,uK s93),(9,uO),(10,uI),(11,uI),(58,uB)],[uT 6]⟩),(11,⟨[],[(0,uO),(4,uR),(6,uK s93),(9,uO),(10,uI),(11,uI)],[uT 6]⟩),(17,⟨[],[(0,uO),(4,uR),(6,uK s93),(9,uO),(10,uI),(11,uI)],[uT 6]⟩),(20,⟨[],[(0,uO),(4,uR),(9,uO),(10,uI),(11,uI)],[]⟩),(21,⟨[],[(4,uR)],[]⟩),(22,⟨[],[(4,uR),(104,uB)],[]⟩),(23,⟨[],[(4,uR)],[]⟩)]
def cal270 (F285:Fun):CT:=cl [(285,pK F285 5 .u8 31)]
def run270 (F285:Fun) (n:Nat) (x0:List AV):=D270.R (cal270 F285) H270 n [.fv s93 x0]
def D245:FnD:={dF Tryz.f245 66 [.val s124] [(2,.val (.fs .u8)),(3,.val (.int .i64))] [31,47] with esc:=true,fz:=[(2,(.fs .u8))]}
def H245:=hM [] [(2,⟨[],[(1,uK s124),(4,uB)],[uT 1]⟩),(4,⟨[],[(1,uK s124),(25,uB)],[uT 1]⟩),(8,⟨[],[(1,uK s124),(46,uB)],[uT 1]⟩),(9,⟨[],[(1,uK s124)],[uT 1]⟩)]
def cal245 (F130 F270:Fun):CT:=cl [(130,qj D130 F130),(270,qj D270 F270)]
def run245 (F130 F270:Fun) (n:Nat) (x0:AV):=D245.R (cal245 F130 F270) H245 n [eta s124 x0]
def D205:FnD:={dF Tryz.f205 67 [.val (.fv s124),.val (.int .i64),.val .bool] [(6,.obj (.row 5 .u8)),(7,.val (.int .i64))] [31,47] with own:=some 0}
def H205:=hM [(5,⟨[],[(0,.val (.fv s124)),(1,uI),(2,uB),(8,uR),(17,.val (.fv s124)),(18,uI),(19,uI)],[]⟩)] [(8,⟨[],[(0,.val (.fv s124)),(1,uI),(2,uB),(8,uR),(9,uI),(10,uK s124),(17,.val (.fv s124)),(18,uI),(19,uI),(33,uB)],[uT 10]⟩),(9,⟨[],[(0,.val (.fv s124)),(1,uI),(2,uB),(8,uR),(9,uI),(10,uK s124),(17,.val (.fv s124)),(18,uI),(19,uI)],[uT 10]⟩),(15,⟨[],[(0,.val (.fv s124)),(1,uI),(2,uB),(8,uR),(11,uY),(13,uI),(17,.val (.fv s124)),(18,uI),(19,uI)],[]⟩),(16,⟨[],[(0,.val (.fv s124)),(1,uI),(2,uB),(8,uR),(17,.val (.fv s124)),(18,uI),(19,uI)],[]⟩),(17,⟨[],[(8,uR)],[]⟩)]
def cal205 (F245:Fun):CT:=cl [(245,qj D245 F245)]
def run205 (F245:Fun) (n:Nat) (x0:List AV) (x1:Int) (x2:Bool):=D205.R (cal205 F245) H205 n [.fv s124 x0,.int .i64 x1,.bool x2]
def D180:FnD:=dF Tryz.f180 30 [.val s36,.val (.int .i64)] [(4,.val .bool)] [4]
def H180:=hM [] [(2,⟨[],[(1,uI),(2,uK s36),(24,uB)],[uT 2]⟩),(3,⟨[],[(1,uI),(2,uK s36)],[uT 2]⟩)]
def cal180:CT:=cl []
def run180 (n:Nat) (x0:AV) (x1:Int):=D180.R cal180 H180 n [eta s36 x0,.int .i64 x1]
def D206:FnD:=dF Tryz.f206 62 [.val s38] [(2,.val (.int .i64))] [47]
def H206:=hM [] [(3,⟨[],[(1,uK s38),(3,uK s36),(6,uB)],[uT 1,uT 3]⟩),(5,⟨[],[(1,uK s38),(3,uK s36),(15,uB)],[uT 1,uT 3]⟩),(9,⟨[],[(29,uB)],[]⟩),(10,⟨[],[],[]⟩)]
def cal206 (F130 F180:Fun):CT:=cl [(130,qj D130 F130),(180,qj D180 F180)]
def run206 (F130 F180:Fun) (n:Nat) (x0:AV):=D206.R (cal206 F130 F180) H206 n [eta s38 x0]
def D207:FnD:={dF Tryz.f207 92 [.val (.fv (.fs .u8)),.val (.fs .u8)] [(4,.val (.fs .u8))] [31] with fz:=[(4,(.fs .u8))]}
def D159:FnD:={dF Tryz.f159 112 [.val s38] [(2,.val (.fs .u8)),(3,.val (.int .i64))] [31,47] with esc:=true,fz:=[(2,(.fs .u8))]}
def H159:=hM [] [(7,⟨[],[(1,uK s38),(5,uI),(6,uI)],[uT 1]⟩),(9,⟨[],[(1,uK s38),(5,uI),(6,uI)],[uT 1]⟩),(19,⟨[],[(1,uK s38),(5,uI),(7,uR),(10,uI)],[uT 1]⟩),(21,⟨[],[(1,uK s38),(5,uI),(7,uR)],[uT 1]⟩)]
def cal159 (F136 F204 F205 F206 F207:Fun):CT:=cl [(136,qj D136 F136),(204,qj D204 F204),(205,qj D205 F205),(206,qj D206 F206),(207,qj D207 F207)]
def run159 (F136 F204 F205 F206 F207:Fun) (n:Nat) (x0:AV):=D159.R (cal159 F136 F204 F205 F206 F207) H159 n [eta s38 x0]
def D156:FnD:=dF Tryz.f156 11 [.val s38] [(2,.val (.int .i64))] [47]
def H156:=hM [] []
def cal156 (F159:Fun):CT:=cl [(159,qj D159 F159)]
def run156 (F159:Fun) (n:Nat) (x0:AV):=D156.R (cal156 F159) H156 n [eta s38 x0]
def D107:FnD:=dF Tryz.f107 12 [.val s46] [(2,.val (.int .i64))] [47]
def H107:=hM [] []
def cal107 (F155 F156:Fun):CT:=cl [(155,qj D155 F155),(156,qj D156 F156)]
def run107 (F155 F156:Fun) (n:Nat) (x0:AV):=D107.R (cal107 F155 F156) H107 n [eta s46 x0]
def D108:FnD:=dF Tryz.f108 23 [.val s46] [(2,.val (.int .i64))] [47]
def H108:=hM [] []
def cal108 (F55 F135 F138 F140:Fun):CT:=cl [(55,qj D55 F55),(135,qj D135 F135),(138,qj D138 F138),(140,qj D140 F140)]
def run108 (F55 F135 F138 F140:Fun) (n:Nat) (x0:AV):=D108.R (cal108 F55 F135 F138 F140) H108 n [eta s46 x0]
def D158:FnD:=dF Tryz.f158 4 [.val .bool] [(2,.val (.int .i64))] [3]
def H158:=hM [] []
def cal158:CT:=cl []
def run158 (n:Nat) (x0:Bool):=D158.R cal158 H158 n [.bool x0]
def D109:FnD:={dF Tryz.f109 89 [.val s33] [(2,.obj (.row 5 .u8)),(3,.val (.int .i64))] [31,47] with own:=some 0}
def H109:=hM [] []
def cal109 (F136 F137 F155 F157 F158:Fun):CT:=cl [(136,qj D136 F136),(137,qj D137 F137),(155,qj D155 F155),(157,qj D157 F157),(158,qj D158 F158)]
def run109 (F136 F137 F155 F157 F158:Fun) (n:Nat) (x0:AV):=D109.R (cal109 F136 F137 F155 F157 F158) H109 n [eta s33 x0]
def D110:FnD:={dF Tryz.f110 8 [.val s38] [(2,.val (.fs .u8)),(3,.val (.int .i64))] [31,47] with esc:=true,fz:=[(2,(.fs .u8))]}
def H110:=hM [] []
def cal110 (F159:Fun):CT:=cl [(159,qj D159 F159)]
def run110 (F159:Fun) (n:Nat) (x0:AV):=D110.R (cal110 F159) H110 n [eta s38 x0]
def D65:FnD:={dF Tryz.f65 50 [.val s46] [(2,.val (.fs .u8)),(3,.val (.int .i64))] [31,47] with esc:=true,fz:=[(2,(.fs .u8))]}
def H65:=hM [] []
def cal65 (F53 F54 F106 F107 F108 F109 F110:Fun):CT:=cl [(53,qj D53 F53),(54,qj D54 F54),(106,qj D106 F106),(107,qj D107 F107),(108,qj D108 F108),(109,qj D109 F109),(110,qj D110 F110)]
def run65 (F53 F54 F106 F107 F108 F109 F110:Fun) (n:Nat) (x0:AV):=D65.R (cal65 F53 F54 F106 F107 F108 F109 F110) H65 n [eta s46 x0]
def D66:FnD:=dF Tryz.f66 8 [.val (.int .i64)] [(2,.val (.int .i64))] [3]
def H66:=hM [] []
def cal66:CT:=cl []
def run66 (n:Nat) (x0:Int):=D66.R cal66 H66 n [.int .i64 x0]
def D68:FnD:={dF Tryz.f68 8 [.val (.fs .u8)] [(2,.obj (.row 5 .u8))] [31] with own:=some 0}
def H68:=hM [] []
def cal68:CT:=cl []
def run68 (n:Nat) (x0:List Int):=D68.R cal68 H68 n [.fs .u8 x0]
def D67:FnD:={dF Tryz.f67 51 [.val s83] [(2,.obj (.row 5 .u8)),(3,.val (.int .i64))] [31,47] with own:=some 0}
def H67:=hM [(6,⟨[],[(1,uK s83),(5,uR),(21,.val (.fv s79)),(22,uI),(23,uI)],[uT 1]⟩)] [(11,⟨[],[(1,uK s83),(5,uR),(7,uK s79),(8,uI),(21,.val (.fv s79)),(22,uI),(23,uI)],[uT 1,uT 7]⟩),(12,⟨[],[(1,uK s83),(5,uR),(21,.val (.fv s79)),(22,uI),(23,uI)],[uT 1]⟩),(13,⟨[],[(1,uK s83),(5,uR)],[uT 1]⟩)]
def cal67 (F63 F68 F111:Fun):CT:=cl [(63,qj D63 F63),(68,qj D68 F68),(111,pK F111 5 .u8 31)]
def run67 (F63 F68 F111:Fun) (n:Nat) (x0:AV):=D67.R (cal67 F63 F68 F111) H67 n [eta s83 x0]
def D32:FnD:={dF Tryz.f32 40 [.val s46] [(2,.obj (.row 5 .u8)),(3,.val (.int .i64))] [31,47] with own:=some 0}
def H32:=hM [] []
def cal32 (F63 F64 F65 F66 F67:Fun):CT:=cl [(63,qj D63 F63),(64,qj D64 F64),(65,qj D65 F65),(66,qj D66 F66),(67,qj D67 F67)]
def run32 (F63 F64 F65 F66 F67:Fun) (n:Nat) (x0:AV):=D32.R (cal32 F63 F64 F65 F66 F67) H32 n [eta s46 x0]
def D33:FnD:={dF Tryz.f33 10 [.val (.fs .u8)] [(2,.obj (.row 5 .u8))] [31] with own:=some 0}
def H33:=hM [] []
def cal33 (F68:Fun):CT:=cl [(68,qj D68 F68)]
def run33 (F68:Fun) (n:Nat) (x0:List Int):=D33.R (cal33 F68) H33 n [.fs .u8 x0]
def D13:FnD:={dF Tryz.f13 16 [.val s46] [(2,.obj (.row 5 .u8)),(3,.val (.int .i64))] [31,47] with own:=some 0}
def H13:=hM [] []
def cal13 (F32 F33:Fun):CT:=cl [(32,qj D32 F32),(33,qj D33 F33)]
def run13 (F32 F33:Fun) (n:Nat) (x0:AV):=D13.R (cal13 F32 F33) H13 n [eta s46 x0]
def D38:FnD:=dF Tryz.f38 80 [.val s83,.val s83] [(4,.val .bool)] [4]
def H38:=hM [(4,⟨[],[(2,uK s83),(3,uK s83),(5,uI)],[uT 2,uT 3]⟩),(9,⟨[],[(2,uK s83),(3,uK s83),(6,uI)],[uT 2,uT 3]⟩)] [(2,⟨[],[(2,uK s83),(3,uK s83),(43,uB)],[uT 2,uT 3]⟩),(3,⟨[],[(2,uK s83),(3,uK s83)],[uT 2,uT 3]⟩),(8,⟨[],[(2,uK s83),(3,uK s83)],[uT 2,uT 3]⟩),(13,⟨[],[],[]⟩)]
def cal38:CT:=cl []
def run38 (n:Nat) (x0 x1:AV):=D38.R cal38 H38 n [eta s83 x0,eta s83 x1]
def D74:FnD:=dF Tryz.f74 10 [.val (.fs .u8),.val (.fs .u8)] [(4,.val .bool)] [4]
def H74:=hM [] []
def cal74:CT:=cl []
def run74 (n:Nat) (x0 x1:List Int):=D74.R cal74 H74 n [.fs .u8 x0,.fs .u8 x1]
def D73:FnD:=dF Tryz.f73 44 [.val (.fv s93),.val (.fv s93)] [(4,.val .bool)] [4]
def H73:=hM [(4,⟨[],[(0,uO),(1,uO),(5,uI)],[]⟩)] [(5,⟨[],[(0,uO),(1,uO),(5,uI)],[]⟩),(8,⟨[],[(0,uO),(1,uO),(5,uI),(43,uB)],[]⟩),(9,⟨[],[],[]⟩)]
def cal73 (F74:Fun):CT:=cl [(74,qj D74 F74)]
def run73 (F74:Fun) (n:Nat) (x0 x1:List AV):=D73.R (cal73 F74) H73 n [.fv s93 x0,.fv s93 x1]
def D39:FnD:=dF Tryz.f39 78 [.val s33,.val s33] [(4,.val .bool)] [4]
def H39:=hM [] [(2,⟨[],[(2,uK s33),(3,uK s33),(65,uB)],[uT 2,uT 3]⟩),(3,⟨[],[(2,uK s33),(3,uK s33)],[uT 2,uT 3]⟩)]
def cal39 (F73 F74:Fun):CT:=cl [(73,qj D73 F73),(74,qj D74 F74)]
def run39 (F73 F74:Fun) (n:Nat) (x0 x1:AV):=D39.R (cal39 F73 F74) H39 n [eta s33 x0,eta s33 x1]
def D18:FnD:=dF Tryz.f18 10 [.val (.fs .u8),.val (.fs .u8)] [(4,.val .bool)] [4]
def H18:=hM [] []
def cal18:CT:=cl []
def run18 (n:Nat) (x0 x1:List Int):=D18.R cal18 H18 n [.fs .u8 x0,.fs .u8 x1]
def D114:FnD:=dF Tryz.f114 42 [.val (.fv s93),.val (.fv s93)] [(4,.val .bool)] [4]
def H114:=hM [(4,⟨[],[(0,uO),(1,uO),(5,uI)],[]⟩)] [(5,⟨[],[(0,uO),(1,uO),(5,uI)],[]⟩),(7,⟨[],[(0,uO),(1,uO),(5,uI),(41,uB)],[]⟩),(8,⟨[],[],[]⟩)]
def cal114 (F18:Fun):CT:=cl [(18,qj D18 F18)]
def run114 (F18:Fun) (n:Nat) (x0 x1:List AV):=D114.R (cal114 F18) H114 n [.fv s93 x0,.fv s93 x1]
def D75:FnD:=dF Tryz.f75 56 [.val (.fv s124),.val (.fv s124)] [(4,.val .bool)] [4]
def H75:=hM [(4,⟨[],[(0,.val (.fv s124)),(1,.val (.fv s124)),(5,uI)],[]⟩)] [(5,⟨[],[(0,.val (.fv s124)),(1,.val (.fv s124)),(5,uI)],[]⟩),(7,⟨[],[(0,.val (.fv s124)),(1,.val (.fv s124)),(5,uI),(55,uB)],[]⟩),(8,⟨[],[],[]⟩)]
def cal75 (F18 F114:Fun):CT:=cl [(18,qj D18 F18),(114,qj D114 F114)]
def run75 (F18 F114:Fun) (n:Nat) (x0 x1:List AV):=D75.R (cal75 F18 F114) H75 n [.fv s124 x0,.fv s124 x1]
def D40:FnD:=dF Tryz.f40 64 [.val s38,.val s38] [(4,.val .bool)] [4]
def H40:=hM [] [(2,⟨[],[(2,uK s38),(3,uK s38),(51,uB)],[uT 2,uT 3]⟩),(3,⟨[],[(2,uK s38),(3,uK s38)],[uT 2,uT 3]⟩)]
def cal40 (F18 F75:Fun):CT:=cl [(18,qj D18 F18),(75,qj D75 F75)]
def run40 (F18 F75:Fun) (n:Nat) (x0 x1:AV):=D40.R (cal40 F18 F75) H40 n [eta s38 x0,eta s38 x1]
def D41:FnD:=dF Tryz.f41 59 [.val s40,.val s40] [(4,.val .bool)] [4]
def H41:=hM [(4,⟨[],[(2,uK s40),(3,uK s40),(5,uI)],[uT 2,uT 3]⟩)] [(2,⟨[],[(2,uK s40),(3,uK s40),(40,uB)],[uT 2,uT 3]⟩),(3,⟨[],[(2,uK s40),(3,uK s40)],[uT 2,uT 3]⟩),(8,⟨[],[],[]⟩)]
def cal41:CT:=cl []
def run41 (n:Nat) (x0 x1:AV):=D41.R cal41 H41 n [eta s40 x0,eta s40 x1]
def D42:FnD:=dF Tryz.f42 31 [.val s42,.val s42] [(4,.val .bool)] [4]
def H42:=hM [] []
def cal42 (F74:Fun):CT:=cl [(74,qj D74 F74)]
def run42 (F74:Fun) (n:Nat) (x0 x1:AV):=D42.R (cal42 F74) H42 n [eta s42 x0,eta s42 x1]
def D43:FnD:=dF Tryz.f43 64 [.val s44,.val s44] [(4,.val .bool)] [4]
def H43:=hM [] [(2,⟨[],[(2,uK s44),(3,uK s44),(51,uB)],[uT 2,uT 3]⟩),(3,⟨[],[(2,uK s44),(3,uK s44)],[uT 2,uT 3]⟩)]
def cal43 (F73 F74:Fun):CT:=cl [(73,qj D73 F73),(74,qj D74 F74)]
def run43 (F73 F74:Fun) (n:Nat) (x0 x1:AV):=D43.R (cal43 F73 F74) H43 n [eta s44 x0,eta s44 x1]
def D15:FnD:=dF Tryz.f15 80 [.val s46,.val s46] [(4,.val .bool)] [4]
def H15:=hM [] [(4,⟨[],[(2,uK s46),(3,uK s46),(45,uB)],[uT 2,uT 3]⟩),(5,⟨[],[(2,uK s46),(3,uK s46)],[uT 2,uT 3]⟩),(6,⟨[],[(2,uK s46),(3,uK s46),(67,uB)],[uT 2,uT 3]⟩),(7,⟨[],[(2,uK s46),(3,uK s46)],[uT 2,uT 3]⟩)]
def cal15 (F38 F39 F40 F41 F42 F43:Fun):CT:=cl [(38,qj D38 F38),(39,qj D39 F39),(40,qj D40 F40),(41,qj D41 F41),(42,qj D42 F42),(43,qj D43 F43)]
def run15 (F38 F39 F40 F41 F42 F43:Fun) (n:Nat) (x0 x1:AV):=D15.R (cal15 F38 F39 F40 F41 F42 F43) H15 n [eta s46 x0,eta s46 x1]
def D17:FnD:=dF Tryz.f17 4 [.val (.int .i64)] [(2,.val (.int .i64))] [3]
def H17:=hM [] []
def cal17:CT:=cl []
def run17 (n:Nat) (x0:Int):=D17.R cal17 H17 n [.int .i64 x0]
def D125:FnD:={dF Tryz.f125 34 [.val (.fs .u8),.val (.int .i64),.val (.int .i64)] [(6,.val (.fs .u8))] [31] with esc:=true,fz:=[(6,(.fs .u8))]}
def H125:zi where
 loops:=fun _=>none
 joins:=fun i=>match i with
  | 2=>some ⟨[],[(0,uY),(1,uI),(2,uI),(22,uB)],[]⟩
  | 3=>some ⟨[],[(0,uY),(1,uI),(2,uI)],[]⟩
  | _=>none
 pan:=fun i=>match i with
  | 2=>some (1,sY 24)
  | _=>none
def cal125:CT:=cl []
def em (n:Nat) (x0:List Int) (x1:Int) (x2:Int):Option Unit:=zD n 34 ⟨[],[]⟩ Tryz.prog env (cal125) H125 D125.body ⟨([.fs .u8 x0,.int .i64 x1,.int .i64 x2]:List AV)++List.replicate 31 .undef,[],[]⟩ (QT ())
def run125 (n:Nat) (x0:List Int) (x1 x2:Int):=D125.R cal125 H125 n [.fs .u8 x0,.int .i64 x1,.int .i64 x2]
def D126:FnD:=dF Tryz.f126 19 [.val (.fs .u8),.val (.int .i64)] [(4,.val (.int .u8))] [5]
def H126:zi where
 loops:=fun _=>none
 joins:=fun i=>match i with
  | 2=>some ⟨[],[(0,uY),(1,uI),(12,uB)],[]⟩
  | 3=>some ⟨[],[(0,uY),(1,uI)],[]⟩
  | _=>none
 pan:=fun i=>match i with
  | 2=>some (1,sY 14)
  | _=>none
def cal126:CT:=cl []
def iZ (n:Nat) (x0:List Int) (x1:Int):Option Unit:=zD n 19 ⟨[],[]⟩ Tryz.prog env (cal126) H126 D126.body ⟨([.fs .u8 x0,.int .i64 x1]:List AV)++List.replicate 17 .undef,[],[]⟩ (QT ())
def run126 (n:Nat) (x0:List Int) (x1:Int):=D126.R cal126 H126 n [.fs .u8 x0,.int .i64 x1]
def D83:FnD:={dF Tryz.f83 63 [.val (.fs .u8),.val (.int .i64),.val (.fs .i64)] [(6,.cell (.fs .i64) 142),(7,.cell (.int .i64) 3),(8,.cell (.int .i64) 47)] [142,3,47] with esc:=true,fzc:=[(6,(.fs .i64))]}
def H83:zi where
 loops:=fun i=>match i with
  | 8=>some ⟨[],[(1,uI),(6,.keepR (.row 3 .i64)),(7,uK (.int .i64)),(8,uK (.int .i64)),(9,uI),(10,uY),(11,uI),(28,uN),(29,uI),(30,uI)],[uT 6,uT 7,uT 8]⟩
  | 12=>some ⟨[],[(1,uI),(6,.keepR (.row 3 .i64)),(7,uK (.int .i64)),(8,uK (.int .i64)),(9,uI),(10,uY),(11,uI),(14,uI),(28,uN),(29,uI),(30,uI),(34,uI),(35,uI)],[uT 6,uT 7,uT 8]⟩
  | _=>none
 joins:=fun i=>match i with
  | 16=>some ⟨[],[(1,uI),(6,.keepR (.row 3 .i64)),(7,uK (.int .i64)),(8,uK (.int .i64)),(9,uI),(10,uY),(11,uI),(14,uI),(28,uN),(29,uI),(30,uI)],[uT 6,uT 7,uT 8]⟩
  | 17=>some ⟨[],[(1,uI),(6,.keepR (.row 3 .i64)),(7,uK (.int .i64)),(8,uK (.int .i64)),(9,uI),(10,uY),(11,uI),(28,uN),(29,uI),(30,uI)],[uT 6,uT 7,uT 8]⟩
  | 18=>some ⟨[],[(1,uI),(6,.keepR (.row 3 .i64)),(7,uK (.int .i64)),(8,uK (.int .i64)),(9,uI)],[uT 6,uT 7,uT 8]⟩
  | _=>none
 over:=fun i=>match i with
  | 4=>some (dC 23 [6,7,8])
  | _=>none
 pan:=fun i=>match i with
  | 5=>some (3,nU [.fs .u8,.int .i64,.int .i64] [.tmp 24,.tmp 25,.tmp 26] B125)
  | 13=>some (5,nU [.fs .u8,.int .i64] [.tmp 39,.tmp 41] B126)
  | _=>none
def cal83 (F123 F125 F126:Fun):CT:=cl [(123,qj D123 F123),(125,qj D125 F125),(126,qj D126 F126)]
def run83 (F123 F125 F126:Fun) (n:Nat) (x0:List Int) (x1:Int) (x2:List Int):Option (List AV):=D83.runR Tryz.prog env (cal83 F123 F125 F126) H83 (uQ (Tryz.f124.body.getD .skip)) 5 [6,7,8] n [.fs .u8 x0,.int .i64 x1,.fs .i64 x2]
def D84:FnD:=dF Tryz.f84 6 [.val (.fv (.fs .u8))] [(2,.val .bool)] [4]
def H84:=hM [] []
def cal84 (F127:Fun):CT:=cl [(127,qj D127 F127)]
def run84 (F127:Fun) (n:Nat) (x0:List AV):=D84.R (cal84 F127) H84 n [.fv (.fs .u8) x0]
def D58:FnD:={dF Tryz.f58 79 [.val (.int .i64),.val s27,.val s27,.val (.fs .u8)] [(8,.cell s40 40),(9,.val (.int .i64))] [40,47] with esc:=true,fzc:=[(8,s40)]}
def H58:=hM [] [(4,⟨[],[(0,uI),(3,uY),(5,uK s27),(6,uK s27),(8,uK s40),(19,uB)],[uT 5,uT 6,uT 8]⟩),(5,⟨[],[(0,uI),(3,uY),(5,uK s27),(6,uK s27),(8,uK s40)],[uT 5,uT 6,uT 8]⟩)]
def cal58 (F83 F84 F95 F96:Fun):CT:=cl [(83,qj D83 F83),(84,qj D84 F84),(95,qj D95 F95),(96,qj D96 F96)]
def run58 (F83 F84 F95 F96:Fun) (n:Nat) (x0:Int) (x1 x2:AV) (x3:List Int):=D58.R (cal58 F83 F84 F95 F96) H58 n [.int .i64 x0,eta s27 x1,eta s27 x2,.fs .u8 x3]
def D98:FnD:=dF Tryz.f98 28 [.val s27,.val s27,.val (.int .i64),.val (.fs .u8)] [(8,.val .bool)] [4]
def H98:=hM [] []
def cal98 (F84 F139:Fun):CT:=cl [(84,qj D84 F84),(139,qj D139 F139)]
def run98 (F84 F139:Fun) (n:Nat) (x0 x1:AV) (x2:Int) (x3:List Int):=D98.R (cal98 F84 F139) H98 n [eta s27 x0,eta s27 x1,.int .i64 x2,.fs .u8 x3]
def D59:FnD:={dF Tryz.f59 86 [.val s27,.val s27,.val (.fs .u8)] [(6,.cell s42 42),(7,.val (.int .i64))] [42,47] with esc:=true,fzc:=[(6,s42)]}
def H59:=hM [] [(12,⟨[],[(2,uY),(3,uK s27),(4,uK s27),(6,uK s42),(10,uN),(13,uI),(14,uB),(45,uB)],[uT 3,uT 4,uT 6]⟩),(14,⟨[],[(2,uY),(3,uK s27),(4,uK s27),(6,uK s42),(10,uN),(13,uI),(14,uB),(55,uB)],[uT 3,uT 4,uT 6]⟩),(15,⟨[],[(2,uY),(6,uK s42),(10,uN),(13,uI),(14,uB),(55,uB)],[uT 6]⟩),(16,⟨[],[(2,uY),(6,uK s42),(10,uN),(13,uI),(14,uB)],[uT 6]⟩)]
def cal59 (F83 F97 F98:Fun):CT:=cl [(83,qj D83 F83),(97,qj D97 F97),(98,qj D98 F98)]
def run59 (F83 F97 F98:Fun) (n:Nat) (x0 x1:AV) (x2:List Int):=D59.R (cal59 F83 F97 F98) H59 n [eta s27 x0,eta s27 x1,.fs .u8 x2]
def D99:FnD:={dF Tryz.f99 72 [.val (.fs .u8)] [(2,.obj (.rows 93 s93)),(3,.val (.int .i64))] [30,47] with own:=some 0,esc:=true}
def H99:=hM [(5,⟨[],[(0,uY),(4,.obj (.rows 93 s93)),(5,uI)],[]⟩)] [(14,⟨[],[(0,uY),(4,.obj (.rows 93 s93)),(5,uI),(6,uI),(7,uI),(52,uB)],[]⟩),(15,⟨[],[(0,uY),(4,.obj (.rows 93 s93)),(5,uI),(6,uI),(7,uI)],[]⟩),(17,⟨[],[(4,.obj (.rows 93 s93))],[]⟩)]
def cal99 (F142:Fun):CT:=cl [(142,qj D142 F142)]
def run99 (F142:Fun) (n:Nat) (x0:List Int):=D99.R (cal99 F142) H99 n [.fs .u8 x0]
def D60:FnD:={dF Tryz.f60 102 [.val s27,.val s27,.val (.fs .u8)] [(6,.cell s44 44),(7,.val (.int .i64))] [44,47] with esc:=true,fzc:=[(6,s44)]}
def H60:=hM [] [(12,⟨[],[(2,uY),(3,uK s27),(4,uK s27),(6,uK s44),(10,uN),(13,uI),(43,uB)],[uT 3,uT 4,uT 6]⟩),(15,⟨[],[(2,uY),(6,uK s44),(10,uN),(13,uI)],[uT 6]⟩)]
def cal60 (F83 F97 F98 F99:Fun):CT:=cl [(83,qj D83 F83),(97,qj D97 F97),(98,qj D98 F98),(99,qj D99 F99)]
def run60 (F83 F97 F98 F99:Fun) (n:Nat) (x0 x1:AV) (x2:List Int):=D60.R (cal60 F83 F97 F98 F99) H60 n [eta s27 x0,eta s27 x1,.fs .u8 x2]
def D26:FnD:={dF Tryz.f26 82 [.val s46] [(2,.cell s46 46),(3,.val (.int .i64))] [46,47] with esc:=true,fzc:=[(2,s46)]}
def H26:=hM [] [(2,⟨[],[(1,uK s46),(2,uK s46),(20,uB)],[uT 1,uT 2]⟩),(3,⟨[],[(1,uK s46),(2,uK s46)],[uT 1,uT 2]⟩),(19,⟨[],[(1,uK s46),(2,uK s46),(6,uI)],[uT 1,uT 2]⟩)]
def cal26 (F54 F55 F56 F57 F58 F59 F60:Fun):CT:=cl [(54,qj D54 F54),(55,qj D55 F55),(56,qj D56 F56),(57,qj D57 F57),(58,qj D58 F58),(59,qj D59 F59),(60,qj D60 F60)]
def run26 (F54 F55 F56 F57 F58 F59 F60:Fun) (n:Nat) (x0:AV):=D26.R (cal26 F54 F55 F56 F57 F58 F59 F60) H26 n [eta s46 x0]
def D78:FnD:=dF Tryz.f78 18 [.val (.fs .u8),.val (.int .i64)] [(4,.val (.int .i64))] [3]
def H78:=hM [] []
def cal78:CT:=cl []
def run78 (n:Nat) (x0:List Int) (x1:Int):=D78.R cal78 H78 n [.fs .u8 x0,.int .i64 x1]
def D49:FnD:={dF Tryz.f49 104 [.val (.fs .u8)] [(2,.cell s83 83),(3,.val (.int .i64))] [83,47] with esc:=true,fzc:=[(2,s83)]}
def H49:=hM [(9,⟨[],[(0,uY),(2,uK s83),(4,.keepP [.arr .u8 6,.arr .u8 6,.fv s79,.int .i64,.fs .u8] 2 (.rows 79 s79)),(5,uI)],[uT 2,uT 4]⟩)] [(13,⟨[],[(0,uY),(2,uK s83),(4,.keepP [.arr .u8 6,.arr .u8 6,.fv s79,.int .i64,.fs .u8] 2 (.rows 79 s79)),(5,uI),(6,uI),(41,uB)],[uT 2,uT 4]⟩),(16,⟨[],[(0,uY),(2,uK s83),(4,.keepP [.arr .u8 6,.arr .u8 6,.fv s79,.int .i64,.fs .u8] 2 (.rows 79 s79)),(5,uI),(6,uI)],[uT 2,uT 4]⟩),(22,⟨[],[(0,uY),(2,uK s83),(4,.keepP [.arr .u8 6,.arr .u8 6,.fv s79,.int .i64,.fs .u8] 2 (.rows 79 s79)),(5,uI)],[uT 2,uT 4]⟩)]
def cal49 (F77 F78 F79:Fun):CT:=cl [(77,qj D77 F77),(78,qj D78 F78),(79,qj D79 F79)]
def run49 (F77 F78 F79:Fun) (n:Nat) (x0:List Int):=D49.R (cal49 F77 F78 F79) H49 n [.fs .u8 x0]
def D120:FnD:=dF Tryz.f120 9 [.val (.int .i64)] [(2,.val .bool)] [4]
def H120:=hM [] []
def cal120:CT:=cl []
def D122:FnD:=dF Tryz.f122 34 [.val (.fs .u8),.val (.int .i64),.val (.int .i64)] [(6,.val (.int .u64))] [136]
def H122:zi where
 loops:=fun i=>match i with
  | 5=>some ⟨[],[(0,uY),(1,uI),(7,.val (.int .u64)),(19,uI),(20,uI)],[]⟩
  | _=>none
 joins:=fun i=>match i with
  | 2=>some ⟨[],[(0,uY),(1,uI),(2,uI),(16,uB)],[]⟩
  | 3=>some ⟨[],[(0,uY),(1,uI),(2,uI)],[]⟩
  | 9=>some ⟨[],[(7,.val (.int .u64))],[]⟩
  | _=>none
 pan:=fun i=>match i with
  | 2=>some (1,sY 18)
  | 7=>some (6,nU [.fs .u8,.int .i64] [.tmp 25,.tmp 28] B126)
  | _=>none
def cal122 (F126:Fun):CT:=cl [(126,qj D126 F126)]
def eg (F126:Fun) (n:Nat) (x0:List Int) (x1:Int) (x2:Int):Option Unit:=zD n 34 ⟨[],[]⟩ Tryz.prog env (cal122 F126) H122 D122.body ⟨([.fs .u8 x0,.int .i64 x1,.int .i64 x2]:List AV)++List.replicate 31 .undef,[],[]⟩ (QT ())
def run122 (F126:Fun) (n:Nat) (x0:List Int) (x1 x2:Int):=D122.R (cal122 F126) H122 n [.fs .u8 x0,.int .i64 x1,.int .i64 x2]
def D80:FnD:=dF Tryz.f80 16 [.val (.fs .u8),.val (.int .i64),.val (.int .i64)] [(6,.cell (.int .u64) 136),(7,.cell (.int .i64) 47)] [136,47]
def H80:zi where
 loops:=fun _=>none
 joins:=fun _=>none
 over:=fun i=>match i with
  | 3=>some (dC 11 [6,7])
  | _=>none
 pan:=fun i=>match i with
  | 4=>some (3,nU [.fs .u8,.int .i64,.int .i64] [.tmp 12,.tmp 13,.tmp 14] B122)
  | _=>none
def cal80 (F120 F122:Fun):CT:=cl [(120,qj D120 F120),(122,qj D122 F122)]
def run80 (F120 F122:Fun) (n:Nat) (x0:List Int) (x1:Int) (x2:Int):Option (List AV):=D80.runR Tryz.prog env (cal80 F120 F122) H80 (uQ (Tryz.f121.body.getD .skip)) 4 [6,7] n [.fs .u8 x0,.int .i64 x1,.int .i64 x2]
def D50:FnD:=dF Tryz.f50 56 [.val (.fs .u8)] [(2,.cell s29 29),(3,.val (.int .i64))] [29,47]
def H50:=hM [] []
def cal50 (F80 F81 F82:Fun):CT:=cl [(80,qj D80 F80),(81,qj D81 F81),(82,qj D82 F82)]
def run50 (F80 F81 F82:Fun) (n:Nat) (x0:List Int):=D50.R (cal50 F80 F81 F82) H50 n [.fs .u8 x0]
def D85:FnD:={dF Tryz.f85 69 [.val (.fs .u8)] [(2,.obj (.rows 93 s93)),(3,.val (.int .i64))] [30,47] with own:=some 0,esc:=true}
def H85:=hM [(5,⟨[],[(0,uY),(4,.obj (.rows 93 s93)),(5,uI)],[]⟩)] [(15,⟨[],[(0,uY),(4,.obj (.rows 93 s93)),(5,uI),(6,uI),(45,uB)],[]⟩),(16,⟨[],[(0,uY),(4,.obj (.rows 93 s93)),(5,uI),(6,uI)],[]⟩),(18,⟨[],[(4,.obj (.rows 93 s93))],[]⟩)]
def cal85:CT:=cl []
def run85 (n:Nat) (x0:List Int):=D85.R cal85 H85 n [.fs .u8 x0]
def D87:FnD:=dF Tryz.f87 5 [.val (.int .i64)] [(2,.val .bool)] [4]
def H87:=hM [] []
def cal87:CT:=cl []
def run87 (n:Nat) (x0:Int):=D87.R cal87 H87 n [.int .i64 x0]
def D88:FnD:=dF Tryz.f88 10 [.val (.fs .u8)] [(2,.cell s27 27)] [27]
def H88:=hM [] []
def cal88:CT:=cl []
def run88 (n:Nat) (x0:List Int):=D88.R cal88 H88 n [.fs .u8 x0]
def D51:FnD:={dF Tryz.f51 140 [.val (.fs .u8)] [(2,.cell s33 33),(3,.val (.int .i64))] [33,47] with esc:=true,fzc:=[(2,s33)]}
def H51:=hM [] [(11,⟨[],[(0,uY),(2,uK s33),(5,uN),(8,uI),(9,uI),(44,uB)],[uT 2]⟩),(13,⟨[],[(0,uY),(2,uK s33),(5,uN),(8,uI),(9,uI),(54,uB)],[uT 2]⟩),(16,⟨[],[(0,uY),(2,uK s33),(5,uN),(8,uI),(9,uI)],[uT 2]⟩),(19,⟨[],[(0,uY),(2,uK s33),(5,uN),(8,uI),(9,uI),(10,.obj (.rows 93 s93)),(11,uI)],[uT 2]⟩)]
def cal51 (F83 F84 F85 F86 F87 F88:Fun):CT:=cl [(83,qj D83 F83),(84,qj D84 F84),(85,qj D85 F85),(86,qj D86 F86),(87,qj D87 F87),(88,qj D88 F88)]
def run51 (F83 F84 F85 F86 F87 F88:Fun) (n:Nat) (x0:List Int):=D51.R (cal51 F83 F84 F85 F86 F87 F88) H51 n [.fs .u8 x0]
def D128:FnD:={dF Tryz.f128 15 [.val (.fs .u8),.val (.int .i64),.val (.int .i64)] [(6,.cell (.fs .u8) 31),(7,.cell (.int .i64) 47)] [31,47] with esc:=true,fzc:=[(6,(.fs .u8))]}
def H128:zi where
 loops:=fun _=>none
 joins:=fun _=>none
 over:=fun i=>match i with
  | 3=>some (dC 10 [6,7])
  | _=>none
 pan:=fun i=>match i with
  | 4=>some (3,nU [.fs .u8,.int .i64,.int .i64] [.tmp 11,.tmp 12,.tmp 13] B125)
  | _=>none
def cal128 (F125:Fun):CT:=cl [(125,qj D125 F125)]
def run128 (F125:Fun) (n:Nat) (x0:List Int) (x1:Int) (x2:Int):Option (List AV):=D128.runR Tryz.prog env (cal128 F125) H128 (uQ (Tryz.f179.body.getD .skip)) 4 [6,7] n [.fs .u8 x0,.int .i64 x1,.int .i64 x2]
def D89:FnD:={dF Tryz.f89 43 [.val (.fs .u8)] [(2,.val (.fs .i64)),(3,.val (.fs .u8)),(4,.val (.int .i64))] [142,31,47] with esc:=true,fz:=[(2,(.fs .i64)),(3,(.fs .u8))]}
def H89:=hM [] []
def cal89 (F83 F128:Fun):CT:=cl [(83,qj D83 F83),(128,qj D128 F128)]
def run89 (F83 F128:Fun) (n:Nat) (x0:List Int):=D89.R (cal89 F83 F128) H89 n [.fs .u8 x0]
def D129:FnD:={dF Tryz.f129 6 [.val (.fs .u8)] [(2,.val (.pt 1))] [193] with fs:=[xX],esc:=true}
def H129:=hM [] []
def cal129:CT:=cl []
def run129 (n:Nat) (x0:List Int) (m1:List AV):=D129.R cal129 H129 n [.fs .u8 x0,.tup m1]
def D133:FnD:={dF Tryz.f133 33 [.val (.pt 1),.val (.int .i64)] [(4,.val (.fs .u8)),(5,.val (.int .i64))] [31,47] with fs:=[xX],esc:=true,fz:=[(4,(.fs .u8))]}
def H133:=hM [] [(4,⟨[xX],[(6,uY),(7,uI)],[]⟩)]
def cal133 (F128:Fun):CT:=cl [(128,qj D128 F128)]
def run133 (F128:Fun) (n:Nat) (x0:Option Nat) (x1:Int) (m1:List AV):=D133.R (cal133 F128) H133 n [.pt 1 x0,.int .i64 x1,.tup m1]
def D134:FnD:={dF Tryz.f134 13 [.val (.pt 1)] [(2,.val (.int .i64))] [3] with fs:=[xX],esc:=true}
def H134:=hM [] []
def cal134:CT:=cl []
def run134 (n:Nat) (x0:Option Nat) (m1:List AV):=D134.R cal134 H134 n [.pt 1 x0,.tup m1]
def D131:FnD:={dF Tryz.f131 60 [.val s152,.val (.pt 1)] [(4,.cell s152 152),(5,.val (.int .i64))] [152,47] with fs:=[xX],esc:=true,fzc:=[(4,s152)]}
def H131:=hM [] []
def cal131 (F83 F133 F134 F180:Fun):CT:=cl [(83,qj D83 F83),(133,qj D133 F133),(134,qj D134 F134),(180,qj D180 F180)]
def run131 (F83 F133 F134 F180:Fun) (n:Nat) (x0:AV) (x1:Option Nat) (m1:List AV):=D131.R (cal131 F83 F133 F134 F180) H131 n [eta s152 x0,.pt 1 x1,.tup m1]
def D181:FnD:={dF Tryz.f181 33 [.val (.pt 1),.val (.int .i64)] [(4,.val (.int .u64)),(5,.val (.int .i64))] [136,47] with fs:=[xX],esc:=true}
def H181:=hM [] [(4,⟨[xX],[(6,.val (.int .u64)),(7,uI)],[]⟩)]
def cal181 (F80:Fun):CT:=cl [(80,qj D80 F80)]
def run181 (F80:Fun) (n:Nat) (x0:Option Nat) (x1:Int) (m1:List AV):=D181.R (cal181 F80) H181 n [.pt 1 x0,.int .i64 x1,.tup m1]
def H214:=hM [] []
def cal214:CT:=cl []
def D215:FnD:=dF Tryz.f215 31 [.val (.fs .u8),.val (.int .i64)] [(4,.val (.int .i64))] [3]
def H215:zi where
 loops:=fun _=>none
 joins:=fun i=>match i with
  | 3=>some ⟨[],[(5,.val (.int .u64)),(25,uB)],[]⟩
  | 4=>some ⟨[],[(5,.val (.int .u64))],[]⟩
  | _=>none
 pan:=fun i=>match i with
  | 3=>some (1,sY 27)
  | _=>none
def cal215 (F80:Fun):CT:=cl [(80,qj D80 F80)]
def iu (F80:Fun) (n:Nat) (x0:List Int) (x1:Int):Option Unit:=zD n 31 ⟨[],[]⟩ Tryz.prog env (cal215 F80) H215 D215.body ⟨([.fs .u8 x0,.int .i64 x1]:List AV)++List.replicate 29 .undef,[],[]⟩ (QT ())
def run215 (F80:Fun) (n:Nat) (x0:List Int) (x1:Int):=D215.R (cal215 F80) H215 n [.fs .u8 x0,.int .i64 x1]
def eS:Inl:={ f:=214,body:=Tryz.f214.body.getD .skip,m:=10,H:=H214,pn:=⟨[2,3,4],[]⟩,rs:=[] }
def iJ:Inl:={ f:=214,body:=Tryz.f214.body.getD .skip,m:=10,H:=H214,pn:=⟨[2,3,4],[]⟩,rs:=[] }
def D182:FnD:={dF Tryz.f182 59 [.val (.fs .u8)] [(2,.cell (.fv s93) 30),(3,.cell (.int .i64) 47)] [30,47] with esc:=true,fzc:=[(2,(.fv s93))]}
def H182:zi where
 loops:=fun i=>match i with
  | 5=>some ⟨[],[(0,uY),(2,.keepR (.rows 93 s93)),(3,uK (.int .i64)),(4,uK (.int .i64)),(6,uI)],[uT 2,uT 3,uT 4,(5,.clo 214 [.ref (.top 4) 0,.ref (.top 2) 0])]⟩
  | _=>none
 joins:=fun i=>match i with
  | 16=>some ⟨[],[(0,uY),(2,.keepR (.rows 93 s93)),(3,uK (.int .i64)),(4,uK (.int .i64)),(6,uI),(8,uI)],[uT 2,uT 3,uT 4,(5,.clo 214 [.ref (.top 4) 0,.ref (.top 2) 0])]⟩
  | 17=>some ⟨[],[(2,.keepR (.rows 93 s93)),(3,uK (.int .i64)),(4,uK (.int .i64))],[uT 2,uT 3,(5,.clo 214 [.ref (.top 4) 0,.ref (.top 2) 0])]⟩
  | _=>none
 over:=fun i=>match i with
  | 13=>some (an Tryz.prog env (cal214) eS (jg 13 (Tryz.f182.body.getD .skip)) 1)
  | 17=>some (an Tryz.prog env (cal214) iJ (jg 17 (Tryz.f182.body.getD .skip)) 1)
  | 1=>some (dC 11 [2,3])
  | _=>none
 pan:=fun i=>match i with
  | 10=>some (2,nU [.fs .u8,.int .i64] [.tmp 28,.tmp 29] B215)
  | _=>none
def cal182 (F128 F215:Fun):CT:=cl [(128,qj D128 F128),(215,qj D215 F215)]
def run182 (F128 F215:Fun) (n:Nat) (x0:List Int):Option (List AV):=D182.runR Tryz.prog env (cal182 F128 F215) H182 (uQ (Tryz.f213.body.getD .skip)) 4 [2,3] n [.fs .u8 x0]
def H132:=hM [] []
def cal132 (F130 F133 F134 F181 F182:Fun):CT:=cl [(130,qj D130 F130),(133,qj D133 F133),(134,qj D134 F134),(181,qj D181 F181),(182,qj D182 F182)]
def oQ:Inl:={ f:=132,body:=Tryz.f132.body.getD .skip,m:=79,H:=H132,pn:=⟨[6,8],[1]⟩,rs:=[4] }
def D90:FnD:={dF Tryz.f90 59 [.val (.int .i64),.val (.fs .u8),.val .bool] [(6,.cell s152 152),(7,.val (.int .i64))] [152,47] with fs:=[xX],esc:=true,fzc:=[(6,s152)]}
def H90 (F130 F133 F134 F181 F182:Fun):zi where
 loops:=fun i=>match i with
  | 4=>some ⟨[xX],[(2,uB),(6,uK s152),(8,.keepP [.fv s124,s36,.int .i64,.fs .u8] 0 (.rows 124 s124)),(9,.val (.pt 1)),(10,uI)],[uT 6,uT 8]⟩
  | _=>none
 joins:=fun i=>match i with
  | 5=>some ⟨[xX],[(2,uB),(6,uK s152),(8,.keepP [.fv s124,s36,.int .i64,.fs .u8] 0 (.rows 124 s124)),(9,.val (.pt 1)),(10,uI)],[uT 6,uT 8]⟩
  | 11=>some ⟨[xX],[(2,uB),(6,uK s152),(8,.keepP [.fv s124,s36,.int .i64,.fs .u8] 0 (.rows 124 s124)),(9,.val (.pt 1)),(10,uI),(42,uB)],[uT 6,uT 8]⟩
  | 12=>some ⟨[xX],[(2,uB),(6,uK s152),(8,.keepP [.fv s124,s36,.int .i64,.fs .u8] 0 (.rows 124 s124)),(9,.val (.pt 1)),(10,uI)],[uT 6,uT 8]⟩
  | 15=>some ⟨[xX],[(6,uK s152),(8,.keepP [.fv s124,s36,.int .i64,.fs .u8] 0 (.rows 124 s124)),(9,.val (.pt 1))],[uT 6,uT 8]⟩
  | _=>none
 over:=fun i=>match i with
  | 12=>some (an Tryz.prog env (cal132 F130 F133 F134 F181 F182) oQ (jg 12 (Tryz.f90.body.getD .skip)) 1)
  | _=>none
def cal90 (F129 F130 F131 F133 F134:Fun):CT:=cl [(129,qj D129 F129),(130,qj D130 F130),(131,qj D131 F131),(133,qj D133 F133),(134,qj D134 F134)]
def run90 (F129 F130 F131 F133 F134 F181 F182:Fun) (n:Nat) (x0:Int) (x1:List Int) (x2:Bool) (m1:List AV):Option (List AV):=D90.run Tryz.prog env (cal90 F129 F130 F131 F133 F134) (H90 F130 F133 F134 F181 F182) n [.int .i64 x0,.fs .u8 x1,.bool x2,.tup m1]
def D52:FnD:={dF Tryz.f52 62 [.val (.fs .u8)] [(2,.cell s38 38),(3,.val (.int .i64))] [38,47] with fs:=[xX],esc:=true,fzc:=[(2,s38)]}
def H52:=hM [] []
def cal52 (F89 F90:Fun):CT:=cl [(89,qj D89 F89),(90,qj D90 F90)]
def run52 (F89 F90:Fun) (n:Nat) (x0:List Int) (m1:List AV):=D52.R (cal52 F89 F90) H52 n [.fs .u8 x0,.tup m1]
def D23:FnD:={dF Tryz.f23 63 [.val (.fs .u8)] [(2,.cell s46 46),(3,.val (.int .i64))] [46,47] with fs:=[xX],esc:=true,fzc:=[(2,s46)]}
def H23:=hM [] [(16,⟨[xX],[(2,uK s46),(5,uI),(6,uK s46)],[uT 2,uT 6]⟩)]
def cal23 (F26 F49 F50 F51 F52:Fun):CT:=cl [(26,qj D26 F26),(49,qj D49 F49),(50,qj D50 F50),(51,qj D51 F51),(52,qj D52 F52)]
def run23 (F26 F49 F50 F51 F52:Fun) (n:Nat) (x0:List Int) (m1:List AV):=D23.R (cal23 F26 F49 F50 F51 F52) H23 n [.fs .u8 x0,.tup m1]
def D30:FnD:={dF Tryz.f30 12 [] [(0,.cell s46 46)] [46] with esc:=true,fzc:=[(0,s46)]}
def H30:=hM [] []
def cal30:CT:=cl []
def D44:FnD:={dF Tryz.f44 10 [] [(0,.obj (.row 5 .u8))] [31] with own:=some 0}
def H44:=hM [(2,⟨[],[(1,uR)],[]⟩)] [(4,⟨[],[(1,uR)],[]⟩)]
def cal44:CT:=cl []
def D76:FnD:={dF Tryz.f76 59 [.val (.int .i64),.val (.fv (.fs .u8))] [(4,.obj (.rows 46 s46)),(5,.val (.fs .i64)),(6,.val (.int .i64))] [128,129,47] with own:=some 0,esc:=true,fz:=[(5,(.fs .i64))]}
def H76:=hM [] [(2,⟨[],[(0,uI),(3,.keep (.box (.fv (.fs .u8)))),(19,uB)],[uT 3]⟩),(3,⟨[],[(0,uI),(3,.keep (.box (.fv (.fs .u8))))],[uT 3]⟩)]
def cal76:CT:=cl []
def D45:FnD:=dF Tryz.f45 63 [] [(0,.val .bool)] [4]
def H45:=hM [] []
def cal45 (F17 F76:Fun):CT:=cl [(17,qj D17 F17),(76,qj D76 F76)]
def D16:FnD:={dF Tryz.f16 36 [] [(0,.val .bool)] [4] with fs:=[xX],esc:=true}
def H16:=hM [] []
def cal16 (F13 F15 F17 F18 F23 F30 F44 F45:Fun):CT:=cl [(13,qj D13 F13),(15,qj D15 F15),(17,qj D17 F17),(18,qj D18 F18),(23,qj D23 F23),(30,qj D30 F30),(44,qj D44 F44),(45,qj D45 F45)]
def run16 (F13 F15 F17 F18 F23 F30 F44 F45:Fun) (n:Nat) (m1:List AV):=D16.R (cal16 F13 F15 F17 F18 F23 F30 F44 F45) H16 n [.tup m1]
def D22:FnD:=dF Tryz.f22 11 [.val s46] [(2,.val (.int .i64))] [47]
def H22:=hM [] []
def cal22 (F32:Fun):CT:=cl [(32,qj D32 F32)]
def run22 (F32:Fun) (n:Nat) (x0:AV):=D22.R (cal22 F32) H22 n [eta s46 x0]
def D24:FnD:={dF Tryz.f24 18 [.val (.fs .u8)] [(2,.obj (.row 5 .u8)),(3,.val (.int .i64))] [31,47] with fs:=[xX],own:=some 0,esc:=true}
def H24:=hM [] []
def cal24 (F13 F23:Fun):CT:=cl [(13,qj D13 F13),(23,qj D23 F23)]
def run24 (F13 F23:Fun) (n:Nat) (x0:List Int) (m1:List AV):=D24.R (cal24 F13 F23) H24 n [.fs .u8 x0,.tup m1]
def D6:FnD:={dF Tryz.f6 116 [.val (.fs .u8)] [(2,.val .bool)] [4] with pv:=[xX]}
def H6:=hM [] [(6,⟨[xX],[(3,uK s46),(5,uR),(69,uB)],[uT 3]⟩),(7,⟨[xX],[(3,uK s46),(5,uR)],[uT 3]⟩)]
def cal6 (F13 F15 F16 F17 F18 F22 F23 F24:Fun):CT:=cl [(13,qj D13 F13),(15,qj D15 F15),(16,qj D16 F16),(17,qj D17 F17),(18,qj D18 F18),(22,qj D22 F22),(23,qj D23 F23),(24,qj D24 F24)]
def run6 (F13 F15 F16 F17 F18 F22 F23 F24:Fun) (n:Nat) (x0:List Int):=D6.R (cal6 F13 F15 F16 F17 F18 F22 F23 F24) H6 n [.fs .u8 x0]
end
end Go.Proofs.YtlmnjnhmhacgkaaGreatDoor.Am
end
