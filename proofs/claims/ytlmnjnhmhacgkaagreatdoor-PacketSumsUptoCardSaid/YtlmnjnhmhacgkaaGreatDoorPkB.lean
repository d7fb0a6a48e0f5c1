/-
  Each described function is sound where its callees are.
-/
import Derived.Test.YtlmnjnhmhacgkaaGreatDoorPkA
import Derived.Test.YtlmnjnhmhacgkaaGreatDoorAmG
import Derived.WideLaws
import Derived.KernelRfl
section
set_option linter.unusedVariables false
namespace Go.Proofs.YtlmnjnhmhacgkaaGreatDoor.Am
open Go Go.Am Go.Proofs
theorem mix:Tryz.prog.follows .mixedOrders=true:=by rfl
theorem und20:Tryz.prog.underlying 20=some (.interface (Tryz.prog.methodsAt 20)):=by kernel_rfl
theorem rec_some {q:Oper} {e:Nat} (h:q.op=.binOp .neq 20 (.tmp e) (.const .nilIface) 20) (a:Act) (w:World) (t:TypeId) (u:Value) (he:a.eval (.tmp e)=.iface t u):(execOp a.eval q).run Tryz.prog w=.ok (.value (.bool true)) w:=by
 have hc:a.eval (.const .nilIface)=.nilIface:=rfl
 have hg:(eqGuard .neq 20 (.tmp e) (.const .nilIface) (.iface t u) .nilIface).run Tryz.prog w=.ok () w:=by simp [eqGuard]
 simp only [execOp,h,he,hc,Sem.run_bind,hg,Result.andThen_ok,run_neq_held_nil w 20 t u und20,Sem.run_pure]
theorem rec_none {q:Oper} {e:Nat} (h:q.op=.binOp .neq 20 (.tmp e) (.const .nilIface) 20) (a:Act) (w:World) (he:a.eval (.tmp e)=.nilIface):(execOp a.eval q).run Tryz.prog w=.ok (.value (.bool false)) w:=by
 have hc:a.eval (.const .nilIface)=.nilIface:=rfl
 have hg:(eqGuard .neq 20 (.tmp e) (.const .nilIface) .nilIface .nilIface).run Tryz.prog w=.ok () w:=by simp [eqGuard]
 simp only [execOp,h,he,hc,Sem.run_bind,hg,Result.andThen_ok,run_neq_nil_nil w 20 und20,Sem.run_pure]
abbrev SC (i:FuncId) (c:Cal):Prop:=SoundCal Tryz.prog env i c
end Go.Proofs.YtlmnjnhmhacgkaaGreatDoor.Am
end
section
set_option linter.unusedVariables false
set_option maxRecDepth 100000
namespace Go.Proofs.YtlmnjnhmhacgkaaGreatDoor.Am
open Go Go.Am Go.Proofs
theorem good77:D77.good Tryz.prog=true:=by kernel_rfl
theorem snd77  : SC 77 (mkCal D77 (D77.run Tryz.prog env cal77 H77)):=
 FnD.sound (fun f c hf=>by cases hf) mix Tryz.func77 rfl (by decide) rfl rfl good77
theorem good79:D79.good Tryz.prog=true:=by kernel_rfl
theorem snd79  : SC 79 (mkCal D79 (D79.run Tryz.prog env cal79 H79)):=
 FnD.sound (fun f c hf=>by cases hf) mix Tryz.func79 rfl (by decide) rfl rfl good79
theorem good63:D63.good Tryz.prog=true:=by kernel_rfl
theorem snd63 (F77 F79:Fun) (h77:SC 77 (mkCal D77 F77)) (h79:SC 79 (mkCal D79 F79)):SC 63 (mkCal D63 (D63.run Tryz.prog env (cal63 F77 F79) H63)):=
 FnD.sound (fun f c hf=>by
  unfold cal63 at hf
  split at hf
  ·cases hf; exact h77
  ·cases hf; exact h79
  ·cases hf) mix Tryz.func63 rfl (by decide) rfl rfl good63
theorem good34:D34.good Tryz.prog=true:=by kernel_rfl
theorem snd34  : SC 34 (mkCal D34 (D34.run Tryz.prog env cal34 H34)):=
 FnD.sound (fun f c hf=>by cases hf) mix Tryz.func34 rfl (by decide) rfl rfl good34
theorem good70:D70.good Tryz.prog=true:=by kernel_rfl
theorem snd70  : SC 70 (mkCal D70 (D70.run Tryz.prog env cal70 H70)):=
 FnD.sound (fun f c hf=>by cases hf) mix Tryz.func70 rfl (by decide) rfl rfl good70
theorem good113:D113.good Tryz.prog=true:=by kernel_rfl
theorem snd113 (F70:Fun) (h70:SC 70 (mkCal D70 F70)):SC 113 (mkCal D113 (D113.run Tryz.prog env (cal113 F70) H113)):=
 FnD.sound (fun f c hf=>by
  unfold cal113 at hf
  split at hf
  ·cases hf; exact h70
  ·cases hf) mix Tryz.func113 rfl (by decide) rfl rfl good113
theorem good112:D112.good Tryz.prog=true:=by kernel_rfl
theorem snd112 (F113:Fun) (h113:SC 113 (mkCal D113 F113)):SC 112 (mkCal D112 (D112.run Tryz.prog env (cal112 F113) H112)):=
 FnD.sound (fun f c hf=>by
  unfold cal112 at hf
  split at hf
  ·cases hf; exact h113
  ·cases hf) mix Tryz.func112 rfl (by decide) rfl rfl good112
theorem good69:D69.good Tryz.prog=true:=by kernel_rfl
theorem snd69 (F112:Fun) (h112:SC 112 (mkCal D112 F112)):SC 69 (mkCal D69 (D69.run Tryz.prog env (cal69 F112) H69)):=
 FnD.sound (fun f c hf=>by
  unfold cal69 at hf
  split at hf
  ·cases hf; exact h112
  ·cases hf) mix Tryz.func69 rfl (by decide) rfl rfl good69
theorem good35:D35.good Tryz.prog=true:=by kernel_rfl
theorem snd35 (F69 F70:Fun) (h69:SC 69 (mkCal D69 F69)) (h70:SC 70 (mkCal D70 F70)):SC 35 (mkCal D35 (D35.run Tryz.prog env (cal35 F69 F70) H35)):=
 FnD.sound (fun f c hf=>by
  unfold cal35 at hf
  split at hf
  ·cases hf; exact h69
  ·cases hf; exact h70
  ·cases hf) mix Tryz.func35 rfl (by decide) rfl rfl good35
theorem good72:D72.good Tryz.prog=true:=by kernel_rfl
theorem snd72 (F69 F70:Fun) (h69:SC 69 (mkCal D69 F69)) (h70:SC 70 (mkCal D70 F70)):SC 72 (mkCal D72 (D72.run Tryz.prog env (cal72 F69 F70) H72)):=
 FnD.sound (fun f c hf=>by
  unfold cal72 at hf
  split at hf
  ·cases hf; exact h69
  ·cases hf; exact h70
  ·cases hf) mix Tryz.func72 rfl (by decide) rfl rfl good72
theorem good71:D71.good Tryz.prog=true:=by kernel_rfl
theorem snd71 (F72:Fun) (h72:SC 72 (mkCal D72 F72)):SC 71 (mkCal D71 (D71.run Tryz.prog env (cal71 F72) H71)):=
 FnD.sound (fun f c hf=>by
  unfold cal71 at hf
  split at hf
  ·cases hf; exact h72
  ·cases hf) mix Tryz.func71 rfl (by decide) rfl rfl good71
theorem good36:D36.good Tryz.prog=true:=by kernel_rfl
theorem snd36 (F70 F71:Fun) (h70:SC 70 (mkCal D70 F70)) (h71:SC 71 (mkCal D71 F71)):SC 36 (mkCal D36 (D36.run Tryz.prog env (cal36 F70 F71) H36)):=
 FnD.sound (fun f c hf=>by
  unfold cal36 at hf
  split at hf
  ·cases hf; exact h70
  ·cases hf; exact h71
  ·cases hf) mix Tryz.func36 rfl (by decide) rfl rfl good36
theorem good37:D37.good Tryz.prog=true:=by kernel_rfl
theorem snd37 (F69 F70:Fun) (h69:SC 69 (mkCal D69 F69)) (h70:SC 70 (mkCal D70 F70)):SC 37 (mkCal D37 (D37.run Tryz.prog env (cal37 F69 F70) H37)):=
 FnD.sound (fun f c hf=>by
  unfold cal37 at hf
  split at hf
  ·cases hf; exact h69
  ·cases hf; exact h70
  ·cases hf) mix Tryz.func37 rfl (by decide) rfl rfl good37
theorem good14:D14.good Tryz.prog=true:=by kernel_rfl
theorem snd14 (F34 F35 F36 F37:Fun) (h34:SC 34 (mkCal D34 F34)) (h35:SC 35 (mkCal D35 F35)) (h36:SC 36 (mkCal D36 F36)) (h37:SC 37 (mkCal D37 F37)):SC 14 (mkCal D14 (D14.run Tryz.prog env (cal14 F34 F35 F36 F37) H14)):=
 FnD.sound (fun f c hf=>by
  unfold cal14 at hf
  split at hf
  ·cases hf; exact h34
  ·cases hf; exact h35
  ·cases hf; exact h36
  ·cases hf; exact h37
  ·cases hf) mix Tryz.func14 rfl (by decide) rfl rfl good14
theorem good55:D55.good Tryz.prog=true:=by kernel_rfl
theorem snd55  : SC 55 (mkCal D55 (D55.run Tryz.prog env cal55 H55)):=
 FnD.sound (fun f c hf=>by cases hf) mix Tryz.func55 rfl (by decide) rfl rfl good55
theorem good56:D56.good Tryz.prog=true:=by kernel_rfl
theorem snd56  : SC 56 (mkCal D56 (D56.run Tryz.prog env cal56 H56)):=
 FnD.sound (fun f c hf=>by cases hf) mix Tryz.func56 rfl (by decide) rfl rfl good56
theorem good94:D94.good Tryz.prog=true:=by kernel_rfl
theorem snd94  : SC 94 (mkCal D94 (D94.run Tryz.prog env cal94 H94)):=
 FnD.sound (fun f c hf=>by cases hf) mix Tryz.func94 rfl (by decide) rfl rfl good94
theorem good57:D57.good Tryz.prog=true:=by kernel_rfl
theorem snd57 (F55 F94:Fun) (h55:SC 55 (mkCal D55 F55)) (h94:SC 94 (mkCal D94 F94)):SC 57 (mkCal D57 (D57.run Tryz.prog env (cal57 F55 F94) H57)):=
 FnD.sound (fun f c hf=>by
  unfold cal57 at hf
  split at hf
  ·cases hf; exact h55
  ·cases hf; exact h94
  ·cases hf) mix Tryz.func57 rfl (by decide) rfl rfl good57
theorem good64:D64.good Tryz.prog=true:=by kernel_rfl
theorem snd64 (F14 F55 F56 F57:Fun) (h14:SC 14 (mkCal D14 F14)) (h55:SC 55 (mkCal D55 F55)) (h56:SC 56 (mkCal D56 F56)) (h57:SC 57 (mkCal D57 F57)):SC 64 (mkCal D64 (D64.run Tryz.prog env (cal64 F14 F55 F56 F57) H64)):=
 FnD.sound (fun f c hf=>by
  unfold cal64 at hf
  split at hf
  ·cases hf; exact h14
  ·cases hf; exact h55
  ·cases hf; exact h56
  ·cases hf; exact h57
  ·cases hf) mix Tryz.func64 rfl (by decide) rfl rfl good64
theorem good184:D184.good Tryz.prog=true:=by kernel_rfl
theorem snd184  : SC 184 (mkCal D184 (D184.run Tryz.prog env cal184 H184)):=
 FnD.sound (fun f c hf=>by cases hf) mix Tryz.func184 rfl (by decide) rfl rfl good184
theorem good139:D139.good Tryz.prog=true:=by kernel_rfl
theorem snd139 (F184:Fun) (h184:SC 184 (mkCal D184 F184)):SC 139 (mkCal D139 (D139.run Tryz.prog env (cal139 F184) H139)):=
 FnD.sound (fun f c hf=>by
  unfold cal139 at hf
  split at hf
  ·cases hf; exact h184
  ·cases hf) mix Tryz.func139 rfl (by decide) rfl rfl good139
theorem good95:D95.good Tryz.prog=true:=by kernel_rfl
theorem snd95 (F139:Fun) (h139:SC 139 (mkCal D139 F139)):SC 95 (mkCal D95 (D95.run Tryz.prog env (cal95 F139) H95)):=
 FnD.sound (fun f c hf=>by
  unfold cal95 at hf
  split at hf
  ·cases hf; exact h139
  ·cases hf) mix Tryz.func95 rfl (by decide) rfl rfl good95
theorem good96:D96.good Tryz.prog=true:=by kernel_rfl
theorem snd96  : SC 96 (mkCal D96 (D96.run Tryz.prog env cal96 H96)):=
 FnD.sound (fun f c hf=>by cases hf) mix Tryz.func96 rfl (by decide) rfl rfl good96
theorem good135:D135.good Tryz.prog=true:=by kernel_rfl
theorem snd135  : SC 135 (mkCal D135 (D135.run Tryz.prog env cal135 H135)):=
 FnD.sound (fun f c hf=>by cases hf) mix Tryz.func135 rfl (by decide) rfl rfl good135
theorem good123:D123.good Tryz.prog=true:=by kernel_rfl
theorem snd123  : SC 123 (mkCal D123 (D123.run Tryz.prog env cal123 H123)):=
 FnD.sound (fun f c hf=>by cases hf) mix Tryz.func123 rfl (by decide) rfl rfl good123
theorem good136:D136.good Tryz.prog=true:=by kernel_rfl
theorem snd136 (F123:Fun) (h123:SC 123 (mkCal D123 F123)):SC 136 (mkCal D136 (D136.run Tryz.prog env (cal136 F123) H136)):=
 FnD.sound (fun f c hf=>by
  unfold cal136 at hf
  split at hf
  ·cases hf; exact h123
  ·cases hf) mix Tryz.func136 rfl (by decide) rfl rfl good136
theorem good178:D178.good Tryz.prog=true:=by kernel_rfl
theorem snd178  : SC 178 (mkCal D178 (D178.run Tryz.prog env cal178 H178)):=
 FnD.sound (fun f c hf=>by cases hf) mix Tryz.func178 rfl (by decide) rfl rfl good178
theorem good127:D127.good Tryz.prog=true:=by kernel_rfl
theorem snd127 (F178:Fun) (h178:SC 178 (mkCal D178 F178)):SC 127 (mkCal D127 (D127.run Tryz.prog env (cal127 F178) H127)):=
 FnD.sound (fun f c hf=>by
  unfold cal127 at hf
  split at hf
  ·cases hf; exact h178
  ·cases hf) mix Tryz.func127 rfl (by decide) rfl rfl good127
theorem good137:D137.good Tryz.prog=true:=by kernel_rfl
theorem snd137 (F127:Fun) (h127:SC 127 (mkCal D127 F127)):SC 137 (mkCal D137 (D137.run Tryz.prog env (cal137 F127) H137)):=
 FnD.sound (fun f c hf=>by
  unfold cal137 at hf
  split at hf
  ·cases hf; exact h127
  ·cases hf) mix Tryz.func137 rfl (by decide) rfl rfl good137
theorem good91:D91.good Tryz.prog=true:=by kernel_rfl
theorem snd91 (F95 F96 F135 F136 F137:Fun) (h95:SC 95 (mkCal D95 F95)) (h96:SC 96 (mkCal D96 F96)) (h135:SC 135 (mkCal D135 F135)) (h136:SC 136 (mkCal D136 F136)) (h137:SC 137 (mkCal D137 F137)):SC 91 (mkCal D91 (D91.run Tryz.prog env (cal91 F95 F96 F135 F136 F137) H91)):=
 FnD.sound (fun f c hf=>by
  unfold cal91 at hf
  split at hf
  ·cases hf; exact h95
  ·cases hf; exact h96
  ·cases hf; exact h135
  ·cases hf; exact h136
  ·cases hf; exact h137
  ·cases hf) mix Tryz.func91 rfl (by decide) rfl rfl good91
theorem good97:D97.good Tryz.prog=true:=by kernel_rfl
theorem snd97 (F139:Fun) (h139:SC 139 (mkCal D139 F139)):SC 97 (mkCal D97 (D97.run Tryz.prog env (cal97 F139) H97)):=
 FnD.sound (fun f c hf=>by
  unfold cal97 at hf
  split at hf
  ·cases hf; exact h139
  ·cases hf) mix Tryz.func97 rfl (by decide) rfl rfl good97
theorem good183:D183.good Tryz.prog=true:=by kernel_rfl
theorem snd183  : SC 183 (mkCal D183 (D183.run Tryz.prog env cal183 H183)):=
 FnD.sound (fun f c hf=>by cases hf) mix Tryz.func183 rfl (by decide) rfl rfl good183
theorem good138:D138.good Tryz.prog=true:=by kernel_rfl
theorem snd138 (F183:Fun) (h183:SC 183 (mkCal D183 F183)):SC 138 (mkCal D138 (D138.run Tryz.prog env (cal138 F183) H138)):=
 FnD.sound (fun f c hf=>by
  unfold cal138 at hf
  split at hf
  ·cases hf; exact h183
  ·cases hf) mix Tryz.func138 rfl (by decide) rfl rfl good138
theorem good92:D92.good Tryz.prog=true:=by kernel_rfl
theorem snd92 (F97 F136 F137 F138 F139:Fun) (h97:SC 97 (mkCal D97 F97)) (h136:SC 136 (mkCal D136 F136)) (h137:SC 137 (mkCal D137 F137)) (h138:SC 138 (mkCal D138 F138)) (h139:SC 139 (mkCal D139 F139)):SC 92 (mkCal D92 (D92.run Tryz.prog env (cal92 F97 F136 F137 F138 F139) H92)):=
 FnD.sound (fun f c hf=>by
  unfold cal92 at hf
  split at hf
  ·cases hf; exact h97
  ·cases hf; exact h136
  ·cases hf; exact h137
  ·cases hf; exact h138
  ·cases hf; exact h139
  ·cases hf) mix Tryz.func92 rfl (by decide) rfl rfl good92
theorem good142:D142.good Tryz.prog=true:=by kernel_rfl
theorem snd142  : SC 142 (mkCal D142 (D142.run Tryz.prog env cal142 H142)):=
 FnD.sound (fun f c hf=>by cases hf) mix Tryz.func142 rfl (by decide) rfl rfl good142
theorem good141:D141.good Tryz.prog=true:=by kernel_rfl
theorem snd141 (F142:Fun) (h142:SC 142 (mkCal D142 F142)):SC 141 (mkCal D141 (D141.run Tryz.prog env (cal141 F142) H141)):=
 FnD.sound (fun f c hf=>by
  unfold cal141 at hf
  split at hf
  ·cases hf; exact h142
  ·cases hf) mix Tryz.func141 rfl (by decide) rfl rfl good141
theorem good140:D140.good Tryz.prog=true:=by kernel_rfl
theorem snd140 (F141 F183:Fun) (h141:SC 141 (mkCal D141 F141)) (h183:SC 183 (mkCal D183 F183)):SC 140 (mkCal D140 (D140.run Tryz.prog env (cal140 F141 F183) H140)):=
 FnD.sound (fun f c hf=>by
  unfold cal140 at hf
  split at hf
  ·cases hf; exact h141
  ·cases hf; exact h183
  ·cases hf) mix Tryz.func140 rfl (by decide) rfl rfl good140
theorem good93:D93.good Tryz.prog=true:=by kernel_rfl
theorem snd93 (F97 F136 F137 F139 F140 F141:Fun) (h97:SC 97 (mkCal D97 F97)) (h136:SC 136 (mkCal D136 F136)) (h137:SC 137 (mkCal D137 F137)) (h139:SC 139 (mkCal D139 F139)) (h140:SC 140 (mkCal D140 F140)) (h141:SC 141 (mkCal D141 F141)):SC 93 (mkCal D93 (D93.run Tryz.prog env (cal93 F97 F136 F137 F139 F140 F141) H93)):=
 FnD.sound (fun f c hf=>by
  unfold cal93 at hf
  split at hf
  ·cases hf; exact h97
  ·cases hf; exact h136
  ·cases hf; exact h137
  ·cases hf; exact h139
  ·cases hf; exact h140
  ·cases hf; exact h141
  ·cases hf) mix Tryz.func93 rfl (by decide) rfl rfl good93
theorem good53:D53.good Tryz.prog=true:=by kernel_rfl
theorem snd53 (F55 F56 F91 F92 F93:Fun) (h55:SC 55 (mkCal D55 F55)) (h56:SC 56 (mkCal D56 F56)) (h91:SC 91 (mkCal D91 F91)) (h92:SC 92 (mkCal D92 F92)) (h93:SC 93 (mkCal D93 F93)):SC 53 (mkCal D53 (D53.run Tryz.prog env (cal53 F55 F56 F91 F92 F93) H53)):=
 FnD.sound (fun f c hf=>by
  unfold cal53 at hf
  split at hf
  ·cases hf; exact h55
  ·cases hf; exact h56
  ·cases hf; exact h91
  ·cases hf; exact h92
  ·cases hf; exact h93
  ·cases hf) mix Tryz.func53 rfl (by decide) rfl rfl good53
theorem good54:D54.good Tryz.prog=true:=by kernel_rfl
theorem snd54  : SC 54 (mkCal D54 (D54.run Tryz.prog env cal54 H54)):=
 FnD.sound (fun f c hf=>by cases hf) mix Tryz.func54 rfl (by decide) rfl rfl good54
theorem good81:D81.good Tryz.prog=true:=by kernel_rfl
theorem snd81  : SC 81 (mkCal D81 (D81.run Tryz.prog env cal81 H81)):=
 FnD.sound (fun f c hf=>by cases hf) mix Tryz.func81 rfl (by decide) rfl rfl good81
theorem good82:D82.good Tryz.prog=true:=by kernel_rfl
theorem snd82 (F77:Fun) (h77:SC 77 (mkCal D77 F77)):SC 82 (mkCal D82 (D82.run Tryz.prog env (cal82 F77) H82)):=
 FnD.sound (fun f c hf=>by
  unfold cal82 at hf
  split at hf
  ·cases hf; exact h77
  ·cases hf) mix Tryz.func82 rfl (by decide) rfl rfl good82
theorem snd111  : SC 111 (rowCal (rowRun Tryz.prog env cal111 H111 (Tryz.f111.body.getD .skip) 13 4 5 .u8) 5 .u8 31):=
 soundRow (fun f c hf=>by cases hf) mix Tryz.func111 rfl (by decide) rfl rfl (fun C _=>OvOk.none (by intro id; rfl)) (fun C _=>PanH.none (by intro id; rfl))
theorem good106:D106.good Tryz.prog=true:=by kernel_rfl
theorem snd106 (F81 F82 F111:Fun) (h81:SC 81 (mkCal D81 F81)) (h82:SC 82 (mkCal D82 F82)) (h111:SC 111 (rowCal F111 5 .u8 31)):SC 106 (mkCal D106 (D106.run Tryz.prog env (cal106 F81 F82 F111) H106)):=
 FnD.sound (fun f c hf=>by
  unfold cal106 at hf
  split at hf
  ·cases hf; exact h81
  ·cases hf; exact h82
  ·cases hf; exact h111
  ·cases hf) mix Tryz.func106 rfl (by decide) rfl rfl good106
theorem good86:D86.good Tryz.prog=true:=by kernel_rfl
theorem snd86  : SC 86 (mkCal D86 (D86.run Tryz.prog env cal86 H86)):=
 FnD.sound (fun f c hf=>by cases hf) mix Tryz.func86 rfl (by decide) rfl rfl good86
theorem good157:D157.good Tryz.prog=true:=by kernel_rfl
theorem snd157  : SC 157 (mkCal D157 (D157.run Tryz.prog env cal157 H157)):=
 FnD.sound (fun f c hf=>by cases hf) mix Tryz.func157 rfl (by decide) rfl rfl good157
theorem good202:D202.good Tryz.prog=true:=by kernel_rfl
theorem snd202  : SC 202 (mkCal D202 (D202.run Tryz.prog env cal202 H202)):=
 FnD.sound (fun f c hf=>by cases hf) mix Tryz.func202 rfl (by decide) rfl rfl good202
theorem good203:D203.good Tryz.prog=true:=by kernel_rfl
theorem snd203  : SC 203 (mkCal D203 (D203.run Tryz.prog env cal203 H203)):=
 FnD.sound (fun f c hf=>by cases hf) mix Tryz.func203 rfl (by decide) rfl rfl good203
theorem good155:D155.good Tryz.prog=true:=by kernel_rfl
theorem snd155 (F86 F157 F202 F203:Fun) (h86:SC 86 (mkCal D86 F86)) (h157:SC 157 (mkCal D157 F157)) (h202:SC 202 (mkCal D202 F202)) (h203:SC 203 (mkCal D203 F203)):SC 155 (mkCal D155 (D155.run Tryz.prog env (cal155 F86 F157 F202 F203) H155)):=
 FnD.sound (fun f c hf=>by
  unfold cal155 at hf
  split at hf
  ·cases hf; exact h86
  ·cases hf; exact h157
  ·cases hf; exact h202
  ·cases hf; exact h203
  ·cases hf) mix Tryz.func155 rfl (by decide) rfl rfl good155
theorem good269:D269.good Tryz.prog=true:=by kernel_rfl
theorem snd269  : SC 269 (mkCal D269 (D269.run Tryz.prog env cal269 H269)):=
 FnD.sound (fun f c hf=>by cases hf) mix Tryz.func269 rfl (by decide) rfl rfl good269
theorem good244:D244.good Tryz.prog=true:=by kernel_rfl
theorem snd244 (F269:Fun) (h269:SC 269 (mkCal D269 F269)):SC 244 (mkCal D244 (D244.run Tryz.prog env (cal244 F269) H244)):=
 FnD.sound (fun f c hf=>by
  unfold cal244 at hf
  split at hf
  ·cases hf; exact h269
  ·cases hf) mix Tryz.func244 rfl (by decide) rfl rfl good244
theorem good204:D204.good Tryz.prog=true:=by kernel_rfl
theorem snd204 (F244:Fun) (h244:SC 244 (mkCal D244 F244)):SC 204 (mkCal D204 (D204.run Tryz.prog env (cal204 F244) H204)):=
 FnD.sound (fun f c hf=>by
  unfold cal204 at hf
  split at hf
  ·cases hf; exact h244
  ·cases hf) mix Tryz.func204 rfl (by decide) rfl rfl good204
theorem good130:D130.good Tryz.prog=true:=by kernel_rfl
theorem snd130  : SC 130 (mkCal D130 (D130.run Tryz.prog env cal130 H130)):=
 FnD.sound (fun f c hf=>by cases hf) mix Tryz.func130 rfl (by decide) rfl rfl good130
theorem snd285  : SC 285 (rowCal (rowRun Tryz.prog env cal285 H285 (Tryz.f285.body.getD .skip) 28 4 5 .u8) 5 .u8 31):=
 soundRow (fun f c hf=>by cases hf) mix Tryz.func285 rfl (by decide) rfl rfl (fun C _=>OvOk.none (by intro id; rfl)) (fun C _=>PanH.none (by intro id; rfl))
theorem good270:D270.good Tryz.prog=true:=by kernel_rfl
theorem snd270 (F285:Fun) (h285:SC 285 (rowCal F285 5 .u8 31)):SC 270 (mkCal D270 (D270.run Tryz.prog env (cal270 F285) H270)):=
 FnD.sound (fun f c hf=>by
  unfold cal270 at hf
  split at hf
  ·cases hf; exact h285
  ·cases hf) mix Tryz.func270 rfl (by decide) rfl rfl good270
theorem good245:D245.good Tryz.prog=true:=by kernel_rfl
theorem snd245 (F130 F270:Fun) (h130:SC 130 (mkCal D130 F130)) (h270:SC 270 (mkCal D270 F270)):SC 245 (mkCal D245 (D245.run Tryz.prog env (cal245 F130 F270) H245)):=
 FnD.sound (fun f c hf=>by
  unfold cal245 at hf
  split at hf
  ·cases hf; exact h130
  ·cases hf; exact h270
  ·cases hf) mix Tryz.func245 rfl (by decide) rfl rfl good245
theorem good205:D205.good Tryz.prog=true:=by kernel_rfl
theorem snd205 (F245:Fun) (h245:SC 245 (mkCal D245 F245)):SC 205 (mkCal D205 (D205.run Tryz.prog env (cal205 F245) H205)):=
 FnD.sound (fun f c hf=>by
  unfold cal205 at hf
  split at hf
  ·cases hf; exact h245
  ·cases hf) mix Tryz.func205 rfl (by decide) rfl rfl good205
theorem good180:D180.good Tryz.prog=true:=by kernel_rfl
theorem snd180  : SC 180 (mkCal D180 (D180.run Tryz.prog env cal180 H180)):=
 FnD.sound (fun f c hf=>by cases hf) mix Tryz.func180 rfl (by decide) rfl rfl good180
theorem good206:D206.good Tryz.prog=true:=by kernel_rfl
theorem snd206 (F130 F180:Fun) (h130:SC 130 (mkCal D130 F130)) (h180:SC 180 (mkCal D180 F180)):SC 206 (mkCal D206 (D206.run Tryz.prog env (cal206 F130 F180) H206)):=
 FnD.sound (fun f c hf=>by
  unfold cal206 at hf
  split at hf
  ·cases hf; exact h130
  ·cases hf; exact h180
  ·cases hf) mix Tryz.func206 rfl (by decide) rfl rfl good206
theorem good159:D159.good Tryz.prog=true:=by kernel_rfl
theorem snd159 (F136 F204 F205 F206 F207:Fun) (h136:SC 136 (mkCal D136 F136)) (h204:SC 204 (mkCal D204 F204)) (h205:SC 205 (mkCal D205 F205)) (h206:SC 206 (mkCal D206 F206)) (h207:SC 207 (mkCal D207 F207)):SC 159 (mkCal D159 (D159.run Tryz.prog env (cal159 F136 F204 F205 F206 F207) H159)):=
 FnD.sound (fun f c hf=>by
  unfold cal159 at hf
  split at hf
  ·cases hf; exact h136
  ·cases hf; exact h204
  ·cases hf; exact h205
  ·cases hf; exact h206
  ·cases hf; exact h207
  ·cases hf) mix Tryz.func159 rfl (by decide) rfl rfl good159
theorem good156:D156.good Tryz.prog=true:=by kernel_rfl
theorem snd156 (F159:Fun) (h159:SC 159 (mkCal D159 F159)):SC 156 (mkCal D156 (D156.run Tryz.prog env (cal156 F159) H156)):=
 FnD.sound (fun f c hf=>by
  unfold cal156 at hf
  split at hf
  ·cases hf; exact h159
  ·cases hf) mix Tryz.func156 rfl (by decide) rfl rfl good156
theorem good107:D107.good Tryz.prog=true:=by kernel_rfl
theorem snd107 (F155 F156:Fun) (h155:SC 155 (mkCal D155 F155)) (h156:SC 156 (mkCal D156 F156)):SC 107 (mkCal D107 (D107.run Tryz.prog env (cal107 F155 F156) H107)):=
 FnD.sound (fun f c hf=>by
  unfold cal107 at hf
  split at hf
  ·cases hf; exact h155
  ·cases hf; exact h156
  ·cases hf) mix Tryz.func107 rfl (by decide) rfl rfl good107
theorem good108:D108.good Tryz.prog=true:=by kernel_rfl
theorem snd108 (F55 F135 F138 F140:Fun) (h55:SC 55 (mkCal D55 F55)) (h135:SC 135 (mkCal D135 F135)) (h138:SC 138 (mkCal D138 F138)) (h140:SC 140 (mkCal D140 F140)):SC 108 (mkCal D108 (D108.run Tryz.prog env (cal108 F55 F135 F138 F140) H108)):=
 FnD.sound (fun f c hf=>by
  unfold cal108 at hf
  split at hf
  ·cases hf; exact h55
  ·cases hf; exact h135
  ·cases hf; exact h138
  ·cases hf; exact h140
  ·cases hf) mix Tryz.func108 rfl (by decide) rfl rfl good108
theorem good158:D158.good Tryz.prog=true:=by kernel_rfl
theorem snd158  : SC 158 (mkCal D158 (D158.run Tryz.prog env cal158 H158)):=
 FnD.sound (fun f c hf=>by cases hf) mix Tryz.func158 rfl (by decide) rfl rfl good158
theorem good109:D109.good Tryz.prog=true:=by kernel_rfl
theorem snd109 (F136 F137 F155 F157 F158:Fun) (h136:SC 136 (mkCal D136 F136)) (h137:SC 137 (mkCal D137 F137)) (h155:SC 155 (mkCal D155 F155)) (h157:SC 157 (mkCal D157 F157)) (h158:SC 158 (mkCal D158 F158)):SC 109 (mkCal D109 (D109.run Tryz.prog env (cal109 F136 F137 F155 F157 F158) H109)):=
 FnD.sound (fun f c hf=>by
  unfold cal109 at hf
  split at hf
  ·cases hf; exact h136
  ·cases hf; exact h137
  ·cases hf; exact h155
  ·cases hf; exact h157
  ·cases hf; exact h158
  ·cases hf) mix Tryz.func109 rfl (by decide) rfl rfl good109
theorem good110:D110.good Tryz.prog=true:=by kernel_rfl
theorem snd110 (F159:Fun) (h159:SC 159 (mkCal D159 F159)):SC 110 (mkCal D110 (D110.run Tryz.prog env (cal110 F159) H110)):=
 FnD.sound (fun f c hf=>by
  unfold cal110 at hf
  split at hf
  ·cases hf; exact h159
  ·cases hf) mix Tryz.func110 rfl (by decide) rfl rfl good110
theorem good65:D65.good Tryz.prog=true:=by kernel_rfl
theorem snd65 (F53 F54 F106 F107 F108 F109 F110:Fun) (h53:SC 53 (mkCal D53 F53)) (h54:SC 54 (mkCal D54 F54)) (h106:SC 106 (mkCal D106 F106)) (h107:SC 107 (mkCal D107 F107)) (h108:SC 108 (mkCal D108 F108)) (h109:SC 109 (mkCal D109 F109)) (h110:SC 110 (mkCal D110 F110)):SC 65 (mkCal D65 (D65.run Tryz.prog env (cal65 F53 F54 F106 F107 F108 F109 F110) H65)):=
 FnD.sound (fun f c hf=>by
  unfold cal65 at hf
  split at hf
  ·cases hf; exact h53
  ·cases hf; exact h54
  ·cases hf; exact h106
  ·cases hf; exact h107
  ·cases hf; exact h108
  ·cases hf; exact h109
  ·cases hf; exact h110
  ·cases hf) mix Tryz.func65 rfl (by decide) rfl rfl good65
theorem good66:D66.good Tryz.prog=true:=by kernel_rfl
theorem snd66  : SC 66 (mkCal D66 (D66.run Tryz.prog env cal66 H66)):=
 FnD.sound (fun f c hf=>by cases hf) mix Tryz.func66 rfl (by decide) rfl rfl good66
theorem good68:D68.good Tryz.prog=true:=by kernel_rfl
theorem snd68  : SC 68 (mkCal D68 (D68.run Tryz.prog env cal68 H68)):=
 FnD.sound (fun f c hf=>by cases hf) mix Tryz.func68 rfl (by decide) rfl rfl good68
theorem good67:D67.good Tryz.prog=true:=by kernel_rfl
theorem snd67 (F63 F68 F111:Fun) (h63:SC 63 (mkCal D63 F63)) (h68:SC 68 (mkCal D68 F68)) (h111:SC 111 (rowCal F111 5 .u8 31)):SC 67 (mkCal D67 (D67.run Tryz.prog env (cal67 F63 F68 F111) H67)):=
 FnD.sound (fun f c hf=>by
  unfold cal67 at hf
  split at hf
  ·cases hf; exact h63
  ·cases hf; exact h68
  ·cases hf; exact h111
  ·cases hf) mix Tryz.func67 rfl (by decide) rfl rfl good67
theorem good32:D32.good Tryz.prog=true:=by kernel_rfl
theorem snd32 (F63 F64 F65 F66 F67:Fun) (h63:SC 63 (mkCal D63 F63)) (h64:SC 64 (mkCal D64 F64)) (h65:SC 65 (mkCal D65 F65)) (h66:SC 66 (mkCal D66 F66)) (h67:SC 67 (mkCal D67 F67)):SC 32 (mkCal D32 (D32.run Tryz.prog env (cal32 F63 F64 F65 F66 F67) H32)):=
 FnD.sound (fun f c hf=>by
  unfold cal32 at hf
  split at hf
  ·cases hf; exact h63
  ·cases hf; exact h64
  ·cases hf; exact h65
  ·cases hf; exact h66
  ·cases hf; exact h67
  ·cases hf) mix Tryz.func32 rfl (by decide) rfl rfl good32
theorem good33:D33.good Tryz.prog=true:=by kernel_rfl
theorem snd33 (F68:Fun) (h68:SC 68 (mkCal D68 F68)):SC 33 (mkCal D33 (D33.run Tryz.prog env (cal33 F68) H33)):=
 FnD.sound (fun f c hf=>by
  unfold cal33 at hf
  split at hf
  ·cases hf; exact h68
  ·cases hf) mix Tryz.func33 rfl (by decide) rfl rfl good33
theorem good13:D13.good Tryz.prog=true:=by kernel_rfl
theorem snd13 (F32 F33:Fun) (h32:SC 32 (mkCal D32 F32)) (h33:SC 33 (mkCal D33 F33)):SC 13 (mkCal D13 (D13.run Tryz.prog env (cal13 F32 F33) H13)):=
 FnD.sound (fun f c hf=>by
  unfold cal13 at hf
  split at hf
  ·cases hf; exact h32
  ·cases hf; exact h33
  ·cases hf) mix Tryz.func13 rfl (by decide) rfl rfl good13
theorem good38:D38.good Tryz.prog=true:=by kernel_rfl
theorem snd38  : SC 38 (mkCal D38 (D38.run Tryz.prog env cal38 H38)):=
 FnD.sound (fun f c hf=>by cases hf) mix Tryz.func38 rfl (by decide) rfl rfl good38
theorem good74:D74.good Tryz.prog=true:=by kernel_rfl
theorem snd74  : SC 74 (mkCal D74 (D74.run Tryz.prog env cal74 H74)):=
 FnD.sound (fun f c hf=>by cases hf) mix Tryz.func74 rfl (by decide) rfl rfl good74
theorem good73:D73.good Tryz.prog=true:=by kernel_rfl
theorem snd73 (F74:Fun) (h74:SC 74 (mkCal D74 F74)):SC 73 (mkCal D73 (D73.run Tryz.prog env (cal73 F74) H73)):=
 FnD.sound (fun f c hf=>by
  unfold cal73 at hf
  split at hf
  ·cases hf; exact h74
  ·cases hf) mix Tryz.func73 rfl (by decide) rfl rfl good73
theorem good39:D39.good Tryz.prog=true:=by kernel_rfl
theorem snd39 (F73 F74:Fun) (h73:SC 73 (mkCal D73 F73)) (h74:SC 74 (mkCal D74 F74)):SC 39 (mkCal D39 (D39.run Tryz.prog env (cal39 F73 F74) H39)):=
 FnD.sound (fun f c hf=>by
  unfold cal39 at hf
  split at hf
  ·cases hf; exact h73
  ·cases hf; exact h74
  ·cases hf) mix Tryz.func39 rfl (by decide) rfl rfl good39
theorem good18:D18.good Tryz.prog=true:=by kernel_rfl
theorem snd18  : SC 18 (mkCal D18 (D18.run Tryz.prog env cal18 H18)):=
 FnD.sound (fun f c hf=>by cases hf) mix Tryz.func18 rfl (by decide) rfl rfl good18
theorem good114:D114.good Tryz.prog=true:=by kernel_rfl
theorem snd114 (F18:Fun) (h18:SC 18 (mkCal D18 F18)):SC 114 (mkCal D114 (D114.run Tryz.prog env (cal114 F18) H114)):=
 FnD.sound (fun f c hf=>by
  unfold cal114 at hf
  split at hf
  ·cases hf; exact h18
  ·cases hf) mix Tryz.func114 rfl (by decide) rfl rfl good114
theorem good75:D75.good Tryz.prog=true:=by kernel_rfl
theorem snd75 (F18 F114:Fun) (h18:SC 18 (mkCal D18 F18)) (h114:SC 114 (mkCal D114 F114)):SC 75 (mkCal D75 (D75.run Tryz.prog env (cal75 F18 F114) H75)):=
 FnD.sound (fun f c hf=>by
  unfold cal75 at hf
  split at hf
  ·cases hf; exact h18
  ·cases hf; exact h114
  ·cases hf) mix Tryz.func75 rfl (by decide) rfl rfl good75
theorem good40:D40.good Tryz.prog=true:=by kernel_rfl
theorem snd40 (F18 F75:Fun) (h18:SC 18 (mkCal D18 F18)) (h75:SC 75 (mkCal D75 F75)):SC 40 (mkCal D40 (D40.run Tryz.prog env (cal40 F18 F75) H40)):=
 FnD.sound (fun f c hf=>by
  unfold cal40 at hf
  split at hf
  ·cases hf; exact h18
  ·cases hf; exact h75
  ·cases hf) mix Tryz.func40 rfl (by decide) rfl rfl good40
theorem good41:D41.good Tryz.prog=true:=by kernel_rfl
theorem snd41  : SC 41 (mkCal D41 (D41.run Tryz.prog env cal41 H41)):=
 FnD.sound (fun f c hf=>by cases hf) mix Tryz.func41 rfl (by decide) rfl rfl good41
theorem good42:D42.good Tryz.prog=true:=by kernel_rfl
theorem snd42 (F74:Fun) (h74:SC 74 (mkCal D74 F74)):SC 42 (mkCal D42 (D42.run Tryz.prog env (cal42 F74) H42)):=
 FnD.sound (fun f c hf=>by
  unfold cal42 at hf
  split at hf
  ·cases hf; exact h74
  ·cases hf) mix Tryz.func42 rfl (by decide) rfl rfl good42
theorem good43:D43.good Tryz.prog=true:=by kernel_rfl
theorem snd43 (F73 F74:Fun) (h73:SC 73 (mkCal D73 F73)) (h74:SC 74 (mkCal D74 F74)):SC 43 (mkCal D43 (D43.run Tryz.prog env (cal43 F73 F74) H43)):=
 FnD.sound (fun f c hf=>by
  unfold cal43 at hf
  split at hf
  ·cases hf; exact h73
  ·cases hf; exact h74
  ·cases hf) mix Tryz.func43 rfl (by decide) rfl rfl good43
theorem good15:D15.good Tryz.prog=true:=by kernel_rfl
theorem snd15 (F38 F39 F40 F41 F42 F43:Fun) (h38:SC 38 (mkCal D38 F38)) (h39:SC 39 (mkCal D39 F39)) (h40:SC 40 (mkCal D40 F40)) (h41:SC 41 (mkCal D41 F41)) (h42:SC 42 (mkCal D42 F42)) (h43:SC 43 (mkCal D43 F43)):SC 15 (mkCal D15 (D15.run Tryz.prog env (cal15 F38 F39 F40 F41 F42 F43) H15)):=
 FnD.sound (fun f c hf=>by
  unfold cal15 at hf
  split at hf
  ·cases hf; exact h38
  ·cases hf; exact h39
  ·cases hf; exact h40
  ·cases hf; exact h41
  ·cases hf; exact h42
  ·cases hf; exact h43
  ·cases hf) mix Tryz.func15 rfl (by decide) rfl rfl good15
theorem good17:D17.good Tryz.prog=true:=by kernel_rfl
theorem snd17  : SC 17 (mkCal D17 (D17.run Tryz.prog env cal17 H17)):=
 FnD.sound (fun f c hf=>by cases hf) mix Tryz.func17 rfl (by decide) rfl rfl good17
theorem pan125  (C:Ctx) (hC:C.E=env):PanH C Tryz.prog H125 D125.body:=by
 intro id ops hreg i β hβ S θ a w hB hr Q hQ
 unfold H125 at hβ
 dsimp only at hβ
 split at hβ
 ·cases hβ; exact panU_at (t:=234) (v:=.tmp 23) (by kernel_rfl) (by kernel_rfl) (by kernel_rfl) (p1:=by kernel_rfl) (by kernel_rfl) (by kernel_rfl) (by kernel_rfl) ⟨.struct #[],by kernel_rfl,by intro k h; cases h⟩ hreg S θ a w hB hr Q hQ
 ·cases hβ
theorem good125:D125.good Tryz.prog=true:=by kernel_rfl
theorem snd125  : SC 125 (mkCal D125 (D125.run Tryz.prog env cal125 H125)):=
 FnD.soundOv (fun f c hf=>by cases hf) mix Tryz.func125 rfl (by decide) rfl rfl good125 (fun C _ _=>OvOk.none (by intro id; rfl)) (fun C hC=>pan125 C hC)
theorem pan126  (C:Ctx) (hC:C.E=env):PanH C Tryz.prog H126 D126.body:=by
 intro id ops hreg i β hβ S θ a w hB hr Q hQ
 unfold H126 at hβ
 dsimp only at hβ
 split at hβ
 ·cases hβ; exact panU_at (t:=234) (v:=.tmp 13) (by kernel_rfl) (by kernel_rfl) (by kernel_rfl) (p1:=by kernel_rfl) (by kernel_rfl) (by kernel_rfl) (by kernel_rfl) ⟨.struct #[],by kernel_rfl,by intro k h; cases h⟩ hreg S θ a w hB hr Q hQ
 ·cases hβ
theorem good126:D126.good Tryz.prog=true:=by kernel_rfl
theorem snd126  : SC 126 (mkCal D126 (D126.run Tryz.prog env cal126 H126)):=
 FnD.soundOv (fun f c hf=>by cases hf) mix Tryz.func126 rfl (by decide) rfl rfl good126 (fun C _ _=>OvOk.none (by intro id; rfl)) (fun C hC=>pan126 C hC)
theorem pan83 (sp125:SoundPan Tryz.prog env 125 [.fs .u8,.int .i64,.int .i64] B125) (sp126:SoundPan Tryz.prog env 126 [.fs .u8,.int .i64] B126) (C:Ctx) (hC:C.E=env):PanH C Tryz.prog H83 D83.body:=by
 intro id ops hreg i β hβ S θ a w hB hr Q hQ
 unfold H83 at hβ
 dsimp only at hβ
 split at hβ
 ·cases hβ; exact panC_at hC sp125 (xs:=#[.tmp 24,.tmp 25,.tmp 26]) (ats:=#[31,3,3]) (by kernel_rfl) (by kernel_rfl) (by kernel_rfl) (by kernel_rfl) hreg S θ a w hB hr Q hQ
 ·cases hβ; exact panC_at hC sp126 (xs:=#[.tmp 39,.tmp 41]) (ats:=#[31,3]) (by kernel_rfl) (by kernel_rfl) (by kernel_rfl) (by kernel_rfl) hreg S θ a w hB hr Q hQ
 ·cases hβ
theorem good83:D83.good Tryz.prog=true:=by kernel_rfl
theorem snd83 (F123 F125 F126:Fun) (h123:SC 123 (mkCal D123 F123)) (h125:SC 125 (mkCal D125 F125)) (h126:SC 126 (mkCal D126 F126)) (sp125:SoundPan Tryz.prog env 125 [.fs .u8,.int .i64,.int .i64] B125) (sp126:SoundPan Tryz.prog env 126 [.fs .u8,.int .i64] B126):SC 83 (mkCal D83 (D83.runR Tryz.prog env (cal83 F123 F125 F126) H83 (cloX (Tryz.f124.body.getD .skip)) 5 [6,7,8])):=
 FnD.soundR (fun f c hf=>by
  unfold cal83 at hf
  split at hf
  ·cases hf; exact h123
  ·cases hf; exact h125
  ·cases hf; exact h126
  ·cases hf) mix (H:=H83) Tryz.func83 rfl (by decide) rfl rfl good83 (g:=124) (gn:=Tryz.f124) (i:=0) (at1:=#[]) (q1:=opAt 0 0 (Tryz.f124.body.getD .skip)) (q2:=opAt 0 1 (Tryz.f124.body.getD .skip)) (X:=cloX (Tryz.f124.body.getD .skip)) (e1:=3) (e2:=4) (ts:=[6,7,8]) (o1:=opAt 4 0 D83.body) (o2:=opAt 4 1 D83.body) rfl (by kernel_rfl) (by kernel_rfl) (by kernel_rfl) (by kernel_rfl) (by kernel_rfl) (by kernel_rfl) (by kernel_rfl) (by kernel_rfl)
  (fun C' hC hp id ops draw hreg hne φ hφ=>by
  unfold H83 at hφ
  dsimp only at hφ
  split at hφ
  ·exact (hne rfl).elim
  ·cases hφ)
  (fun C hC=>pan83 sp125 sp126 C hC) Tryz.func124 (by kernel_rfl) (by decide) rfl (by kernel_rfl) (by kernel_rfl) (by kernel_rfl) (by kernel_rfl) (by kernel_rfl) (by decide) (by decide) (rec_some (by kernel_rfl)) (rec_none (by kernel_rfl))
theorem good84:D84.good Tryz.prog=true:=by kernel_rfl
theorem snd84 (F127:Fun) (h127:SC 127 (mkCal D127 F127)):SC 84 (mkCal D84 (D84.run Tryz.prog env (cal84 F127) H84)):=
 FnD.sound (fun f c hf=>by
  unfold cal84 at hf
  split at hf
  ·cases hf; exact h127
  ·cases hf) mix Tryz.func84 rfl (by decide) rfl rfl good84
theorem good58:D58.good Tryz.prog=true:=by kernel_rfl
theorem snd58 (F83 F84 F95 F96:Fun) (h83:SC 83 (mkCal D83 F83)) (h84:SC 84 (mkCal D84 F84)) (h95:SC 95 (mkCal D95 F95)) (h96:SC 96 (mkCal D96 F96)):SC 58 (mkCal D58 (D58.run Tryz.prog env (cal58 F83 F84 F95 F96) H58)):=
 FnD.sound (fun f c hf=>by
  unfold cal58 at hf
  split at hf
  ·cases hf; exact h83
  ·cases hf; exact h84
  ·cases hf; exact h95
  ·cases hf; exact h96
  ·cases hf) mix Tryz.func58 rfl (by decide) rfl rfl good58
theorem good98:D98.good Tryz.prog=true:=by kernel_rfl
theorem snd98 (F84 F139:Fun) (h84:SC 84 (mkCal D84 F84)) (h139:SC 139 (mkCal D139 F139)):SC 98 (mkCal D98 (D98.run Tryz.prog env (cal98 F84 F139) H98)):=
 FnD.sound (fun f c hf=>by
  unfold cal98 at hf
  split at hf
  ·cases hf; exact h84
  ·cases hf; exact h139
  ·cases hf) mix Tryz.func98 rfl (by decide) rfl rfl good98
theorem good59:D59.good Tryz.prog=true:=by kernel_rfl
theorem snd59 (F83 F97 F98:Fun) (h83:SC 83 (mkCal D83 F83)) (h97:SC 97 (mkCal D97 F97)) (h98:SC 98 (mkCal D98 F98)):SC 59 (mkCal D59 (D59.run Tryz.prog env (cal59 F83 F97 F98) H59)):=
 FnD.sound (fun f c hf=>by
  unfold cal59 at hf
  split at hf
  ·cases hf; exact h83
  ·cases hf; exact h97
  ·cases hf; exact h98
  ·cases hf) mix Tryz.func59 rfl (by decide) rfl rfl good59
theorem good99:D99.good Tryz.prog=true:=by kernel_rfl
theorem snd99 (F142:Fun) (h142:SC 142 (mkCal D142 F142)):SC 99 (mkCal D99 (D99.run Tryz.prog env (cal99 F142) H99)):=
 FnD.sound (fun f c hf=>by
  unfold cal99 at hf
  split at hf
  ·cases hf; exact h142
  ·cases hf) mix Tryz.func99 rfl (by decide) rfl rfl good99
theorem good60:D60.good Tryz.prog=true:=by kernel_rfl
theorem snd60 (F83 F97 F98 F99:Fun) (h83:SC 83 (mkCal D83 F83)) (h97:SC 97 (mkCal D97 F97)) (h98:SC 98 (mkCal D98 F98)) (h99:SC 99 (mkCal D99 F99)):SC 60 (mkCal D60 (D60.run Tryz.prog env (cal60 F83 F97 F98 F99) H60)):=
 FnD.sound (fun f c hf=>by
  unfold cal60 at hf
  split at hf
  ·cases hf; exact h83
  ·cases hf; exact h97
  ·cases hf; exact h98
  ·cases hf; exact h99
  ·cases hf) mix Tryz.func60 rfl (by decide) rfl rfl good60
theorem good26:D26.good Tryz.prog=true:=by kernel_rfl
theorem snd26 (F54 F55 F56 F57 F58 F59 F60:Fun) (h54:SC 54 (mkCal D54 F54)) (h55:SC 55 (mkCal D55 F55)) (h56:SC 56 (mkCal D56 F56)) (h57:SC 57 (mkCal D57 F57)) (h58:SC 58 (mkCal D58 F58)) (h59:SC 59 (mkCal D59 F59)) (h60:SC 60 (mkCal D60 F60)):SC 26 (mkCal D26 (D26.run Tryz.prog env (cal26 F54 F55 F56 F57 F58 F59 F60) H26)):=
 FnD.sound (fun f c hf=>by
  unfold cal26 at hf
  split at hf
  ·cases hf; exact h54
  ·cases hf; exact h55
  ·cases hf; exact h56
  ·cases hf; exact h57
  ·cases hf; exact h58
  ·cases hf; exact h59
  ·cases hf; exact h60
  ·cases hf) mix Tryz.func26 rfl (by decide) rfl rfl good26
theorem good78:D78.good Tryz.prog=true:=by kernel_rfl
theorem snd78  : SC 78 (mkCal D78 (D78.run Tryz.prog env cal78 H78)):=
 FnD.sound (fun f c hf=>by cases hf) mix Tryz.func78 rfl (by decide) rfl rfl good78
theorem good49:D49.good Tryz.prog=true:=by kernel_rfl
theorem snd49 (F77 F78 F79:Fun) (h77:SC 77 (mkCal D77 F77)) (h78:SC 78 (mkCal D78 F78)) (h79:SC 79 (mkCal D79 F79)):SC 49 (mkCal D49 (D49.run Tryz.prog env (cal49 F77 F78 F79) H49)):=
 FnD.sound (fun f c hf=>by
  unfold cal49 at hf
  split at hf
  ·cases hf; exact h77
  ·cases hf; exact h78
  ·cases hf; exact h79
  ·cases hf) mix Tryz.func49 rfl (by decide) rfl rfl good49
theorem good85:D85.good Tryz.prog=true:=by kernel_rfl
theorem snd85  : SC 85 (mkCal D85 (D85.run Tryz.prog env cal85 H85)):=
 FnD.sound (fun f c hf=>by cases hf) mix Tryz.func85 rfl (by decide) rfl rfl good85
theorem good87:D87.good Tryz.prog=true:=by kernel_rfl
theorem snd87  : SC 87 (mkCal D87 (D87.run Tryz.prog env cal87 H87)):=
 FnD.sound (fun f c hf=>by cases hf) mix Tryz.func87 rfl (by decide) rfl rfl good87
theorem good88:D88.good Tryz.prog=true:=by kernel_rfl
theorem snd88  : SC 88 (mkCal D88 (D88.run Tryz.prog env cal88 H88)):=
 FnD.sound (fun f c hf=>by cases hf) mix Tryz.func88 rfl (by decide) rfl rfl good88
theorem good51:D51.good Tryz.prog=true:=by kernel_rfl
theorem snd51 (F83 F84 F85 F86 F87 F88:Fun) (h83:SC 83 (mkCal D83 F83)) (h84:SC 84 (mkCal D84 F84)) (h85:SC 85 (mkCal D85 F85)) (h86:SC 86 (mkCal D86 F86)) (h87:SC 87 (mkCal D87 F87)) (h88:SC 88 (mkCal D88 F88)):SC 51 (mkCal D51 (D51.run Tryz.prog env (cal51 F83 F84 F85 F86 F87 F88) H51)):=
 FnD.sound (fun f c hf=>by
  unfold cal51 at hf
  split at hf
  ·cases hf; exact h83
  ·cases hf; exact h84
  ·cases hf; exact h85
  ·cases hf; exact h86
  ·cases hf; exact h87
  ·cases hf; exact h88
  ·cases hf) mix Tryz.func51 rfl (by decide) rfl rfl good51
theorem good23:D23.good Tryz.prog=true:=by kernel_rfl
theorem snd23 (F26 F49 F50 F51 F52:Fun) (h26:SC 26 (mkCal D26 F26)) (h49:SC 49 (mkCal D49 F49)) (h50:SC 50 (mkCal D50 F50)) (h51:SC 51 (mkCal D51 F51)) (h52:SC 52 (mkCal D52 F52)):SC 23 (mkCal D23 (D23.run Tryz.prog env (cal23 F26 F49 F50 F51 F52) H23)):=
 FnD.sound (fun f c hf=>by
  unfold cal23 at hf
  split at hf
  ·cases hf; exact h26
  ·cases hf; exact h49
  ·cases hf; exact h50
  ·cases hf; exact h51
  ·cases hf; exact h52
  ·cases hf) mix Tryz.func23 rfl (by decide) rfl rfl good23
theorem good30:D30.good Tryz.prog=true:=by kernel_rfl
theorem snd30  : SC 30 (mkCal D30 (D30.run Tryz.prog env cal30 H30)):=
 FnD.sound (fun f c hf=>by cases hf) mix Tryz.func30 rfl (by decide) rfl rfl good30
theorem good44:D44.good Tryz.prog=true:=by kernel_rfl
theorem snd44  : SC 44 (mkCal D44 (D44.run Tryz.prog env cal44 H44)):=
 FnD.sound (fun f c hf=>by cases hf) mix Tryz.func44 rfl (by decide) rfl rfl good44
theorem good76:D76.good Tryz.prog=true:=by kernel_rfl
theorem snd76  : SC 76 (mkCal D76 (D76.run Tryz.prog env cal76 H76)):=
 FnD.sound (fun f c hf=>by cases hf) mix Tryz.func76 rfl (by decide) rfl rfl good76
theorem good45:D45.good Tryz.prog=true:=by kernel_rfl
theorem snd45 (F17 F76:Fun) (h17:SC 17 (mkCal D17 F17)) (h76:SC 76 (mkCal D76 F76)):SC 45 (mkCal D45 (D45.run Tryz.prog env (cal45 F17 F76) H45)):=
 FnD.sound (fun f c hf=>by
  unfold cal45 at hf
  split at hf
  ·cases hf; exact h17
  ·cases hf; exact h76
  ·cases hf) mix Tryz.func45 rfl (by decide) rfl rfl good45
theorem good16:D16.good Tryz.prog=true:=by kernel_rfl
theorem snd16 (F13 F15 F17 F18 F23 F30 F44 F45:Fun) (h13:SC 13 (mkCal D13 F13)) (h15:SC 15 (mkCal D15 F15)) (h17:SC 17 (mkCal D17 F17)) (h18:SC 18 (mkCal D18 F18)) (h23:SC 23 (mkCal D23 F23)) (h30:SC 30 (mkCal D30 F30)) (h44:SC 44 (mkCal D44 F44)) (h45:SC 45 (mkCal D45 F45)):SC 16 (mkCal D16 (D16.run Tryz.prog env (cal16 F13 F15 F17 F18 F23 F30 F44 F45) H16)):=
 FnD.sound (fun f c hf=>by
  unfold cal16 at hf
  split at hf
  ·cases hf; exact h13
  ·cases hf; exact h15
  ·cases hf; exact h17
  ·cases hf; exact h18
  ·cases hf; exact h23
  ·cases hf; exact h30
  ·cases hf; exact h44
  ·cases hf; exact h45
  ·cases hf) mix Tryz.func16 rfl (by decide) rfl rfl good16
theorem good3:D3.good Tryz.prog=true:=by kernel_rfl
theorem snd3 (F13 F14 F15 F16 F17 F18:Fun) (h13:SC 13 (mkCal D13 F13)) (h14:SC 14 (mkCal D14 F14)) (h15:SC 15 (mkCal D15 F15)) (h16:SC 16 (mkCal D16 F16)) (h17:SC 17 (mkCal D17 F17)) (h18:SC 18 (mkCal D18 F18)):SC 3 (mkCal D3 (D3.run Tryz.prog env (cal3 F13 F14 F15 F16 F17 F18) H3)):=
 FnD.sound (fun f c hf=>by
  unfold cal3 at hf
  split at hf
  ·cases hf; exact h13
  ·cases hf; exact h14
  ·cases hf; exact h15
  ·cases hf; exact h16
  ·cases hf; exact h17
  ·cases hf; exact h18
  ·cases hf) mix Tryz.func3 rfl (by decide) rfl rfl good3
theorem good19:D19.good Tryz.prog=true:=by kernel_rfl
theorem snd19  : SC 19 (mkCal D19 (D19.run Tryz.prog env cal19 H19)):=
 FnD.sound (fun f c hf=>by cases hf) mix Tryz.func19 rfl (by decide) rfl rfl good19
theorem good46:D46.good Tryz.prog=true:=by kernel_rfl
theorem snd46  : SC 46 (mkCal D46 (D46.run Tryz.prog env cal46 H46)):=
 FnD.sound (fun f c hf=>by cases hf) mix Tryz.func46 rfl (by decide) rfl rfl good46
theorem good47:D47.good Tryz.prog=true:=by kernel_rfl
theorem snd47  : SC 47 (mkCal D47 (D47.run Tryz.prog env cal47 H47)):=
 FnD.sound (fun f c hf=>by cases hf) mix Tryz.func47 rfl (by decide) rfl rfl good47
theorem good48:D48.good Tryz.prog=true:=by kernel_rfl
theorem snd48 (F47:Fun) (h47:SC 47 (mkCal D47 F47)):SC 48 (mkCal D48 (D48.run Tryz.prog env (cal48 F47) H48)):=
 FnD.sound (fun f c hf=>by
  unfold cal48 at hf
  split at hf
  ·cases hf; exact h47
  ·cases hf) mix Tryz.func48 rfl (by decide) rfl rfl good48
theorem good20:D20.good Tryz.prog=true:=by kernel_rfl
theorem snd20 (F46 F47 F48:Fun) (h46:SC 46 (mkCal D46 F46)) (h47:SC 47 (mkCal D47 F47)) (h48:SC 48 (mkCal D48 F48)):SC 20 (mkCal D20 (D20.run Tryz.prog env (cal20 F46 F47 F48) H20)):=
 FnD.sound (fun f c hf=>by
  unfold cal20 at hf
  split at hf
  ·cases hf; exact h46
  ·cases hf; exact h47
  ·cases hf; exact h48
  ·cases hf) mix Tryz.func20 rfl (by decide) rfl rfl good20
theorem good21:D21.good Tryz.prog=true:=by kernel_rfl
theorem snd21 (F47 F48:Fun) (h47:SC 47 (mkCal D47 F47)) (h48:SC 48 (mkCal D48 F48)):SC 21 (mkCal D21 (D21.run Tryz.prog env (cal21 F47 F48) H21)):=
 FnD.sound (fun f c hf=>by
  unfold cal21 at hf
  split at hf
  ·cases hf; exact h47
  ·cases hf; exact h48
  ·cases hf) mix Tryz.func21 rfl (by decide) rfl rfl good21
theorem good4:D4.good Tryz.prog=true:=by kernel_rfl
theorem snd4 (F13 F16 F17 F19 F20 F21:Fun) (h13:SC 13 (mkCal D13 F13)) (h16:SC 16 (mkCal D16 F16)) (h17:SC 17 (mkCal D17 F17)) (h19:SC 19 (mkCal D19 F19)) (h20:SC 20 (mkCal D20 F20)) (h21:SC 21 (mkCal D21 F21)):SC 4 (mkCal D4 (D4.run Tryz.prog env (cal4 F13 F16 F17 F19 F20 F21) H4)):=
 FnD.sound (fun f c hf=>by
  unfold cal4 at hf
  split at hf
  ·cases hf; exact h13
  ·cases hf; exact h16
  ·cases hf; exact h17
  ·cases hf; exact h19
  ·cases hf; exact h20
  ·cases hf; exact h21
  ·cases hf) mix Tryz.func4 rfl (by decide) rfl rfl good4
end Go.Proofs.YtlmnjnhmhacgkaaGreatDoor.Am
end
