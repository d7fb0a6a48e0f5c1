/-
  A described function is sound where its callees are.
-/
import Derived.Test.YtlmnjnhmhacgkaaDoorPkA
import Derived.Test.YtlmnjnhmhacgkaaDoorAmG
import Derived.WideLaws
import Derived.KernelRfl
section
set_option linter.unusedVariables false
namespace Go.Proofs.YtlmnjnhmhacgkaaDoor.Am
open Go Go.Am Go.Proofs
theorem mix:Tryd.prog.follows .mixedOrders=true:=by rfl
abbrev SC (i:FuncId) (c:Cal):Prop:=SoundCal Tryd.prog env i c
end Go.Proofs.YtlmnjnhmhacgkaaDoor.Am
end
section
set_option linter.unusedVariables false
set_option maxRecDepth 100000
namespace Go.Proofs.YtlmnjnhmhacgkaaDoor.Am
open Go Go.Am Go.Proofs
theorem good904:D904.good Tryd.prog=true:=by kernel_rfl
theorem snd904  : SC 4 (mkCal D904 (D904.run Tryd.prog env cal904 H904)):=
 FnD.sound (fun f c hf=>by cases hf) mix Tryd.func4 rfl (by decide) rfl rfl good904
theorem good55:D55.good Tryd.prog=true:=by kernel_rfl
theorem snd55  : SC 13 (mkCal D55 (D55.run Tryd.prog env cal55 H55)):=
 FnD.sound (fun f c hf=>by cases hf) mix Tryd.func13 rfl (by decide) rfl rfl good55
theorem good61:D61.good Tryd.prog=true:=by kernel_rfl
theorem snd61  : SC 14 (mkCal D61 (D61.run Tryd.prog env cal61 H61)):=
 FnD.sound (fun f c hf=>by cases hf) mix Tryd.func14 rfl (by decide) rfl rfl good61
theorem good27:D27.good Tryd.prog=true:=by kernel_rfl
theorem snd27 (F55 F61:Fun) (h55:SC 13 (mkCal D55 F55)) (h61:SC 14 (mkCal D61 F61)):SC 7 (mkCal D27 (D27.run Tryd.prog env (cal27 F55 F61) H27)):=
 FnD.sound (fun f c hf=>by
  unfold cal27 at hf
  split at hf
  ·cases hf; exact h55
  ·cases hf; exact h61
  ·cases hf) mix Tryd.func7 rfl (by decide) rfl rfl good27
theorem good77:D77.good Tryd.prog=true:=by kernel_rfl
theorem snd77  : SC 35 (mkCal D77 (D77.run Tryd.prog env cal77 H77)):=
 FnD.sound (fun f c hf=>by cases hf) mix Tryd.func35 rfl (by decide) rfl rfl good77
theorem good79:D79.good Tryd.prog=true:=by kernel_rfl
theorem snd79  : SC 36 (mkCal D79 (D79.run Tryd.prog env cal79 H79)):=
 FnD.sound (fun f c hf=>by cases hf) mix Tryd.func36 rfl (by decide) rfl rfl good79
theorem good63:D63.good Tryd.prog=true:=by kernel_rfl
theorem snd63 (F77 F79:Fun) (h77:SC 35 (mkCal D77 F77)) (h79:SC 36 (mkCal D79 F79)):SC 25 (mkCal D63 (D63.run Tryd.prog env (cal63 F77 F79) H63)):=
 FnD.sound (fun f c hf=>by
  unfold cal63 at hf
  split at hf
  ·cases hf; exact h77
  ·cases hf; exact h79
  ·cases hf) mix Tryd.func25 rfl (by decide) rfl rfl good63
theorem good34:D34.good Tryd.prog=true:=by kernel_rfl
theorem snd34  : SC 17 (mkCal D34 (D34.run Tryd.prog env cal34 H34)):=
 FnD.sound (fun f c hf=>by cases hf) mix Tryd.func17 rfl (by decide) rfl rfl good34
theorem good70:D70.good Tryd.prog=true:=by kernel_rfl
theorem snd70  : SC 31 (mkCal D70 (D70.run Tryd.prog env cal70 H70)):=
 FnD.sound (fun f c hf=>by cases hf) mix Tryd.func31 rfl (by decide) rfl rfl good70
theorem good113:D113.good Tryd.prog=true:=by kernel_rfl
theorem snd113 (F70:Fun) (h70:SC 31 (mkCal D70 F70)):SC 48 (mkCal D113 (D113.run Tryd.prog env (cal113 F70) H113)):=
 FnD.sound (fun f c hf=>by
  unfold cal113 at hf
  split at hf
  ·cases hf; exact h70
  ·cases hf) mix Tryd.func48 rfl (by decide) rfl rfl good113
theorem good112:D112.good Tryd.prog=true:=by kernel_rfl
theorem snd112 (F113:Fun) (h113:SC 48 (mkCal D113 F113)):SC 47 (mkCal D112 (D112.run Tryd.prog env (cal112 F113) H112)):=
 FnD.sound (fun f c hf=>by
  unfold cal112 at hf
  split at hf
  ·cases hf; exact h113
  ·cases hf) mix Tryd.func47 rfl (by decide) rfl rfl good112
theorem good69:D69.good Tryd.prog=true:=by kernel_rfl
theorem snd69 (F112:Fun) (h112:SC 47 (mkCal D112 F112)):SC 30 (mkCal D69 (D69.run Tryd.prog env (cal69 F112) H69)):=
 FnD.sound (fun f c hf=>by
  unfold cal69 at hf
  split at hf
  ·cases hf; exact h112
  ·cases hf) mix Tryd.func30 rfl (by decide) rfl rfl good69
theorem good35:D35.good Tryd.prog=true:=by kernel_rfl
theorem snd35 (F69 F70:Fun) (h69:SC 30 (mkCal D69 F69)) (h70:SC 31 (mkCal D70 F70)):SC 18 (mkCal D35 (D35.run Tryd.prog env (cal35 F69 F70) H35)):=
 FnD.sound (fun f c hf=>by
  unfold cal35 at hf
  split at hf
  ·cases hf; exact h69
  ·cases hf; exact h70
  ·cases hf) mix Tryd.func18 rfl (by decide) rfl rfl good35
theorem good72:D72.good Tryd.prog=true:=by kernel_rfl
theorem snd72 (F69 F70:Fun) (h69:SC 30 (mkCal D69 F69)) (h70:SC 31 (mkCal D70 F70)):SC 33 (mkCal D72 (D72.run Tryd.prog env (cal72 F69 F70) H72)):=
 FnD.sound (fun f c hf=>by
  unfold cal72 at hf
  split at hf
  ·cases hf; exact h69
  ·cases hf; exact h70
  ·cases hf) mix Tryd.func33 rfl (by decide) rfl rfl good72
theorem good71:D71.good Tryd.prog=true:=by kernel_rfl
theorem snd71 (F72:Fun) (h72:SC 33 (mkCal D72 F72)):SC 32 (mkCal D71 (D71.run Tryd.prog env (cal71 F72) H71)):=
 FnD.sound (fun f c hf=>by
  unfold cal71 at hf
  split at hf
  ·cases hf; exact h72
  ·cases hf) mix Tryd.func32 rfl (by decide) rfl rfl good71
theorem good36:D36.good Tryd.prog=true:=by kernel_rfl
theorem snd36 (F70 F71:Fun) (h70:SC 31 (mkCal D70 F70)) (h71:SC 32 (mkCal D71 F71)):SC 19 (mkCal D36 (D36.run Tryd.prog env (cal36 F70 F71) H36)):=
 FnD.sound (fun f c hf=>by
  unfold cal36 at hf
  split at hf
  ·cases hf; exact h70
  ·cases hf; exact h71
  ·cases hf) mix Tryd.func19 rfl (by decide) rfl rfl good36
theorem good37:D37.good Tryd.prog=true:=by kernel_rfl
theorem snd37 (F69 F70:Fun) (h69:SC 30 (mkCal D69 F69)) (h70:SC 31 (mkCal D70 F70)):SC 20 (mkCal D37 (D37.run Tryd.prog env (cal37 F69 F70) H37)):=
 FnD.sound (fun f c hf=>by
  unfold cal37 at hf
  split at hf
  ·cases hf; exact h69
  ·cases hf; exact h70
  ·cases hf) mix Tryd.func20 rfl (by decide) rfl rfl good37
theorem good14:D14.good Tryd.prog=true:=by kernel_rfl
theorem snd14 (F34 F35 F36 F37:Fun) (h34:SC 17 (mkCal D34 F34)) (h35:SC 18 (mkCal D35 F35)) (h36:SC 19 (mkCal D36 F36)) (h37:SC 20 (mkCal D37 F37)):SC 10 (mkCal D14 (D14.run Tryd.prog env (cal14 F34 F35 F36 F37) H14)):=
 FnD.sound (fun f c hf=>by
  unfold cal14 at hf
  split at hf
  ·cases hf; exact h34
  ·cases hf; exact h35
  ·cases hf; exact h36
  ·cases hf; exact h37
  ·cases hf) mix Tryd.func10 rfl (by decide) rfl rfl good14
theorem good94:D94.good Tryd.prog=true:=by kernel_rfl
theorem snd94  : SC 49 (mkCal D94 (D94.run Tryd.prog env cal94 H94)):=
 FnD.sound (fun f c hf=>by cases hf) mix Tryd.func49 rfl (by decide) rfl rfl good94
theorem good57:D57.good Tryd.prog=true:=by kernel_rfl
theorem snd57 (F55 F94:Fun) (h55:SC 13 (mkCal D55 F55)) (h94:SC 49 (mkCal D94 F94)):SC 37 (mkCal D57 (D57.run Tryd.prog env (cal57 F55 F94) H57)):=
 FnD.sound (fun f c hf=>by
  unfold cal57 at hf
  split at hf
  ·cases hf; exact h55
  ·cases hf; exact h94
  ·cases hf) mix Tryd.func37 rfl (by decide) rfl rfl good57
theorem good56:D56.good Tryd.prog=true:=by kernel_rfl
theorem snd56  : SC 38 (mkCal D56 (D56.run Tryd.prog env cal56 H56)):=
 FnD.sound (fun f c hf=>by cases hf) mix Tryd.func38 rfl (by decide) rfl rfl good56
theorem good64:D64.good Tryd.prog=true:=by kernel_rfl
theorem snd64 (F14 F55 F56 F57:Fun) (h14:SC 10 (mkCal D14 F14)) (h55:SC 13 (mkCal D55 F55)) (h57:SC 37 (mkCal D57 F57)) (h56:SC 38 (mkCal D56 F56)):SC 26 (mkCal D64 (D64.run Tryd.prog env (cal64 F14 F55 F56 F57) H64)):=
 FnD.sound (fun f c hf=>by
  unfold cal64 at hf
  split at hf
  ·cases hf; exact h14
  ·cases hf; exact h55
  ·cases hf; exact h57
  ·cases hf; exact h56
  ·cases hf) mix Tryd.func26 rfl (by decide) rfl rfl good64
theorem snd111  : SC 46 (rowCal (rowRun Tryd.prog env cal111 H111 (Tryd.f46.body.getD .skip) 13 4 5 .u8) 5 .u8 31):=
 soundRow (fun f c hf=>by cases hf) mix Tryd.func46 rfl (by decide) rfl rfl (fun C _=>OvOk.none (by intro id; rfl)) (fun C _=>PanH.none (by intro id; rfl))
theorem good82:D82.good Tryd.prog=true:=by kernel_rfl
theorem snd82 (F77:Fun) (h77:SC 35 (mkCal D77 F77)):SC 50 (mkCal D82 (D82.run Tryd.prog env (cal82 F77) H82)):=
 FnD.sound (fun f c hf=>by
  unfold cal82 at hf
  split at hf
  ·cases hf; exact h77
  ·cases hf) mix Tryd.func50 rfl (by decide) rfl rfl good82
theorem good81:D81.good Tryd.prog=true:=by kernel_rfl
theorem snd81  : SC 51 (mkCal D81 (D81.run Tryd.prog env cal81 H81)):=
 FnD.sound (fun f c hf=>by cases hf) mix Tryd.func51 rfl (by decide) rfl rfl good81
theorem good106:D106.good Tryd.prog=true:=by kernel_rfl
theorem snd106 (F81 F82 F111:Fun) (h111:SC 46 (rowCal F111 5 .u8 31)) (h82:SC 50 (mkCal D82 F82)) (h81:SC 51 (mkCal D81 F81)):SC 39 (mkCal D106 (D106.run Tryd.prog env (cal106 F81 F82 F111) H106)):=
 FnD.sound (fun f c hf=>by
  unfold cal106 at hf
  split at hf
  ·cases hf; exact h111
  ·cases hf; exact h82
  ·cases hf; exact h81
  ·cases hf) mix Tryd.func39 rfl (by decide) rfl rfl good106
theorem good157:D157.good Tryd.prog=true:=by kernel_rfl
theorem snd157  : SC 60 (mkCal D157 (D157.run Tryd.prog env cal157 H157)):=
 FnD.sound (fun f c hf=>by cases hf) mix Tryd.func60 rfl (by decide) rfl rfl good157
theorem good202:D202.good Tryd.prog=true:=by kernel_rfl
theorem snd202  : SC 65 (mkCal D202 (D202.run Tryd.prog env cal202 H202)):=
 FnD.sound (fun f c hf=>by cases hf) mix Tryd.func65 rfl (by decide) rfl rfl good202
theorem good203:D203.good Tryd.prog=true:=by kernel_rfl
theorem snd203  : SC 66 (mkCal D203 (D203.run Tryd.prog env cal203 H203)):=
 FnD.sound (fun f c hf=>by cases hf) mix Tryd.func66 rfl (by decide) rfl rfl good203
theorem good86:D86.good Tryd.prog=true:=by kernel_rfl
theorem snd86  : SC 67 (mkCal D86 (D86.run Tryd.prog env cal86 H86)):=
 FnD.sound (fun f c hf=>by cases hf) mix Tryd.func67 rfl (by decide) rfl rfl good86
theorem good155:D155.good Tryd.prog=true:=by kernel_rfl
theorem snd155 (F86 F157 F202 F203:Fun) (h157:SC 60 (mkCal D157 F157)) (h202:SC 65 (mkCal D202 F202)) (h203:SC 66 (mkCal D203 F203)) (h86:SC 67 (mkCal D86 F86)):SC 52 (mkCal D155 (D155.run Tryd.prog env (cal155 F86 F157 F202 F203) H155)):=
 FnD.sound (fun f c hf=>by
  unfold cal155 at hf
  split at hf
  ·cases hf; exact h157
  ·cases hf; exact h202
  ·cases hf; exact h203
  ·cases hf; exact h86
  ·cases hf) mix Tryd.func52 rfl (by decide) rfl rfl good155
theorem good123:D123.good Tryd.prog=true:=by kernel_rfl
theorem snd123  : SC 74 (mkCal D123 (D123.run Tryd.prog env cal123 H123)):=
 FnD.sound (fun f c hf=>by cases hf) mix Tryd.func74 rfl (by decide) rfl rfl good123
theorem good136:D136.good Tryd.prog=true:=by kernel_rfl
theorem snd136 (F123:Fun) (h123:SC 74 (mkCal D123 F123)):SC 61 (mkCal D136 (D136.run Tryd.prog env (cal136 F123) H136)):=
 FnD.sound (fun f c hf=>by
  unfold cal136 at hf
  split at hf
  ·cases hf; exact h123
  ·cases hf) mix Tryd.func61 rfl (by decide) rfl rfl good136
theorem good269:D269.good Tryd.prog=true:=by kernel_rfl
theorem snd269  : SC 34 (mkCal D269 (D269.run Tryd.prog env cal269 H269)):=
 FnD.sound (fun f c hf=>by cases hf) mix Tryd.func34 rfl (by decide) rfl rfl good269
theorem good244:D244.good Tryd.prog=true:=by kernel_rfl
theorem snd244 (F269:Fun) (h269:SC 34 (mkCal D269 F269)):SC 21 (mkCal D244 (D244.run Tryd.prog env (cal244 F269) H244)):=
 FnD.sound (fun f c hf=>by
  unfold cal244 at hf
  split at hf
  ·cases hf; exact h269
  ·cases hf) mix Tryd.func21 rfl (by decide) rfl rfl good244
theorem good204:D204.good Tryd.prog=true:=by kernel_rfl
theorem snd204 (F244:Fun) (h244:SC 21 (mkCal D244 F244)):SC 76 (mkCal D204 (D204.run Tryd.prog env (cal204 F244) H204)):=
 FnD.sound (fun f c hf=>by
  unfold cal204 at hf
  split at hf
  ·cases hf; exact h244
  ·cases hf) mix Tryd.func76 rfl (by decide) rfl rfl good204
theorem good130:D130.good Tryd.prog=true:=by kernel_rfl
theorem snd130  : SC 84 (mkCal D130 (D130.run Tryd.prog env cal130 H130)):=
 FnD.sound (fun f c hf=>by cases hf) mix Tryd.func84 rfl (by decide) rfl rfl good130
theorem snd285  : SC 88 (rowCal (rowRun Tryd.prog env cal285 H285 (Tryd.f88.body.getD .skip) 28 4 5 .u8) 5 .u8 31):=
 soundRow (fun f c hf=>by cases hf) mix Tryd.func88 rfl (by decide) rfl rfl (fun C _=>OvOk.none (by intro id; rfl)) (fun C _=>PanH.none (by intro id; rfl))
theorem good270:D270.good Tryd.prog=true:=by kernel_rfl
theorem snd270 (F285:Fun) (h285:SC 88 (rowCal F285 5 .u8 31)):SC 87 (mkCal D270 (D270.run Tryd.prog env (cal270 F285) H270)):=
 FnD.sound (fun f c hf=>by
  unfold cal270 at hf
  split at hf
  ·cases hf; exact h285
  ·cases hf) mix Tryd.func87 rfl (by decide) rfl rfl good270
theorem good245:D245.good Tryd.prog=true:=by kernel_rfl
theorem snd245 (F130 F270:Fun) (h130:SC 84 (mkCal D130 F130)) (h270:SC 87 (mkCal D270 F270)):SC 83 (mkCal D245 (D245.run Tryd.prog env (cal245 F130 F270) H245)):=
 FnD.sound (fun f c hf=>by
  unfold cal245 at hf
  split at hf
  ·cases hf; exact h130
  ·cases hf; exact h270
  ·cases hf) mix Tryd.func83 rfl (by decide) rfl rfl good245
theorem good205:D205.good Tryd.prog=true:=by kernel_rfl
theorem snd205 (F245:Fun) (h245:SC 83 (mkCal D245 F245)):SC 77 (mkCal D205 (D205.run Tryd.prog env (cal205 F245) H205)):=
 FnD.sound (fun f c hf=>by
  unfold cal205 at hf
  split at hf
  ·cases hf; exact h245
  ·cases hf) mix Tryd.func77 rfl (by decide) rfl rfl good205
theorem good180:D180.good Tryd.prog=true:=by kernel_rfl
theorem snd180  : SC 85 (mkCal D180 (D180.run Tryd.prog env cal180 H180)):=
 FnD.sound (fun f c hf=>by cases hf) mix Tryd.func85 rfl (by decide) rfl rfl good180
theorem good206:D206.good Tryd.prog=true:=by kernel_rfl
theorem snd206 (F130 F180:Fun) (h130:SC 84 (mkCal D130 F130)) (h180:SC 85 (mkCal D180 F180)):SC 78 (mkCal D206 (D206.run Tryd.prog env (cal206 F130 F180) H206)):=
 FnD.sound (fun f c hf=>by
  unfold cal206 at hf
  split at hf
  ·cases hf; exact h130
  ·cases hf; exact h180
  ·cases hf) mix Tryd.func78 rfl (by decide) rfl rfl good206
theorem good159:D159.good Tryd.prog=true:=by kernel_rfl
theorem snd159 (F136 F204 F205 F206 F207:Fun) (h136:SC 61 (mkCal D136 F136)) (h204:SC 76 (mkCal D204 F204)) (h205:SC 77 (mkCal D205 F205)) (h206:SC 78 (mkCal D206 F206)) (h207:SC 79 (mkCal D207 F207)):SC 64 (mkCal D159 (D159.run Tryd.prog env (cal159 F136 F204 F205 F206 F207) H159)):=
 FnD.sound (fun f c hf=>by
  unfold cal159 at hf
  split at hf
  ·cases hf; exact h136
  ·cases hf; exact h204
  ·cases hf; exact h205
  ·cases hf; exact h206
  ·cases hf; exact h207
  ·cases hf) mix Tryd.func64 rfl (by decide) rfl rfl good159
theorem good156:D156.good Tryd.prog=true:=by kernel_rfl
theorem snd156 (F159:Fun) (h159:SC 64 (mkCal D159 F159)):SC 53 (mkCal D156 (D156.run Tryd.prog env (cal156 F159) H156)):=
 FnD.sound (fun f c hf=>by
  unfold cal156 at hf
  split at hf
  ·cases hf; exact h159
  ·cases hf) mix Tryd.func53 rfl (by decide) rfl rfl good156
theorem good107:D107.good Tryd.prog=true:=by kernel_rfl
theorem snd107 (F155 F156:Fun) (h155:SC 52 (mkCal D155 F155)) (h156:SC 53 (mkCal D156 F156)):SC 40 (mkCal D107 (D107.run Tryd.prog env (cal107 F155 F156) H107)):=
 FnD.sound (fun f c hf=>by
  unfold cal107 at hf
  split at hf
  ·cases hf; exact h155
  ·cases hf; exact h156
  ·cases hf) mix Tryd.func40 rfl (by decide) rfl rfl good107
theorem good135:D135.good Tryd.prog=true:=by kernel_rfl
theorem snd135  : SC 54 (mkCal D135 (D135.run Tryd.prog env cal135 H135)):=
 FnD.sound (fun f c hf=>by cases hf) mix Tryd.func54 rfl (by decide) rfl rfl good135
theorem good183:D183.good Tryd.prog=true:=by kernel_rfl
theorem snd183  : SC 68 (mkCal D183 (D183.run Tryd.prog env cal183 H183)):=
 FnD.sound (fun f c hf=>by cases hf) mix Tryd.func68 rfl (by decide) rfl rfl good183
theorem good138:D138.good Tryd.prog=true:=by kernel_rfl
theorem snd138 (F183:Fun) (h183:SC 68 (mkCal D183 F183)):SC 55 (mkCal D138 (D138.run Tryd.prog env (cal138 F183) H138)):=
 FnD.sound (fun f c hf=>by
  unfold cal138 at hf
  split at hf
  ·cases hf; exact h183
  ·cases hf) mix Tryd.func55 rfl (by decide) rfl rfl good138
theorem good142:D142.good Tryd.prog=true:=by kernel_rfl
theorem snd142  : SC 80 (mkCal D142 (D142.run Tryd.prog env cal142 H142)):=
 FnD.sound (fun f c hf=>by cases hf) mix Tryd.func80 rfl (by decide) rfl rfl good142
theorem good141:D141.good Tryd.prog=true:=by kernel_rfl
theorem snd141 (F142:Fun) (h142:SC 80 (mkCal D142 F142)):SC 69 (mkCal D141 (D141.run Tryd.prog env (cal141 F142) H141)):=
 FnD.sound (fun f c hf=>by
  unfold cal141 at hf
  split at hf
  ·cases hf; exact h142
  ·cases hf) mix Tryd.func69 rfl (by decide) rfl rfl good141
theorem good140:D140.good Tryd.prog=true:=by kernel_rfl
theorem snd140 (F141 F183:Fun) (h183:SC 68 (mkCal D183 F183)) (h141:SC 69 (mkCal D141 F141)):SC 56 (mkCal D140 (D140.run Tryd.prog env (cal140 F141 F183) H140)):=
 FnD.sound (fun f c hf=>by
  unfold cal140 at hf
  split at hf
  ·cases hf; exact h183
  ·cases hf; exact h141
  ·cases hf) mix Tryd.func56 rfl (by decide) rfl rfl good140
theorem good108:D108.good Tryd.prog=true:=by kernel_rfl
theorem snd108 (F55 F135 F138 F140:Fun) (h55:SC 13 (mkCal D55 F55)) (h135:SC 54 (mkCal D135 F135)) (h138:SC 55 (mkCal D138 F138)) (h140:SC 56 (mkCal D140 F140)):SC 41 (mkCal D108 (D108.run Tryd.prog env (cal108 F55 F135 F138 F140) H108)):=
 FnD.sound (fun f c hf=>by
  unfold cal108 at hf
  split at hf
  ·cases hf; exact h55
  ·cases hf; exact h135
  ·cases hf; exact h138
  ·cases hf; exact h140
  ·cases hf) mix Tryd.func41 rfl (by decide) rfl rfl good108
theorem good178:D178.good Tryd.prog=true:=by kernel_rfl
theorem snd178  : SC 82 (mkCal D178 (D178.run Tryd.prog env cal178 H178)):=
 FnD.sound (fun f c hf=>by cases hf) mix Tryd.func82 rfl (by decide) rfl rfl good178
theorem good127:D127.good Tryd.prog=true:=by kernel_rfl
theorem snd127 (F178:Fun) (h178:SC 82 (mkCal D178 F178)):SC 75 (mkCal D127 (D127.run Tryd.prog env (cal127 F178) H127)):=
 FnD.sound (fun f c hf=>by
  unfold cal127 at hf
  split at hf
  ·cases hf; exact h178
  ·cases hf) mix Tryd.func75 rfl (by decide) rfl rfl good127
theorem good137:D137.good Tryd.prog=true:=by kernel_rfl
theorem snd137 (F127:Fun) (h127:SC 75 (mkCal D127 F127)):SC 63 (mkCal D137 (D137.run Tryd.prog env (cal137 F127) H137)):=
 FnD.sound (fun f c hf=>by
  unfold cal137 at hf
  split at hf
  ·cases hf; exact h127
  ·cases hf) mix Tryd.func63 rfl (by decide) rfl rfl good137
theorem good184:D184.good Tryd.prog=true:=by kernel_rfl
theorem snd184  : SC 81 (mkCal D184 (D184.run Tryd.prog env cal184 H184)):=
 FnD.sound (fun f c hf=>by cases hf) mix Tryd.func81 rfl (by decide) rfl rfl good184
theorem good139:D139.good Tryd.prog=true:=by kernel_rfl
theorem snd139 (F184:Fun) (h184:SC 81 (mkCal D184 F184)):SC 73 (mkCal D139 (D139.run Tryd.prog env (cal139 F184) H139)):=
 FnD.sound (fun f c hf=>by
  unfold cal139 at hf
  split at hf
  ·cases hf; exact h184
  ·cases hf) mix Tryd.func73 rfl (by decide) rfl rfl good139
theorem good95:D95.good Tryd.prog=true:=by kernel_rfl
theorem snd95 (F139:Fun) (h139:SC 73 (mkCal D139 F139)):SC 70 (mkCal D95 (D95.run Tryd.prog env (cal95 F139) H95)):=
 FnD.sound (fun f c hf=>by
  unfold cal95 at hf
  split at hf
  ·cases hf; exact h139
  ·cases hf) mix Tryd.func70 rfl (by decide) rfl rfl good95
theorem good96:D96.good Tryd.prog=true:=by kernel_rfl
theorem snd96  : SC 71 (mkCal D96 (D96.run Tryd.prog env cal96 H96)):=
 FnD.sound (fun f c hf=>by cases hf) mix Tryd.func71 rfl (by decide) rfl rfl good96
theorem good91:D91.good Tryd.prog=true:=by kernel_rfl
theorem snd91 (F95 F96 F135 F136 F137:Fun) (h135:SC 54 (mkCal D135 F135)) (h136:SC 61 (mkCal D136 F136)) (h137:SC 63 (mkCal D137 F137)) (h95:SC 70 (mkCal D95 F95)) (h96:SC 71 (mkCal D96 F96)):SC 57 (mkCal D91 (D91.run Tryd.prog env (cal91 F95 F96 F135 F136 F137) H91)):=
 FnD.sound (fun f c hf=>by
  unfold cal91 at hf
  split at hf
  ·cases hf; exact h135
  ·cases hf; exact h136
  ·cases hf; exact h137
  ·cases hf; exact h95
  ·cases hf; exact h96
  ·cases hf) mix Tryd.func57 rfl (by decide) rfl rfl good91
theorem good97:D97.good Tryd.prog=true:=by kernel_rfl
theorem snd97 (F139:Fun) (h139:SC 73 (mkCal D139 F139)):SC 72 (mkCal D97 (D97.run Tryd.prog env (cal97 F139) H97)):=
 FnD.sound (fun f c hf=>by
  unfold cal97 at hf
  split at hf
  ·cases hf; exact h139
  ·cases hf) mix Tryd.func72 rfl (by decide) rfl rfl good97
theorem good92:D92.good Tryd.prog=true:=by kernel_rfl
theorem snd92 (F97 F136 F137 F138 F139:Fun) (h138:SC 55 (mkCal D138 F138)) (h136:SC 61 (mkCal D136 F136)) (h137:SC 63 (mkCal D137 F137)) (h97:SC 72 (mkCal D97 F97)) (h139:SC 73 (mkCal D139 F139)):SC 58 (mkCal D92 (D92.run Tryd.prog env (cal92 F97 F136 F137 F138 F139) H92)):=
 FnD.sound (fun f c hf=>by
  unfold cal92 at hf
  split at hf
  ·cases hf; exact h138
  ·cases hf; exact h136
  ·cases hf; exact h137
  ·cases hf; exact h97
  ·cases hf; exact h139
  ·cases hf) mix Tryd.func58 rfl (by decide) rfl rfl good92
theorem good93:D93.good Tryd.prog=true:=by kernel_rfl
theorem snd93 (F97 F136 F137 F139 F140 F141:Fun) (h140:SC 56 (mkCal D140 F140)) (h136:SC 61 (mkCal D136 F136)) (h137:SC 63 (mkCal D137 F137)) (h141:SC 69 (mkCal D141 F141)) (h97:SC 72 (mkCal D97 F97)) (h139:SC 73 (mkCal D139 F139)):SC 59 (mkCal D93 (D93.run Tryd.prog env (cal93 F97 F136 F137 F139 F140 F141) H93)):=
 FnD.sound (fun f c hf=>by
  unfold cal93 at hf
  split at hf
  ·cases hf; exact h140
  ·cases hf; exact h136
  ·cases hf; exact h137
  ·cases hf; exact h141
  ·cases hf; exact h97
  ·cases hf; exact h139
  ·cases hf) mix Tryd.func59 rfl (by decide) rfl rfl good93
theorem good53:D53.good Tryd.prog=true:=by kernel_rfl
theorem snd53 (F55 F56 F91 F92 F93:Fun) (h55:SC 13 (mkCal D55 F55)) (h56:SC 38 (mkCal D56 F56)) (h91:SC 57 (mkCal D91 F91)) (h92:SC 58 (mkCal D92 F92)) (h93:SC 59 (mkCal D93 F93)):SC 42 (mkCal D53 (D53.run Tryd.prog env (cal53 F55 F56 F91 F92 F93) H53)):=
 FnD.sound (fun f c hf=>by
  unfold cal53 at hf
  split at hf
  ·cases hf; exact h55
  ·cases hf; exact h56
  ·cases hf; exact h91
  ·cases hf; exact h92
  ·cases hf; exact h93
  ·cases hf) mix Tryd.func42 rfl (by decide) rfl rfl good53
theorem good54:D54.good Tryd.prog=true:=by kernel_rfl
theorem snd54  : SC 43 (mkCal D54 (D54.run Tryd.prog env cal54 H54)):=
 FnD.sound (fun f c hf=>by cases hf) mix Tryd.func43 rfl (by decide) rfl rfl good54
theorem good158:D158.good Tryd.prog=true:=by kernel_rfl
theorem snd158  : SC 62 (mkCal D158 (D158.run Tryd.prog env cal158 H158)):=
 FnD.sound (fun f c hf=>by cases hf) mix Tryd.func62 rfl (by decide) rfl rfl good158
theorem good109:D109.good Tryd.prog=true:=by kernel_rfl
theorem snd109 (F136 F137 F155 F157 F158:Fun) (h155:SC 52 (mkCal D155 F155)) (h157:SC 60 (mkCal D157 F157)) (h136:SC 61 (mkCal D136 F136)) (h158:SC 62 (mkCal D158 F158)) (h137:SC 63 (mkCal D137 F137)):SC 44 (mkCal D109 (D109.run Tryd.prog env (cal109 F136 F137 F155 F157 F158) H109)):=
 FnD.sound (fun f c hf=>by
  unfold cal109 at hf
  split at hf
  ·cases hf; exact h155
  ·cases hf; exact h157
  ·cases hf; exact h136
  ·cases hf; exact h158
  ·cases hf; exact h137
  ·cases hf) mix Tryd.func44 rfl (by decide) rfl rfl good109
theorem good110:D110.good Tryd.prog=true:=by kernel_rfl
theorem snd110 (F159:Fun) (h159:SC 64 (mkCal D159 F159)):SC 45 (mkCal D110 (D110.run Tryd.prog env (cal110 F159) H110)):=
 FnD.sound (fun f c hf=>by
  unfold cal110 at hf
  split at hf
  ·cases hf; exact h159
  ·cases hf) mix Tryd.func45 rfl (by decide) rfl rfl good110
theorem good65:D65.good Tryd.prog=true:=by kernel_rfl
theorem snd65 (F53 F54 F106 F107 F108 F109 F110:Fun) (h106:SC 39 (mkCal D106 F106)) (h107:SC 40 (mkCal D107 F107)) (h108:SC 41 (mkCal D108 F108)) (h53:SC 42 (mkCal D53 F53)) (h54:SC 43 (mkCal D54 F54)) (h109:SC 44 (mkCal D109 F109)) (h110:SC 45 (mkCal D110 F110)):SC 27 (mkCal D65 (D65.run Tryd.prog env (cal65 F53 F54 F106 F107 F108 F109 F110) H65)):=
 FnD.sound (fun f c hf=>by
  unfold cal65 at hf
  split at hf
  ·cases hf; exact h106
  ·cases hf; exact h107
  ·cases hf; exact h108
  ·cases hf; exact h53
  ·cases hf; exact h54
  ·cases hf; exact h109
  ·cases hf; exact h110
  ·cases hf) mix Tryd.func27 rfl (by decide) rfl rfl good65
theorem good66:D66.good Tryd.prog=true:=by kernel_rfl
theorem snd66  : SC 28 (mkCal D66 (D66.run Tryd.prog env cal66 H66)):=
 FnD.sound (fun f c hf=>by cases hf) mix Tryd.func28 rfl (by decide) rfl rfl good66
theorem good68:D68.good Tryd.prog=true:=by kernel_rfl
theorem snd68  : SC 24 (mkCal D68 (D68.run Tryd.prog env cal68 H68)):=
 FnD.sound (fun f c hf=>by cases hf) mix Tryd.func24 rfl (by decide) rfl rfl good68
theorem good68v:D68v.good Tryd.prog=true:=by kernel_rfl
theorem snd68v  : SC 24 (mkCal D68v (D68v.run Tryd.prog env cal68 H68)):=
 FnD.sound (fun f c hf=>by cases hf) mix Tryd.func24 rfl (by decide) rfl rfl good68v
theorem good67:D67.good Tryd.prog=true:=by kernel_rfl
theorem snd67 (F63 F68 F111:Fun) (h68:SC 24 (mkCal D68 F68)) (h63:SC 25 (mkCal D63 F63)) (h111:SC 46 (rowCal F111 5 .u8 31)):SC 29 (mkCal D67 (D67.run Tryd.prog env (cal67 F63 F68 F111) H67)):=
 FnD.sound (fun f c hf=>by
  unfold cal67 at hf
  split at hf
  ·cases hf; exact h68
  ·cases hf; exact h63
  ·cases hf; exact h111
  ·cases hf) mix Tryd.func29 rfl (by decide) rfl rfl good67
theorem good32:D32.good Tryd.prog=true:=by kernel_rfl
theorem snd32 (F63 F64 F65 F66 F67:Fun) (h63:SC 25 (mkCal D63 F63)) (h64:SC 26 (mkCal D64 F64)) (h65:SC 27 (mkCal D65 F65)) (h66:SC 28 (mkCal D66 F66)) (h67:SC 29 (mkCal D67 F67)):SC 15 (mkCal D32 (D32.run Tryd.prog env (cal32 F63 F64 F65 F66 F67) H32)):=
 FnD.sound (fun f c hf=>by
  unfold cal32 at hf
  split at hf
  ·cases hf; exact h63
  ·cases hf; exact h64
  ·cases hf; exact h65
  ·cases hf; exact h66
  ·cases hf; exact h67
  ·cases hf) mix Tryd.func15 rfl (by decide) rfl rfl good32
theorem good22:D22.good Tryd.prog=true:=by kernel_rfl
theorem snd22 (F32:Fun) (h32:SC 15 (mkCal D32 F32)):SC 8 (mkCal D22 (D22.run Tryd.prog env (cal22 F32) H22)):=
 FnD.sound (fun f c hf=>by
  unfold cal22 at hf
  split at hf
  ·cases hf; exact h32
  ·cases hf) mix Tryd.func8 rfl (by decide) rfl rfl good22
theorem good911:D911.good Tryd.prog=true:=by kernel_rfl
theorem snd911 (F244:Fun) (h244:SC 21 (mkCal D244 F244)):SC 11 (mkCal D911 (D911.run Tryd.prog env (cal911 F244) H911)):=
 FnD.sound (fun f c hf=>by
  unfold cal911 at hf
  split at hf
  ·cases hf; exact h244
  ·cases hf) mix Tryd.func11 rfl (by decide) rfl rfl good911
theorem good922:D922.good Tryd.prog=true:=by kernel_rfl
theorem snd922  : SC 22 (mkCal D922 (D922.run Tryd.prog env cal922 H922)):=
 FnD.sound (fun f c hf=>by cases hf) mix Tryd.func22 rfl (by decide) rfl rfl good922
theorem good923:D923.good Tryd.prog=true:=by kernel_rfl
theorem snd923 (F68:Fun) (h68:SC 24 (mkCal D68 F68)):SC 23 (mkCal D923 (D923.run Tryd.prog env (cal923 F68) H923)):=
 FnD.sound (fun f c hf=>by
  unfold cal923 at hf
  split at hf
  ·cases hf; exact h68
  ·cases hf) mix Tryd.func23 rfl (by decide) rfl rfl good923
theorem good912:D912.good Tryd.prog=true:=by kernel_rfl
theorem snd912 (F68 F922 F923:Fun) (h922:SC 22 (mkCal D922 F922)) (h923:SC 23 (mkCal D923 F923)) (h68:SC 24 (mkCal D68v F68)):SC 12 (mkCal D912 (D912.run Tryd.prog env (cal912 F68 F922 F923) H912)):=
 FnD.sound (fun f c hf=>by
  unfold cal912 at hf
  split at hf
  ·cases hf; exact h922
  ·cases hf; exact h923
  ·cases hf; exact h68
  ·cases hf) mix Tryd.func12 rfl (by decide) rfl rfl good912
theorem good905:D905.good Tryd.prog=true:=by kernel_rfl
theorem snd905 (F22 F27 F911 F912:Fun) (h27:SC 7 (mkCal D27 F27)) (h22:SC 8 (mkCal D22 F22)) (h911:SC 11 (mkCal D911 F911)) (h912:SC 12 (mkCal D912 F912)):SC 5 (mkCal D905 (D905.run Tryd.prog env (cal905 F22 F27 F911 F912) H905)):=
 FnD.sound (fun f c hf=>by
  unfold cal905 at hf
  split at hf
  ·cases hf; exact h27
  ·cases hf; exact h22
  ·cases hf; exact h911
  ·cases hf; exact h912
  ·cases hf) mix Tryd.func5 rfl (by decide) rfl rfl good905
theorem good906:D906.good Tryd.prog=true:=by kernel_rfl
theorem snd906 (F904:Fun) (h904:SC 4 (mkCal D904 F904)):SC 6 (mkCal D906 (D906.run Tryd.prog env (cal906 F904) H906)):=
 FnD.sound (fun f c hf=>by
  unfold cal906 at hf
  split at hf
  ·cases hf; exact h904
  ·cases hf) mix Tryd.func6 rfl (by decide) rfl rfl good906
theorem good276:D276.good Tryd.prog=true:=by kernel_rfl
theorem snd276  : SC 16 (mkCal D276 (D276.run Tryd.prog env cal276 H276)):=
 FnD.sound (fun f c hf=>by cases hf) mix Tryd.func16 rfl (by decide) rfl rfl good276
theorem good909:D909.good Tryd.prog=true:=by kernel_rfl
theorem snd909 (F276:Fun) (h276:SC 16 (mkCal D276 F276)):SC 9 (mkCal D909 (D909.run Tryd.prog env (cal909 F276) H909)):=
 FnD.sound (fun f c hf=>by
  unfold cal909 at hf
  split at hf
  ·cases hf; exact h276
  ·cases hf) mix Tryd.func9 rfl (by decide) rfl rfl good909
theorem good903:D903.good Tryd.prog=true:=by kernel_rfl
theorem snd903 (F14 F22 F27 F904 F905 F906 F909:Fun) (h904:SC 4 (mkCal D904 F904)) (h905:SC 5 (mkCal D905 F905)) (h906:SC 6 (mkCal D906 F906)) (h27:SC 7 (mkCal D27 F27)) (h22:SC 8 (mkCal D22 F22)) (h909:SC 9 (mkCal D909 F909)) (h14:SC 10 (mkCal D14 F14)):SC 3 (mkCal D903 (D903.run Tryd.prog env (cal903 F14 F22 F27 F904 F905 F906 F909) H903)):=
 FnD.sound (fun f c hf=>by
  unfold cal903 at hf
  split at hf
  ·cases hf; exact h904
  ·cases hf; exact h905
  ·cases hf; exact h906
  ·cases hf; exact h27
  ·cases hf; exact h22
  ·cases hf; exact h909
  ·cases hf; exact h14
  ·cases hf) mix Tryd.func3 rfl (by decide) rfl rfl good903
end Go.Proofs.YtlmnjnhmhacgkaaDoor.Am
end
