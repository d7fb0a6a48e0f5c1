/-
  A described function is sound where its callees are.
-/
import Derived.Test.YtlmnjnhmhacgkaaGreatDoorPkA
import Derived.KernelRfl
import Derived.Test.YtlmnjnhmhacgkaaGreatDoorAmG
import Derived.WideLaws
section
set_option linter.unusedVariables false
namespace Go.Proofs.YtlmnjnhmhacgkaaGreatDoor.Am
open Go Go.Am Go.Proofs
theorem mix:Tryz.prog.follows .mixedOrders=true:=by rfl
theorem Wn:Tryz.prog.underlying 20=some (.interface (Tryz.prog.methodsAt 20)):=by kernel_rfl
theorem mH {q:Oper} {e:Nat} (h:q.op=.binOp .neq 20 (.tmp e) (.const .nilIface) 20) (a:Act) (w:World) (t:TypeId) (u:Value) (he:a.eval (.tmp e)=.iface t u):(execOp a.eval q).run Tryz.prog w=.ok (.value (.bool true)) w:=by
 have hc:a.eval (.const .nilIface)=.nilIface:=rfl;have hg:(eqGuard .neq 20 (.tmp e) (.const .nilIface) (.iface t u) .nilIface).run Tryz.prog w=.ok () w:=by simp [eqGuard]
 simp only [execOp,h,he,hc,Sem.run_bind,hg,Result.andThen_ok,run_neq_held_nil w 20 t u Wn,Sem.run_pure]
theorem mn {q:Oper} {e:Nat} (h:q.op=.binOp .neq 20 (.tmp e) (.const .nilIface) 20) (a:Act) (w:World) (he:a.eval (.tmp e)=.nilIface):(execOp a.eval q).run Tryz.prog w=.ok (.value (.bool false)) w:=by
 have hc:a.eval (.const .nilIface)=.nilIface:=rfl;have hg:(eqGuard .neq 20 (.tmp e) (.const .nilIface) .nilIface .nilIface).run Tryz.prog w=.ok () w:=by simp [eqGuard]
 simp only [execOp,h,he,hc,Sem.run_bind,hg,Result.andThen_ok,run_neq_nil_nil w 20 Wn,Sem.run_pure]
theorem Zv {C:Ctx} {p q:Pn} (hp:xp C p) (h1:(p.tops.all fun d=>zS q.tops d)=true) (h2:(p.fams.all fun d=>zS q.fams d)=true):xp C q:=by
 intro d v hd;have:=hp d v hd
 cases d with
 | top e=>exact kJ (List.all_eq_true.1 h1 e this)
 | mem f i=>exact kJ (List.all_eq_true.1 h2 f this)
abbrev SC (i:FuncId) (c:Cal):Prop:=qU Tryz.prog env i c
abbrev K (i:FuncId) (d:FnD) (F:Fun):Prop:=SC i (qj d F)
theorem vg {p:FuncId × Cal} {l} (h:SC p.1 p.2) (t:∀ f c,cl l f=some c->SC f c) (f c) (hf:cl (p::l) f=some c):SC f c:=by
 unfold cl at hf
 split at hf
 ·rename_i e;rw [Nat.eq_of_beq_eq_true e]
  cases hf
  exact h
 ·exact t f c hf
theorem wq:∀ f c,cl [] f=some c->SC f c:=fun _ _ h=>by cases h
theorem vM {i0:FuncId} {c0:Cal} (h0:SC i0 c0):∀ f c,cl [(i0,c0)] f=some c->SC f c:=vg h0 (fun _ _ h=>by cases h)
theorem yz {i0 i1:FuncId} {c0 c1:Cal} (h0:SC i0 c0) (h1:SC i1 c1):∀ f c,cl [(i0,c0),(i1,c1)] f=some c->SC f c:=vg h0 (vg h1 (fun _ _ h=>by cases h))
theorem aQ {i0 i1 i2:FuncId} {c0 c1 c2:Cal} (h0:SC i0 c0) (h1:SC i1 c1) (h2:SC i2 c2):∀ f c,cl [(i0,c0),(i1,c1),(i2,c2)] f=some c->SC f c:=vg h0 (vg h1 (vg h2 (fun _ _ h=>by cases h)))
theorem lc {i0 i1 i2 i3:FuncId} {c0 c1 c2 c3:Cal} (h0:SC i0 c0) (h1:SC i1 c1) (h2:SC i2 c2) (h3:SC i3 c3):∀ f c,cl [(i0,c0),(i1,c1),(i2,c2),(i3,c3)] f=some c->SC f c:=vg h0 (vg h1 (vg h2 (vg h3 (fun _ _ h=>by cases h))))
theorem fA {i0 i1 i2 i3 i4:FuncId} {c0 c1 c2 c3 c4:Cal} (h0:SC i0 c0) (h1:SC i1 c1) (h2:SC i2 c2) (h3:SC i3 c3) (h4:SC i4 c4):∀ f c,cl [(i0,c0),(i1,c1),(i2,c2),(i3,c3),(i4,c4)] f=some c->SC f c:=vg h0 (vg h1 (vg h2 (vg h3 (vg h4 (fun _ _ h=>by cases h)))))
theorem Qp {i0 i1 i2 i3 i4 i5:FuncId} {c0 c1 c2 c3 c4 c5:Cal} (h0:SC i0 c0) (h1:SC i1 c1) (h2:SC i2 c2) (h3:SC i3 c3) (h4:SC i4 c4) (h5:SC i5 c5):∀ f c,cl [(i0,c0),(i1,c1),(i2,c2),(i3,c3),(i4,c4),(i5,c5)] f=some c->SC f c:=vg h0 (vg h1 (vg h2 (vg h3 (vg h4 (vg h5 (fun _ _ h=>by cases h))))))
theorem Ze {i0 i1 i2 i3 i4 i5 i6:FuncId} {c0 c1 c2 c3 c4 c5 c6:Cal} (h0:SC i0 c0) (h1:SC i1 c1) (h2:SC i2 c2) (h3:SC i3 c3) (h4:SC i4 c4) (h5:SC i5 c5) (h6:SC i6 c6):∀ f c,cl [(i0,c0),(i1,c1),(i2,c2),(i3,c3),(i4,c4),(i5,c5),(i6,c6)] f=some c->SC f c:=vg h0 (vg h1 (vg h2 (vg h3 (vg h4 (vg h5 (vg h6 (fun _ _ h=>by cases h)))))))
theorem Jb {i0 i1 i2 i3 i4 i5 i6 i7:FuncId} {c0 c1 c2 c3 c4 c5 c6 c7:Cal} (h0:SC i0 c0) (h1:SC i1 c1) (h2:SC i2 c2) (h3:SC i3 c3) (h4:SC i4 c4) (h5:SC i5 c5) (h6:SC i6 c6) (h7:SC i7 c7):∀ f c,cl [(i0,c0),(i1,c1),(i2,c2),(i3,c3),(i4,c4),(i5,c5),(i6,c6),(i7,c7)] f=some c->SC f c:=vg h0 (vg h1 (vg h2 (vg h3 (vg h4 (vg h5 (vg h6 (vg h7 (fun _ _ h=>by cases h))))))))
theorem sq {cal:CT} (hc:∀ f c,cal f=some c->SC f c) {H:zi} {f:FuncId} {fn:Func} {D:FnD} (hf:Tryz.prog.funcs[f]?=some fn) (h1:fn.body=some D.body:=by exact rfl) (h2:fn.name≠"runtime.NumGoroutine":=by decide) (h3:fn.ntmps=D.m:=by exact rfl)
 (h4:fn.results=(D.rs.map fun p=>p.2.rv p.1).toArray:=by exact rfl) (h5:D.good Tryz.prog=true:=by kernel_rfl) (h6:∀ id,H.over id=none:=by intro id; rfl) (h7:∀ id,H.pan id=none:=by intro id; rfl):K f D (D.R cal H):=FnD.sound hc mix hf h1 h2 h3 h4 h5 h6 h7
end Go.Proofs.YtlmnjnhmhacgkaaGreatDoor.Am
end
section
set_option linter.unusedVariables false
set_option maxRecDepth 100000
namespace Go.Proofs.YtlmnjnhmhacgkaaGreatDoor.Am
open Go Go.Am Go.Proofs
theorem oZ  (C:Ctx) (hC:C.E=env):PanH C Tryz.prog H125 D125.body:=by
 intro id ops hreg i β hβ S θ a w hB hr Q hQ;unfold H125 at hβ;dsimp only at hβ
 split at hβ
 ·cases hβ; exact tR (t:=234) (v:=.tmp 23) (by kernel_rfl) (by kernel_rfl) (by kernel_rfl) (p1:=by kernel_rfl) (by kernel_rfl) (by kernel_rfl) (by kernel_rfl) ⟨.struct #[],by kernel_rfl,by intro k h; cases h⟩ hreg S θ a w hB hr Q hQ
 ·cases hβ
theorem oD  (C:Ctx) (hC:C.E=env):PanH C Tryz.prog H126 D126.body:=by
 intro id ops hreg i β hβ S θ a w hB hr Q hQ;unfold H126 at hβ;dsimp only at hβ
 split at hβ
 ·cases hβ; exact tR (t:=234) (v:=.tmp 13) (by kernel_rfl) (by kernel_rfl) (by kernel_rfl) (p1:=by kernel_rfl) (by kernel_rfl) (by kernel_rfl) (by kernel_rfl) ⟨.struct #[],by kernel_rfl,by intro k h; cases h⟩ hreg S θ a w hB hr Q hQ
 ·cases hβ
theorem VM (th:wX Tryz.prog env 125 [.fs .u8,.int .i64,.int .i64] B125) (Jt:wX Tryz.prog env 126 [.fs .u8,.int .i64] B126) (C:Ctx) (hC:C.E=env):PanH C Tryz.prog H83 D83.body:=by
 intro id ops hreg i β hβ S θ a w hB hr Q hQ;unfold H83 at hβ;dsimp only at hβ
 split at hβ
 ·cases hβ; exact gK hC th (xs:=#[.tmp 24,.tmp 25,.tmp 26]) (ats:=#[31,3,3]) (by kernel_rfl) (by kernel_rfl) (by kernel_rfl) (by kernel_rfl) hreg S θ a w hB hr Q hQ
 ·cases hβ; exact gK hC Jt (xs:=#[.tmp 39,.tmp 41]) (ats:=#[31,3]) (by kernel_rfl) (by kernel_rfl) (by kernel_rfl) (by kernel_rfl) hreg S θ a w hB hr Q hQ
 ·cases hβ
theorem oJ (Jt:wX Tryz.prog env 126 [.fs .u8,.int .i64] B126) (C:Ctx) (hC:C.E=env):PanH C Tryz.prog H122 D122.body:=by
 intro id ops hreg i β hβ S θ a w hB hr Q hQ;unfold H122 at hβ;dsimp only at hβ
 split at hβ
 ·cases hβ; exact tR (t:=234) (v:=.tmp 17) (by kernel_rfl) (by kernel_rfl) (by kernel_rfl) (p1:=by kernel_rfl) (by kernel_rfl) (by kernel_rfl) (by kernel_rfl) ⟨.struct #[],by kernel_rfl,by intro k h; cases h⟩ hreg S θ a w hB hr Q hQ
 ·cases hβ; exact gK hC Jt (xs:=#[.tmp 25,.tmp 28]) (ats:=#[31,3]) (by kernel_rfl) (by kernel_rfl) (by kernel_rfl) (by kernel_rfl) hreg S θ a w hB hr Q hQ
 ·cases hβ
theorem VC (QY:wX Tryz.prog env 122 [.fs .u8,.int .i64,.int .i64] B122) (C:Ctx) (hC:C.E=env):PanH C Tryz.prog H80 D80.body:=by
 intro id ops hreg i β hβ S θ a w hB hr Q hQ;unfold H80 at hβ;dsimp only at hβ
 split at hβ
 ·cases hβ; exact gK hC QY (xs:=#[.tmp 12,.tmp 13,.tmp 14]) (ats:=#[31,3,3]) (by kernel_rfl) (by kernel_rfl) (by kernel_rfl) (by kernel_rfl) hreg S θ a w hB hr Q hQ
 ·cases hβ
theorem WF (th:wX Tryz.prog env 125 [.fs .u8,.int .i64,.int .i64] B125) (C:Ctx) (hC:C.E=env):PanH C Tryz.prog H128 D128.body:=by
 intro id ops hreg i β hβ S θ a w hB hr Q hQ;unfold H128 at hβ;dsimp only at hβ
 split at hβ
 ·cases hβ; exact gK hC th (xs:=#[.tmp 11,.tmp 12,.tmp 13]) (ats:=#[31,3,3]) (by kernel_rfl) (by kernel_rfl) (by kernel_rfl) (by kernel_rfl) hreg S θ a w hB hr Q hQ
 ·cases hβ
theorem QJ  (C:Ctx) (hC:C.E=env):PanH C Tryz.prog H215 D215.body:=by
 intro id ops hreg i β hβ S θ a w hB hr Q hQ;unfold H215 at hβ;dsimp only at hβ
 split at hβ
 ·cases hβ; exact tR (t:=291) (v:=.tmp 26) (by kernel_rfl) (by kernel_rfl) (by kernel_rfl) (p1:=by kernel_rfl) (by kernel_rfl) (by kernel_rfl) (by kernel_rfl) ⟨.struct #[],by kernel_rfl,by intro k h; cases h⟩ hreg S θ a w hB hr Q hQ
 ·cases hβ
theorem Vt (QM:wX Tryz.prog env 215 [.fs .u8,.int .i64] B215) (C:Ctx) (hC:C.E=env):PanH C Tryz.prog H182 D182.body:=by
 intro id ops hreg i β hβ S θ a w hB hr Q hQ;unfold H182 at hβ;dsimp only at hβ
 split at hβ
 ·cases hβ; exact gK hC QM (xs:=#[.tmp 28,.tmp 29]) (ats:=#[31,3]) (by kernel_rfl) (by kernel_rfl) (by kernel_rfl) (by kernel_rfl) hreg S θ a w hB hr Q hQ
 ·cases hβ
end Go.Proofs.YtlmnjnhmhacgkaaGreatDoor.Am
end
