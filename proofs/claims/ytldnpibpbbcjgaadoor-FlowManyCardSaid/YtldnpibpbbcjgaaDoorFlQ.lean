/-
  What the rows of the laws share: the listed variables, arguments that read as before.
  What the rows of the laws share that take a configuration and a script: the arguments.
-/
import Derived.Test.YtldnpibpbbcjgaaDoorFlH
import Derived.Test.YtldnpibpbbcjgaaDoorAmF
import Derived.Test.YtldnpibpbbcjgaaDoorTie
import Derived.Test.YtldnpibpbbcjgaaDoorCards
import Derived.WalkKit
import Derived.ProofKit
import Derived.LaidMore
import Derived.OpenShut
import Derived.Stop.Joined
import Derived.ChangeSame
import Derived.ChangeOld
import Derived.Test.YtldnpibpbbcjgaaDoorFlM
section
set_option linter.unusedVariables false
set_option maxRecDepth 100000
namespace Go.Proofs.YtldnpibpbbcjgaaDoor.Top
open Go Go.Am Go.Proofs Go.Proofs.YtldnpibpbbcjgaaDoor.Am
open Go.ChangeShapes Go.WideShapes Go.ChangeAt Go.RowKit

theorem own : ownKnob Tryd.prog.godebug = none := by kernel_rfl
theorem lay : laidOutB Tryd.prog = true := by kernel_rfl

section
variable {H : Type} {enc : TypeId × Value → H} {P : Program}

/-- Arguments, one and all, read behind the call as they did. -/
theorem trodAll_stays (hl : laidOutB P = true) {W W' : World} {sp' : Nat → Bool} : ∀ {ts : List TypeId} {vs : List Value} {ds : List (DataW H)} {ps : List MemPlace}, (∀ t ∈ ts, P.readableRec t = true ∧ t < P.types.size) →
    DataW.TrodAll enc P W 0 (fun _ => true) true ts vs ds ps → (∀ p ∈ ps, W.sameAt W' p) → (∀ p ∈ ps, sp' p.block = true) → DataW.TrodAll enc P W' 0 sp' true ts vs ds ps
  | [], [], [], ps, _, h, _, _ => h
  | t :: ts, v :: vs, d :: ds, ps, ht, h, h1, h2 => by
    obtain ⟨p, q, hp, hq, rfl⟩ := h
    exact ⟨p, q, WideElems.Trod_stays hl (ht t (by simp)).1 (ht t (by simp)).2 hp (fun x hx => h1 x (by simp [hx])) (fun x hx => h2 x (by simp [hx])),
      trodAll_stays hl (fun u hu => ht u (by simp [hu])) hq (fun x hx => h1 x (by simp [hx])) (fun x hx => h2 x (by simp [hx])), rfl⟩
  | [], [], _ :: _, _, _, h, _, _ => h.elim
  | [], _ :: _, _, _, _, h, _, _ => h.elim
  | _ :: _, [], _, _, _, h, _, _ => h.elim
  | _ :: _, _ :: _, [], _, _, h, _, _ => h.elim

/-- 'true; every argument reads as it did': what there is to show, where below the old heap nothing has turned. -/
theorem post_true (hl : laidOutB P = true) {f : Func} {s : ChangeSpec} {apart fresh handsOn again : Bool} {W W' : World} {args : Array Value} {ds : List (DataW H)} {before : List MemPlace} {tb : TypeId}
    (hts : ∀ t ∈ f.params.toList, P.readableRec t = true ∧ t < P.types.size) (hr : f.resultTypes = #[tb]) (htb : P.underlying tb = some .bool) (hvars : s.vars = [])
    (hW : DataW.Whole enc P f.params.toList s.vars apart W args.toList ds [] before) (hb : Below W.heap.size W W')
    (hres : (s.fn H (ds ++ [])).results = [.lit (.bool true)]) (hargs : (s.fn H (ds ++ [])).args = ds) (hv : (s.fn H (ds ++ [])).vars = []) : s.post enc P f apart fresh handsOn again W args (.bool true) W' := by
  have hlt := hW.lt
  obtain ⟨p, q, hA, hV, rfl, hfz, hnd⟩ := hW
  have hq : q = [] := by rw [hvars] at hV; exact hV
  subst hq
  have hW : DataW.Whole enc P f.params.toList s.vars apart W args.toList ds [] (p ++ []) := ⟨p, [], hA, hV, rfl, hfz, hnd⟩
  have hA' : ∀ sp' : Nat → Bool, (∀ x ∈ p, sp' x.block = true) → DataW.TrodAll enc P W' 0 sp' true f.params.toList args.toList ds p := fun sp' hs =>
    trodAll_stays hl hts hA (fun x hx => hb.same (hlt x (by simp [hx]))) hs
  have hold : ∀ x ∈ p, (fun b => decide (b < W.heap.size)) x.block = true := fun x hx => by simpa using hlt x (by simp [hx])
  have hR : ∀ (b : Nat) (sp : Nat → Bool) (hd : Bool), DataW.TrodAll enc P W' b sp hd f.resultTypes.toList ((Value.bool true).resultList f.resultTypes.size) [.lit (.bool true)] [] := fun b sp hd => by
    rw [hr]
    exact trodAll_cons_mk (shut_bool htb _) trodAll_mk0
  have hA2 : ∀ sp' : Nat → Bool, (∀ x ∈ p, sp' x.block = true) → DataW.TrodAll enc P W' 0 sp' true f.params.toList args.toList (s.fn H (ds ++ [])).args p := by rw [hargs]; exact hA'
  have hR2 : ∀ (b : Nat) (sp : Nat → Bool) (hd : Bool), DataW.TrodAll enc P W' b sp hd f.resultTypes.toList ((Value.bool true).resultList f.resultTypes.size) (s.fn H (ds ++ [])).results [] := by rw [hres]; exact hR
  have hV2 : ∀ sp : Nat → Bool, DataW.TrodVars enc P W' sp s.vars (s.fn H (ds ++ [])).vars [] := fun sp => by rw [hv, hvars]; exact rfl
  refine ⟨ds, [], p ++ [], [], p, [], hW, hR2 _ _ _, hA2 _ hold, hV2 _, hb.frame _, fun _ => ?_⟩
  refine ⟨ok_one hr rfl (okWide_bool_mk htb _), _, _, ([] ++ p) ++ [], ⟨[] ++ p, [], trodAll_append (hA2 _ (fun _ _ => rfl)) (hR2 _ _ _), hV2 _, rfl, ?_, ?_⟩, ?_⟩
  · intro b off hp
    have hp' : MemPlace.cell b off ∈ p := by simpa using hp
    have hbl : b < W.heap.size := hlt (.cell b off) (by simp [hp'])
    rw [hb.frozen (show (⟨b, off, none⟩ : Addr).block < W.heap.size from hbl)]
    exact hfz b off (by simp [hp'])
  · intro ha
    have := hnd ha
    simpa using this
  · intro x hx _
    simpa using hx
end

/-! The listed variables. -/
def sL : Sh := .agg (List.replicate 8 (.arr .i64 6))
abbrev listed : List (String × DataW Unit) := [("weir/addr.nets", Rows.laid_weir_addr_nets), ("weir/flow.out", Rows.laid_weir_flow_out), ("weir/flow.in", Rows.laid_weir_flow_in)]
theorem gOut : Tryd.prog.globalNamed "weir/flow.out" = some 0 := by kernel_rfl
theorem gIn : Tryd.prog.globalNamed "weir/flow.in" = some 1 := by kernel_rfl
theorem gNets : Tryd.prog.globalNamed "weir/addr.nets" = some 2 := by kernel_rfl
theorem avOut : avD sL (Rows.laid_weir_flow_out (H := Unit)) = .agg outL := by kernel_rfl
theorem avIn : avD sL (Rows.laid_weir_flow_in (H := Unit)) = .agg inL := by kernel_rfl
theorem avNets : avD (.agg (List.replicate 12 s112)) (Rows.laid_weir_addr_nets (H := Unit)) = .agg netsL := by kernel_rfl
theorem tOut : (Tryd.prog.globals[0]?).map (·.type) = some 72 := by kernel_rfl
theorem tIn : (Tryd.prog.globals[1]?).map (·.type) = some 72 := by kernel_rfl
theorem tNets : (Tryd.prog.globals[2]?).map (·.type) = some 113 := by kernel_rfl
theorem sh72 : shT Tryd.prog env 9 72 = some sL := by kernel_rfl
theorem sh113 : shT Tryd.prog env 9 113 = some (.agg (List.replicate 12 s112)) := by kernel_rfl
theorem sh26 : shT Tryd.prog env 9 26 = some s26 := by kernel_rfl
theorem sh27 : shT Tryd.prog env 9 27 = some (.fv s36) := by kernel_rfl
theorem lt72 : 72 < Tryd.prog.types.size := by decide +kernel
theorem lt113 : 113 < Tryd.prog.types.size := by decide +kernel
theorem lt26 : 26 < Tryd.prog.types.size := by decide +kernel
theorem lt27 : 27 < Tryd.prog.types.size := by decide +kernel

theorem globOK {W : World} (h : laidMetH Tryd.prog listed W) (ok : Nat → Prop) (hok : ∀ b, b < W.heap.size → ok b) : GlobOK W ok env.glob := by
  rw [MakeChecks.laidMetH_plain _ _ _ (by kernel_rfl)] at h
  obtain ⟨ps, ⟨g2, t2, cs2, f2, p2, q2, hg2, ht2, hv2, hd2, ⟨g0, t0, cs0, f0, p0, q0, hg0, ht0, hv0, hd0, ⟨g1, t1, cs1, f1, p1, q1, hg1, ht1, hv1, hd1, _, _⟩, _⟩, _⟩, _, _⟩ := h
  obtain rfl := Option.some.inj (gNets.symm.trans hg2)
  obtain rfl := Option.some.inj (gOut.symm.trans hg0)
  obtain rfl := Option.some.inj (gIn.symm.trans hg1)
  obtain rfl := Option.some.inj (tNets.symm.trans ht2)
  obtain rfl := Option.some.inj (tOut.symm.trans ht0)
  obtain rfl := Option.some.inj (tIn.symm.trans ht1)
  intro g t hg
  have hg : glob g = some t := hg
  unfold glob at hg
  split at hg
  · cases hg; exact glob_read lay hok sh72 lt72 rfl rfl hg0 hv0 hd0 avOut
  · cases hg; exact glob_read lay hok sh72 lt72 rfl rfl hg1 hv1 hd1 avIn
  · cases hg; exact glob_read lay hok sh113 lt113 rfl rfl hg2 hv2 hd2 avNets
  · cases hg

theorem gd : ∀ g t, env.glob g = some t → ∃ s, WT s t ∧ inF [] s = true := by
  intro g t hg
  have hg : glob g = some t := hg
  unfold glob at hg
  split at hg
  · cases hg; rw [← avOut]; exact ⟨sL, by rw [show avD sL (Rows.laid_weir_flow_out (H := Unit)) = eta sL (avD sL (Rows.laid_weir_flow_out (H := Unit))) by kernel_rfl]; exact eta_WT _ _, rfl⟩
  · cases hg; rw [← avIn]; exact ⟨sL, by rw [show avD sL (Rows.laid_weir_flow_in (H := Unit)) = eta sL (avD sL (Rows.laid_weir_flow_in (H := Unit))) by kernel_rfl]; exact eta_WT _ _, rfl⟩
  · cases hg; rw [← avNets]; exact ⟨.agg (List.replicate 12 s112), by rw [show avD (.agg (List.replicate 12 s112)) (Rows.laid_weir_addr_nets (H := Unit)) = eta (.agg (List.replicate 12 s112)) (avD (.agg (List.replicate 12 s112)) (Rows.laid_weir_addr_nets (H := Unit))) by kernel_rfl]; exact eta_WT _ _, rfl⟩
  · cases hg

theorem cfg_in {x : AV} (h : Fit s26 x) (hw : WT s26 x) : ∃ c : Cfg, x = c.av ∧ IPIn c.out := by
  have e := eta_of_WT s26 x hw
  rw [Cfg.eta] at e
  refine ⟨Cfg.of x, e.symm, ?_⟩
  rw [← e] at h
  generalize Cfg.of x = c at h
  obtain ⟨_, h1, _⟩ := h
  obtain ⟨_, h2, _⟩ := h1
  obtain ⟨h3, h4⟩ := h2
  refine ⟨h3, fun i => ?_⟩
  unfold getI
  rw [List.getD_eq_getElem?_getD]
  cases hi : c.out.a[i]? with
  | none => exact ⟨by simp, by simp⟩
  | some b =>
    have := h4 b (List.mem_of_getElem? hi)
    simp [inK, Lit.wf, IntKind.min, IntKind.max, IntKind.signed, IntKind.bits] at this
    exact ⟨by simpa using this.1, by have := this.2; simp; omega⟩
theorem steps_in {xs : List AV} (h : ∀ x ∈ xs, WT s36 x) : ∃ l : List Stp, xs = l.map Stp.av := by
  refine ⟨xs.map Stp.of, ?_⟩
  rw [List.map_map]
  symm
  refine (List.map_congr_left (fun x hx => ?_)).trans (List.map_id _)
  have e := eta_of_WT s36 x (h x hx)
  rw [Stp.eta] at e
  exact e

theorem door_met (os : Os) (args : Array Value) : laidMetH Tryd.prog listed ((World.doorLaid Tryd.prog 400 os).forCall (fun _ _ => 0) ⟨#[], args, []⟩).memory :=
  laidMetH_of_parts3 (fuel := 8) (laidMet_of_run' 8 (by kernel_rfl) (by kernel_rfl)) (by kernel_rfl) (by kernel_rfl)

def zip_ : Array Value := #[.int .i64 0, .int .u8 0, .int .u8 0, .int .u8 0, .int .u8 0, .int .u8 0, .int .u8 0, .int .u8 0, .int .u8 0, .int .u8 0, .int .u8 0, .int .u8 0, .int .u8 0, .int .u8 0, .int .u8 0, .int .u8 0, .int .u8 0]
def zcfg_ : Value := .agg (#[.int .i64 0] ++ zip_ ++ #[.int .i64 0, .int .i64 0, .int .i64 0, .int .i64 0, .int .i64 0, .int .i64 0, .int .i64 0])
end Go.Proofs.YtldnpibpbbcjgaaDoor.Top
end

section
set_option linter.unusedVariables false
set_option maxRecDepth 100000
namespace Go.Proofs.YtldnpibpbbcjgaaDoor.Top
open Go Go.Am Go.Proofs Go.Proofs.YtldnpibpbbcjgaaDoor.Am
open Go.ChangeShapes Go.WideShapes Go.ChangeAt Go.RowKit

theorem stp_fit {p : Stp} (h : Fit s36 p.av) : TupIn p.x := by
  obtain ⟨_, _, h1, _⟩ := h
  obtain ⟨_, ⟨_, h2, _⟩, ⟨_, h3, _⟩, _⟩ := h1
  exact ⟨h2.1, h3.1⟩

theorem two_args {H : Type} {enc : TypeId × Value → H} {W : World} {base : Nat} {r : Reach} {w : World} {v0 v1 : Value} {d0 d1 : DataW H} {p0 p1 : List MemPlace} (hv0 : Value.okWide Tryd.prog w r base 26 v0) (hv1 : Value.okWide Tryd.prog w r base 27 v1)
    (h0 : DataW.Trod enc Tryd.prog W 0 (fun _ => true) true 26 v0 d0 p0) (h1 : DataW.Trod enc Tryd.prog W 0 (fun _ => true) true 27 v1 d1 p1) :
    ∃ (c : Cfg) (l : List Stp), IPIn c.out ∧ (∀ p ∈ l, TupIn p.x) ∧ ∀ ok : Nat → Prop, (∀ b, b < W.heap.size → ok b) → CVt W ok (fun _ => none) [c.av, .fv s36 (l.map Stp.av)] [v0, v1] := by
  obtain ⟨_, w0, f0⟩ := arg_struct (ok := fun b => b < W.heap.size) (θ := fun _ => none) lay (fun _ h => h) Tryd.underlying26 sh26 lt26 rfl rfl hv0 h0
  obtain ⟨_, w1, f1⟩ := arg_rows (ok := fun b => b < W.heap.size) (θ := fun _ => none) lay (fun _ h => h) Tryd.underlying27 sh27 lt27 rfl rfl hv1 h1
  obtain ⟨c, hc, hi⟩ := cfg_in f0 w0
  obtain ⟨xs, hxs⟩ : ∃ xs, avD (.fv s36) d1 = .fv s36 xs := by
    unfold avD
    split
    · exact ⟨_, rfl⟩
    · exact ⟨_, rfl⟩
  rw [hxs] at w1 f1
  obtain ⟨l, rfl⟩ := steps_in w1
  refine ⟨c, l, hi, fun p hp => stp_fit (f1 p.av (List.mem_map.2 ⟨p, hp, rfl⟩)), fun ok hok => ?_⟩
  obtain ⟨c0, _, _⟩ := arg_struct (ok := ok) (θ := fun _ => none) lay hok Tryd.underlying26 sh26 lt26 rfl rfl hv0 h0
  obtain ⟨c1, _, _⟩ := arg_rows (ok := ok) (θ := fun _ => none) lay hok Tryd.underlying27 sh27 lt27 rfl rfl hv1 h1
  rw [hc] at c0
  rw [hxs] at c1
  exact ⟨v0, [v1], rfl, c0, v1, [], rfl, c1, rfl⟩
end Go.Proofs.YtldnpibpbbcjgaaDoor.Top
end
