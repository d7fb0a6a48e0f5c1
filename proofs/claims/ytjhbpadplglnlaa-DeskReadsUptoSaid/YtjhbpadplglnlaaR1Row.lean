/-
  weirlaw20.DeskReads answers true, and its argument reads behind the call as it did before, at every argument whose reading is of bulk at most 1048576 (the statement DeskReadsUptoSaid). No other condition.
-/
import Derived.Test.YtjhbpadplglnlaaR1LawD
import Derived.Test.YtjhbpadplglnlaaR1Clone
import Derived.WalkKit
import Derived.ProofKit
import Derived.OpenShut
import Derived.JoinedCond
import Derived.WideKeyArgs
import Derived.ChangeSame
import Derived.ChangeOld
set_option linter.unusedVariables false
namespace Go.Proofs.Ytjhbpadplglnlaa.DeskReads
open Go Go.Am Go.Proofs Go.Proofs.Ytjhbpadplglnlaa.Am
open Go.ChangeShapes Go.WideShapes Go.ChangeAt Go.RowKit

theorem own : ownKnob Try.prog.godebug = none := by kernel_rfl
theorem laid : laidOutB Try.prog = true := by kernel_rfl

section
variable {H : Type} {enc : TypeId × Value → H} {P : Program}

/-- Arguments, one and all, read behind the call as they did. -/
theorem trodAll_stays (hl : laidOutB P = true) {W W' : World} {sp' : Nat → Bool} : ∀ {ts : List TypeId} {vs : List Value} {ds : List (DataW H)} {ps : List MemPlace}, (∀ t ∈ ts, P.readableRec t = true ∧ t < P.types.size) →
    DataW.TrodAll enc P W 0 (fun _ => true) true ts vs ds ps → (∀ p ∈ ps, W.sameAt W' p) → (∀ p ∈ ps, sp' p.block = true) → DataW.TrodAll enc P W' 0 sp' true ts vs ds ps
  | [], [], [], ps, _, h, _, _ => h
  | t :: ts, v :: vs, d :: ds, ps, ht, h, h1, h2 => by
    obtain ⟨p, q, hp, hq, rfl⟩ := h
    exact ⟨p, q, WideElems.Trod_stays hl (ht t (by simp)).1 (ht t (by simp)).2 hp (fun x hx => h1 x (by simp [hx])) (fun x hx => h2 x (by simp [hx])),
      trodAll_stays hl (fun u hu => ht u (by simp [hu])) hq (fun x hx => h1 x (by simp [hx])) (fun x hx => h2 x (by simp [hx])), rfl⟩
  | [], [], _ :: _, _, _, h, _, _ => h.elim
  | [], _ :: _, _, _, _, h, _, _ => h.elim
  | _ :: _, [], _, _, _, h, _, _ => h.elim
  | _ :: _, _ :: _, [], _, _, h, _, _ => h.elim

/-- 'true; every argument reads as it did': what there is to show, where below the old heap nothing has turned. -/
theorem post_true (hl : laidOutB P = true) {f : Func} {s : ChangeSpec} {apart fresh handsOn again : Bool} {W W' : World} {args : Array Value} {ds : List (DataW H)} {before : List MemPlace} {tb : TypeId}
    (hts : ∀ t ∈ f.params.toList, P.readableRec t = true ∧ t < P.types.size) (hr : f.resultTypes = #[tb]) (htb : P.underlying tb = some .bool) (hvars : s.vars = [])
    (hW : DataW.Whole enc P f.params.toList s.vars apart W args.toList ds [] before) (hb : Below W.heap.size W W')
    (hres : (s.fn H (ds ++ [])).results = [.lit (.bool true)]) (hargs : (s.fn H (ds ++ [])).args = ds) (hv : (s.fn H (ds ++ [])).vars = []) : s.post enc P f apart fresh handsOn again W args (.bool true) W' := by
  have hlt := hW.lt
  obtain ⟨p, q, hA, hV, rfl, hfz, hnd⟩ := hW
  have hq : q = [] := by rw [hvars] at hV; exact hV
  subst hq
  have hW : DataW.Whole enc P f.params.toList s.vars apart W args.toList ds [] (p ++ []) := ⟨p, [], hA, hV, rfl, hfz, hnd⟩
  have hA' : ∀ sp' : Nat → Bool, (∀ x ∈ p, sp' x.block = true) → DataW.TrodAll enc P W' 0 sp' true f.params.toList args.toList ds p := fun sp' hs =>
    trodAll_stays hl hts hA (fun x hx => hb.same (hlt x (by simp [hx]))) hs
  have hold : ∀ x ∈ p, (fun b => decide (b < W.heap.size)) x.block = true := fun x hx => by simpa using hlt x (by simp [hx])
  have hR : ∀ (b : Nat) (sp : Nat → Bool) (hd : Bool), DataW.TrodAll enc P W' b sp hd f.resultTypes.toList ((Value.bool true).resultList f.resultTypes.size) [.lit (.bool true)] [] := fun b sp hd => by
    rw [hr]
    exact trodAll_cons_mk (shut_bool htb _) trodAll_mk0
  have hA2 : ∀ sp' : Nat → Bool, (∀ x ∈ p, sp' x.block = true) → DataW.TrodAll enc P W' 0 sp' true f.params.toList args.toList (s.fn H (ds ++ [])).args p := by rw [hargs]; exact hA'
  have hR2 : ∀ (b : Nat) (sp : Nat → Bool) (hd : Bool), DataW.TrodAll enc P W' b sp hd f.resultTypes.toList ((Value.bool true).resultList f.resultTypes.size) (s.fn H (ds ++ [])).results [] := by rw [hres]; exact hR
  have hV2 : ∀ sp : Nat → Bool, DataW.TrodVars enc P W' sp s.vars (s.fn H (ds ++ [])).vars [] := fun sp => by rw [hv, hvars]; exact rfl
  refine ⟨ds, [], p ++ [], [], p, [], hW, hR2 _ _ _, hA2 _ hold, hV2 _, hb.frame _, fun _ => ?_⟩
  refine ⟨ok_one hr rfl (okWide_bool_mk htb _), _, _, ([] ++ p) ++ [], ⟨[] ++ p, [], trodAll_append (hA2 _ (fun _ _ => rfl)) (hR2 _ _ _), hV2 _, rfl, ?_, ?_⟩, ?_⟩
  · intro b off hp
    have hp' : MemPlace.cell b off ∈ p := by simpa using hp
    have hbl : b < W.heap.size := hlt (.cell b off) (by simp [hp'])
    rw [hb.frozen (show (⟨b, off, none⟩ : Addr).block < W.heap.size from hbl)]
    exact hfz b off (by simp [hp'])
  · intro ha
    have := hnd ha
    simpa using this
  · intro x hx _
    simpa using hx
end

theorem contract (H : Type) (enc : TypeId × Value → H) (W : World) (base : Nat) (args : Array Value) (ds gs : List (DataW H)) (before : List MemPlace)
    (hval : ∀ (j : Nat) t v, Try.f3.params[j]? = some t → args[j]? = some v → Value.okWide Try.prog W .any base t v) (hk : Rows.uptoSmall H (ds ++ gs) = true)
    (hW : DataW.Whole enc Try.prog Try.f3.params.toList Rows.deskReadsSpec.vars false W args.toList ds gs before) :
    Calls Try.prog 3 args W fun e W' => ∃ v, e = .returned v ∧ Rows.deskReadsSpec.post enc Try.prog Try.f3 false true false false W args v W' := by
  have hW' := hW
  obtain ⟨p, q, hA0, hV, rfl, hfz, hnd⟩ := hW
  have hA : DataW.TrodAll enc Try.prog W 0 (fun _ => true) true Try.f3.params.toList args.toList ds p := hA0
  rw [Try.params3] at hA hval
  obtain ⟨v0, vs0, d0, ds0, p0, q0, hargs, rfl, rfl, h0, r0⟩ := trodAll_cons hA
  obtain ⟨rfl, rfl, rfl⟩ := trodAll_nil r0
  obtain rfl : args = #[v0] := by cases args; simp_all
  obtain ⟨rfl, rfl⟩ := trodVars_none hV
  obtain ⟨a0, len, cap, rfl⟩ := okWide_slice Try.underlying22 (hval 0 22 _ rfl rfl)
  obtain ⟨fuel, hf⟩ := h0
  have hc : Try.prog.cellsOf 5 = 1 := by kernel_rfl
  have key : ∃ bs : List Int, Bytes bs ∧ bs.length ≤ 1048576 ∧ CV W (ok0 W (fun _ => False)) (fun _ => none) (.fs .u8 bs) (.slice a0 len cap) := by
    rcases open_ints Try.underlying22 Try.underlying5 hc hf with ⟨hcs, hx⟩ | ⟨a, len', cap', zs, hcs, _, hle, hmax, hall, hx, hcell, hwf⟩
    · simp [Value.cells] at hcs
      obtain ⟨rfl, rfl, rfl⟩ := hcs
      exact ⟨[], by intro x hx; simp at hx, by simp, none, 0, rfl, Nat.le_refl _, fun h => absurd h (by simp)⟩
    · simp [Value.cells] at hcs
      obtain ⟨rfl, rfl, rfl⟩ := hcs
      simp only [if_true] at hall
      simp only [Prod.mk.injEq] at hx
      obtain ⟨rfl, _⟩ := hx
      have hlz : (zs.take len).length = len := by rw [List.length_take]; omega
      refine ⟨zs.take len, fun x hx => ?_, ?_, some a, cap, by rw [hlz], by omega, fun h => ⟨a, rfl, ⟨?_, fun h => h⟩, fun j u hj => ?_⟩⟩
      · have := hwf x (List.mem_of_mem_take hx)
        simpa [Lit.wf, IntKind.min, IntKind.max, IntKind.signed, IntKind.bits] using this
      · have bulk : ∀ l : List Int, Rows.uptoBulkAll (lits (H := H) .u8 l) = l.length := by
          intro l
          induction l with
          | nil => rfl
          | cons x l ih =>
            show Rows.uptoBulk (.lit (.int .u8 x)) + Rows.uptoBulkAll (lits (H := H) .u8 l) = _
            rw [ih]
            show 1 + l.length = l.length + 1
            omega
        have hk : Rows.uptoBulkAll (H := H) [.slice (lits .u8 (zs.take len)) (lits .u8 (zs.drop len))] ≤ 1048576 := by simpa [Rows.uptoSmall] using hk
        have hk : (Rows.uptoBulkAll (lits (H := H) .u8 (zs.take len)) + Rows.uptoBulkAll (lits (H := H) .u8 (zs.drop len)) + 1) + 0 ≤ 1048576 := hk
        rw [bulk] at hk
        omega
      · have h1 := hcell 0 (by omega)
        have : a.block < W.heap.size := by
          rcases Nat.lt_or_ge a.block W.heap.size with h2 | h2
          · exact h2
          · simp [World.cell?, Go.Am.block_add, Array.getElem?_eq_none h2] at h1
        exact this
      · simp only [ints, List.getElem?_map, Option.map_eq_some_iff] at hj
        obtain ⟨z, hz, rfl⟩ := hj
        have hjl : j < zs.length := by
          have := (List.getElem?_eq_some_iff.1 hz).1
          omega
        rw [hcell j hjl]
        rw [List.getElem?_take] at hz
        split at hz
        · simp [List.getD_eq_getElem?_getD, hz]
        · cases hz
  obtain ⟨bs, hb, hL, hcv⟩ := key
  have s6 := snd6 F15 snd15
  have hs := snd3 G6 G7 G8 G9 s6 snd7 snd8 snd9
  have hcall := hs.2 (bs.length + 1) [.fs .u8 bs] [.bool true] (law3 hb hL (Nat.lt_succ_self _)) W #[.slice a0 len cap] (fun _ => False) [.fs .u8 bs] (fun b h => h.elim) rfl ⟨_, _, rfl, hcv, rfl⟩ (fun g t h => by cases h)
  refine hcall.mono fun e W' h => ?_
  obtain ⟨v, rfl, hbel, hty, vs, hvs, hcvs, _⟩ := h
  have hv : v = .bool true := by
    rcases hvs with ⟨_, rfl⟩ | ⟨hne, _⟩
    · obtain ⟨u, rest, e1, hu, _⟩ := hcvs
      cases e1
      exact hu
    · exact (hne rfl).elim
  subst hv
  refine ⟨_, rfl, post_true laid (by rw [Try.params3]; decide +kernel) rfl Try.underlying4 rfl hW' hbel rfl rfl rfl⟩

set_option maxRecDepth 100000 in
theorem lifted (os : Os) (started : os.Started) (H : Type) (enc : TypeId × Value → H) (F : Stop.Interp) :
    ReturnsInHanded {} Try.checked os 3 .any ((Rows.OpenSpec.upto Rows.deskReadsSpec).pre6 enc Try.prog Try.f3 Rows.deskReadsUptoRow.domain false) (((Rows.OpenSpec.upto Rows.deskReadsSpec).at F).post enc Try.prog Try.f3 false true false false) := by
  refine returnsInHanded_of_cond (C := Try.checked) (s := Rows.OpenSpec.upto Rows.deskReadsSpec) (k := Rows.uptoSmall) rfl own started (by kernel_rfl) Try.func3
    (OpenSpec.witness (enc := enc) (C := Try.checked) (s := Rows.OpenSpec.upto Rows.deskReadsSpec) (k := Rows.uptoSmall) rfl false ⟨#[], #[.slice none 0 0], []⟩ 8 (by kernel_rfl) (by kernel_rfl) (by kernel_rfl)
      (x := ([.nil], [], [])) (by kernel_rfl) rfl (by kernel_rfl)) ?_
  intro W base args ds gs before hval hW _ hk _
  exact contract H enc W base args ds gs before hval hk hW

theorem over : Rows.deskReadsUptoRow.holds Try.pinned (Rows.OpenSpec.upto Rows.deskReadsSpec) :=
  OpenClaim.holds_of_cond 3 Try.f3 rfl rfl rfl rfl rfl rfl rfl ⟨rfl, rfl, rfl, rfl, rfl⟩ rfl rfl rfl rfl rfl (by kernel_rfl) Try.func3 (by kernel_rfl)
    (of_decide_eq_true (by kernel_rfl)) (by unfold Func.isWrapper; first | (rw [if_pos (by decide +kernel)]; kernel_rfl) | (rw [if_neg (by decide +kernel)]; exact ⟨rfl, rfl⟩))
    (fun os started H enc _ F => lifted os started H enc F)

theorem proved : Rows.DeskReadsUptoSaid :=
  over
#print axioms proved
end Go.Proofs.Ytjhbpadplglnlaa.DeskReads
