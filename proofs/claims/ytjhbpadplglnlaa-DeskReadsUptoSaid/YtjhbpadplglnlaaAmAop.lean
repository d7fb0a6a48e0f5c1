/-
  AM: every operation is sound; regions.
-/
import Derived.Test.YtjhbpadplglnlaaAmCal
set_option linter.unusedVariables false
set_option linter.unusedSimpArgs false
namespace Go.Am
open Go.RowKit

section
variable {C : Ctx} {S S' : St} {θ θ' : Nat → Option Value} {a : Act} {w w' : World} {n : Nat} {ok : Nat → Prop} {P : Program} {o : Oper}

theorem Does.wp (h : Does P C S' o a w) (K : Act → World → Prop) (Q : Exit → Act → World → Prop) (hK : ∀ a' w' θ', Rel C S' θ' a' w' → a'.defers = a.defers → K a' w') : o.wp P a w K Q := by
  obtain ⟨nx, w', hr, h⟩ := h
  unfold Oper.wp
  rw [hr]
  rcases h with ⟨v, rfl, θ', hrel⟩ | ⟨rfl, θ', hrel⟩
  · exact hK _ _ θ' hrel (put_defers _ _ _)
  · exact hK _ _ θ' hrel (put_defers _ _ _)

theorem aopCall_ok {cal : FuncId → Option Cal} (hcal : ∀ f c, cal f = some c → SoundCal P C.G f c) {c : Call} (ho : o.op = .call c) (h : Rel C S θ a w) (hh : (aopCall P C.G cal o c).exe n S = some S') (K : Act → World → Prop) (Q : Exit → Act → World → Prop)
    (hK : ∀ a' w' θ', Rel C S' θ' a' w' → a'.defers = a.defers → K a' w') : o.wp P a w K Q := by
  obtain ⟨cl, args, ats⟩ := c
  unfold aopCall at hh
  dsimp only at hh
  split at hh
  · split at hh
    · rename_i x t e1 e2
      have e3 : args = #[x] := by rw [← Array.toList_inj, e1]
      have e4 : ats = #[t] := by rw [← Array.toList_inj, e2]
      subst e3 e4
      obtain ⟨u, hu, hk⟩ := ev_ok h hh
      exact (opLen_ok ho h hu hk).wp K Q hK
    · exact (exe_fail hh).elim
  · split at hh
    · rename_i s x ts tx e1 e2
      have e3 : args = #[s, x] := by rw [← Array.toList_inj, e1]
      have e4 : ats = #[ts, tx] := by rw [← Array.toList_inj, e2]
      subst e3 e4
      obtain ⟨u, hu, h1⟩ := ev_ok h hh
      obtain ⟨uy, hy, h2⟩ := ev_ok h h1
      exact (opAppend_ok ho h hu hy h2).wp K Q hK
    · exact (exe_fail hh).elim
  · obtain ⟨us, hu, hk⟩ := evL_ok h hh
    exact opCall_ok hcal ho h hu hk K Q hK
  · exact (exe_fail hh).elim

theorem aop_ok {cal : FuncId → Option Cal} (hcal : ∀ f c, cal f = some c → SoundCal P C.G f c) (h : Rel C S θ a w) (hh : (aop P C.G cal o).exe n S = some S') (K : Act → World → Prop) (Q : Exit → Act → World → Prop)
    (hK : ∀ a' w' θ', Rel C S' θ' a' w' → a'.defers = a.defers → K a' w') : o.wp P a w K Q := by
  unfold aop at hh
  split at hh
  · rename_i x ho
    obtain ⟨u, hu, hk⟩ := ev_ok h hh
    exact Does.wp (Does.value (v := a.eval x) (by simp only [execOp, ho, Sem.run_pure]) (put_ok' hk h hu)) K Q hK
  · rename_i x ho
    obtain ⟨u, hu, hk⟩ := ev_ok h hh
    exact Does.wp (Does.value (v := a.eval x) (by simp only [execOp, ho, Sem.run_pure]) (put_ok' hk h hu)) K Q hK
  · rename_i c x y ho
    obtain ⟨uc, hc, h1⟩ := ev_ok h hh
    obtain ⟨ux, hx, h2⟩ := ev_ok h h1
    obtain ⟨uy, hy, h3⟩ := ev_ok h h2
    exact (opPick_ok ho h hc hx hy h3).wp K Q hK
  · rename_i e x ho
    obtain ⟨u, hu, hk⟩ := ev_ok h hh
    exact (opBox_ok ho h hu hk).wp K Q hK
  · rename_i e ho
    exact (opAlloc_ok ho h hh).wp K Q hK
  · rename_i t x ho
    obtain ⟨u, hu, hk⟩ := ev_ok h hh
    obtain ⟨r, v, hr, hrun, hk2⟩ := ld_ok h hu hk
    exact Does.wp (Does.value (v := v) (by simp only [execOp, ho, Sem.run_bind, hrun, Result.andThen_ok, Sem.run_pure]) (put_ok' hk2 h hr)) K Q hK
  · rename_i t x y ho
    split at hh
    · rename_i hd
      obtain ⟨u, hu, h1⟩ := ev_ok h hh
      obtain ⟨uv, hv, h2⟩ := ev_ok h h1
      obtain ⟨w', hrun, hrel⟩ := st_ok h hu hv h2
      refine Does.wp ⟨.skip, w', by simp only [execOp, ho, Sem.run_bind, hrun, Result.andThen_ok, Sem.run_pure], .inr ⟨rfl, θ, ?_⟩⟩ K Q hK
      rw [hd]
      exact hrel
    · exact (exe_fail hh).elim
  · rename_i s x f ho
    obtain ⟨u, hu, hk⟩ := ev_ok h hh
    exact (opFieldAddr_ok ho h hu hk).wp K Q hK
  · rename_i s x f ho
    obtain ⟨u, hu, hk⟩ := ev_ok h hh
    exact (opField_ok ho h hu hk).wp K Q hK
  · rename_i t x y ho
    obtain ⟨u, hu, h1⟩ := ev_ok h hh
    obtain ⟨uy, hy, h2⟩ := ev_ok h h1
    exact (opIndexAddr_ok ho h hu hy h2).wp K Q hK
  · rename_i t x y ho
    obtain ⟨u, hu, h1⟩ := ev_ok h hh
    obtain ⟨uy, hy, h2⟩ := ev_ok h h1
    exact (opIndex_ok ho h hu hy h2).wp K Q hK
  · rename_i x i ho
    obtain ⟨u, hu, hk⟩ := ev_ok h hh
    exact (opExtract_ok ho h hu hk).wp K Q hK
  · rename_i t parts ho
    obtain ⟨us, hu, hk⟩ := evL_ok h hh
    exact (opBuild_ok ho h hu hk).wp K Q hK
  · rename_i t len parts ho
    obtain ⟨us, hu, hk⟩ := evL_ok h hh
    exact (opBuildSlice_ok ho h hu hk).wp K Q hK
  · rename_i t x lo hi mx ho
    obtain ⟨u, hu, h1⟩ := ev_ok h hh
    obtain ⟨ul, hl, h2⟩ := evO_ok h h1
    obtain ⟨uh, hhi, h3⟩ := evO_ok h h2
    obtain ⟨um, hm, h4⟩ := evO_ok h h3
    exact (opSlice_ok ho h hu hl hhi hm h4).wp K Q hK
  · rename_i s d x ho
    obtain ⟨u, hu, hk⟩ := ev_ok h hh
    exact (opConvert_ok ho h hu hk).wp K Q hK
  · rename_i uo t x ho
    obtain ⟨u, hu, hk⟩ := ev_ok h hh
    exact (opUn_ok ho h hu hk).wp K Q hK
  · rename_i op t x y ty ho
    obtain ⟨u, hu, h1⟩ := ev_ok h hh
    obtain ⟨uy, hy, h2⟩ := ev_ok h h1
    exact (opBin_ok ho h hu hy h2).wp K Q hK
  · rename_i t l c ho
    obtain ⟨u, hu, h1⟩ := ev_ok h hh
    obtain ⟨uy, hy, h2⟩ := ev_ok h h1
    exact (opMake_ok ho h hu hy h2).wp K Q hK
  · rename_i c ho
    exact aopCall_ok hcal ho h hh K Q hK
  · exact (exe_fail hh).elim
end
end Go.Am
