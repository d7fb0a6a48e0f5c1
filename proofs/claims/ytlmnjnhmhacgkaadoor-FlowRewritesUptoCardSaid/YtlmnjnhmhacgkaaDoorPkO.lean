/-
  weirlaw17.FlowRewrites answers true, and its arguments read behind the call as they did before, at all arguments whose reading is of bulk at most 1048576 (the card FlowRewritesUptoCardSaid, tied: the listed variables hold what the program's text lays). No other condition.
-/
import Derived.Test.YtlmnjnhmhacgkaaDoorPkK
import Derived.Test.YtlmnjnhmhacgkaaDoorPkN
section
set_option linter.unusedVariables false
set_option maxRecDepth 100000
namespace Go.Proofs.YtlmnjnhmhacgkaaDoor.Top
open Go Go.Am Go.Proofs Go.Proofs.YtlmnjnhmhacgkaaDoor.Am
open Go.ChangeShapes Go.WideShapes Go.ChangeAt Go.RowKit
theorem call3 {H:Type} {enc:TypeId × Value→H} {W:World} {base:Nat} {r:Reach} {w:World} {v0 v1:Value} {d0 d1:DataW H} {p0 p1:List MemPlace} (hv0:Value.okWide Tryd.prog w r base 46 v0) (hv1:Value.okWide Tryd.prog w r base 48 v1)
  (h0:DataW.Trod enc Tryd.prog W 0 (fun _=>true) true 46 v0 d0 p0) (h1:DataW.Trod enc Tryd.prog W 0 (fun _=>true) true 48 v1 d1 p1) (hL:laidMetH Tryd.prog listed W) (hb0:Rows.uptoBulk d0≤2 ^ 20) :
  Calls Tryd.prog 3 #[v0,v1] W fun e W'=>e=.returned (.bool true)∧Below W.heap.size W W':=by
 obtain ⟨_,w0,f0⟩:=arg_struct (ok:=fun b=>b<W.heap.size) (θ:=fun _=>none) lay (fun _ h=>h) Tryd.underlying46 sh46 lt46 rfl rfl hv0 h0
 obtain ⟨_,w1,f1⟩:=arg_struct (ok:=fun b=>b<W.heap.size) (θ:=fun _=>none) lay (fun _ h=>h) Tryd.underlying48 sh66 lt66 rfl rfl hv1 h1
 have hp:=Pkt.in_ (deep_of_fit s46 d0 f0)
 have ht:=Tup.in_ (deep_of_fit s66 d1 f1)
 have hs:=sml_of (N:=2 ^ 20) s46 d0 hb0
 change Fit s46 (avD s46 d0) at f0
 change Fit s66 (avD s66 d1) at f1
 rw [←hp] at f0 hs
 rw [←ht] at f1
 have hsm:=pkt_sm f0 hs
 obtain ⟨_,g1,g2,_⟩:=f1
 have o1:=ip_fit g1
 have o2:=ip_fit g2
 generalize Pkt.of (avD s46 d0)=p at hp hsm
 generalize Tup.of (avD s66 d1)=t at ht o1 o2
 refine call_true S903 (n:=N0) (xs:=[p.av,t.av]) (b903 p t hsm o1 o2) rfl rfl rfl rfl rfl rfl rfl gd (fun ok hok=>?_) (globOK hL)
 obtain ⟨c0,_,_⟩:=arg_struct (ok:=ok) (θ:=fun _=>none) lay hok Tryd.underlying46 sh46 lt46 rfl rfl hv0 h0
 obtain ⟨c1,_,_⟩:=arg_struct (ok:=ok) (θ:=fun _=>none) lay hok Tryd.underlying48 sh66 lt66 rfl rfl hv1 h1
 have hp' : avD (.agg _) d0=p.av:=hp.symm
 have ht' : avD (.agg _) d1=t.av:=ht.symm
 rw [hp'] at c0
 rw [ht'] at c1
 exact ⟨v0,[v1],rfl,c0,v1,[],rfl,c1,rfl⟩
theorem lifted3 (os:Os) (started:os.Started) (H:Type) (enc:TypeId × Value→H) (F:Stop.Interp) :
  ReturnsInHanded {} Tryd.checked os 3 .any ((Rows.OpenSpec.upto Rows.flowRewritesSpec).preRow enc Tryd.prog Tryd.f3 Rows.flowRewritesUptoRow.domain false Rows.flowRewritesUptoRow.laid) (((Rows.OpenSpec.upto Rows.flowRewritesSpec).at F).post enc Tryd.prog Tryd.f3 false true false false):=by
 have hsome:(match DataW.whole enc Tryd.prog ((World.doorLaid Tryd.prog 400 os).forCall (fun _ _=>0) ⟨#[],#[zpkt_,ztup_],[]⟩).memory Tryd.f3.params.toList Rows.flowRewritesSpec.vars false #[zpkt_,ztup_].toList 9 with
   | some x=>Rows.uptoSmall H (x.1++x.2.1)
   | none=>false)=true:=by kernel_rfl
 obtain ⟨x,hx,hx2⟩ : ∃ x,DataW.whole enc Tryd.prog ((World.doorLaid Tryd.prog 400 os).forCall (fun _ _=>0) ⟨#[],#[zpkt_,ztup_],[]⟩).memory Tryd.f3.params.toList Rows.flowRewritesSpec.vars false #[zpkt_,ztup_].toList 9=some x∧Rows.uptoSmall H (x.1++x.2.1)=true:=by
  split at hsome
  ·rename_i x hx; exact ⟨x,hx,hsome⟩
  ·cases hsome
 refine returnsInHanded_of_row (C:=Tryd.checked) (s:=Rows.OpenSpec.upto Rows.flowRewritesSpec) own started (by kernel_rfl) Tryd.func3
  (witness_row_atRef (enc:=enc) (C:=Tryd.checked) false (World.doorLaid Tryd.prog 400 os) #[zpkt_,ztup_] rfl (by kernel_rfl) (by kernel_rfl) (by kernel_rfl)
   (OpenSpec.preRow_of_cond 9 hx (by kernel_rfl) (fun k hk=>by cases hk; exact hx2) (by kernel_rfl) (door_met os _))) ?_
 intro W base args ds gs before hval0 hW _ hcond _ hL _ _
 have hval:∀ (j:Nat) t v,Tryd.f3.params[j]? = some t→args[j]? = some v→Value.okWide Tryd.prog W .any base t v:=hval0
 have hL:laidMetH Tryd.prog listed W:=hL
 have hW':=hW
 obtain ⟨p,q,hA0,hV,rfl,hfz,hnd⟩:=hW
 have hA:DataW.TrodAll enc Tryd.prog W 0 (fun _=>true) true Tryd.f3.params.toList args.toList ds p:=hA0
 rw [Tryd.params3] at hA hval
 obtain ⟨v0,vs0,d0,ds0,p0,q0,hargs,rfl,rfl,h0,r0⟩:=trodAll_cons hA
 obtain ⟨v1,vs1,d1,ds1,p1,q1,hargs1,rfl,rfl,h1,r1⟩:=trodAll_cons r0
 obtain ⟨rfl,rfl,rfl⟩:=trodAll_nil r1
 subst hargs1
 obtain rfl:args = #[v0,v1]:=by cases args; simp_all
 obtain ⟨rfl,rfl⟩:=trodVars_none hV
 have hk:=bulk_of (hcond _ rfl)
 have hk0:Rows.uptoBulk d0≤2 ^ 20:=by
  have:Rows.uptoBulk d0≤Rows.uptoBulkAll ([d0,d1]++[]):=bulk_mem (by simp)
  omega
 refine (call3 (hval 0 46 _ rfl rfl) (hval 1 48 _ rfl rfl) h0 h1 hL hk0).mono fun e W' h=>?_
 obtain ⟨rfl,hb⟩:=h
 exact ⟨_,rfl,post_true (s:=Rows.flowRewritesSpec) lay (by rw [Tryd.params3]; decide +kernel) rfl Tryd.underlying4 rfl hW' hb rfl rfl rfl⟩
theorem said3:Rows.FlowRewritesUptoSaid:=
 OpenClaim.holds_of_cond 3 Tryd.f3 rfl rfl rfl rfl rfl rfl rfl ⟨rfl,rfl,rfl,rfl,rfl⟩ rfl rfl rfl rfl rfl (by kernel_rfl) Tryd.func3 flowRewrites_facts
  (of_decide_eq_true (by kernel_rfl)) (by unfold Func.isWrapper; first | (rw [if_pos (by decide +kernel)]; kernel_rfl) | (rw [if_neg (by decide +kernel)]; exact ⟨rfl,rfl⟩))
  (fun os started H enc _ F=>by rw [OpenClaim.pre_eq_preRow]; exact lifted3 os started H enc F)
theorem flowRewrites:Rows.FlowRewritesUptoCardSaid:=
 Claim7.holds_tied_plain_at .later [] [.data, .data, .data, .data, .data] true (true, "7f416b0587518540f830efacdb783e77ab61dd917f3f1a9f160475640bb1a964") false
  said3 (fun _ h=>by cases h) (by kernel_rfl) (fun _ h=>by cases h) flowRewritesUpto_row_tie rfl ⟨rfl,rfl⟩ (by kernel_rfl) rfl
  (fun f fn hf hfn=>by
   obtain rfl : f = 3 := Option.some.inj ((show Tryd.prog.funcNamed "weir/weirlaw17.FlowRewrites" = some 3 by kernel_rfl).symm.trans hf) |>.symm
   obtain rfl:fn=Tryd.f3:=(Option.some.inj (Tryd.func3.symm.trans hfn)).symm
   exact ⟨by kernel_rfl,fun j t ht=>by
    rw [Tryd.params3] at ht
    have hm:t∈[46,48]:=by simpa using Array.mem_of_getElem? ht
    have hall:([46,48].all fun u=>!Tryd.prog.wantsStandIn u)=true:=by kernel_rfl
    exact (show Tryd.prog.wantsStandIn t=false by simpa using List.all_eq_true.1 hall t hm)⟩)
  (by kernel_rfl)
#print axioms flowRewrites
end Go.Proofs.YtlmnjnhmhacgkaaDoor.Top
end
