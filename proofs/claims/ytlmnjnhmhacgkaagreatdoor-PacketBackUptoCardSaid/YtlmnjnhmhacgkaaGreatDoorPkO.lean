/-
  weirlaw10.PacketBack answers true, and its argument reads behind the call as it did before, at every argument whose reading is of bulk at most 1048576 (the card PacketBackUptoCardSaid, tied: the listed variables hold what the program's text lays). No other condition.
-/
import Derived.Test.YtlmnjnhmhacgkaaGreatDoorPkK
import Derived.Test.YtlmnjnhmhacgkaaGreatDoorPkJ
import Derived.Test.YtlmnjnhmhacgkaaGreatDoorPkN
section
set_option linter.unusedVariables false
set_option maxRecDepth 100000
namespace Go.Proofs.YtlmnjnhmhacgkaaGreatDoor.Top
open Go Go.Am Go.Proofs Go.Proofs.YtlmnjnhmhacgkaaGreatDoor.Am
open Go.ChangeShapes Go.WideShapes Go.ChangeAt Go.RowKit
theorem VR {H:Type} {enc:TypeId × Value->H} {W:World} {base:Nat} {r:Reach} {w:World} {v0:Value} {d0:DataW H} {p0:List MemPlace} (hv0:Value.okWide Tryz.prog w r base 46 v0)
  (h0:DataW.Trod enc Tryz.prog W 0 (fun _=>true) true 46 v0 d0 p0) (hL:laidMetH Tryz.prog listed W) (hb0:Rows.uptoBulk d0<=2 ^ 20) :
  Calls Tryz.prog 5 #[v0] W fun e W'=>e=.returned (.bool true)/\Below W.heap.size W W':=by
 obtain ⟨_,w0,f0⟩:=Jl (ok:=fun b=>b<W.heap.size) (θ:=fun _=>none) lay (fun _ h=>h) Tryz.underlying46 VF VE rfl rfl hv0 h0;have hp:=Pkt.in_ (gg s46 d0 f0);have hs:=lL (N:=2 ^ 20) s46 d0 hb0;change Fit s46 (avD s46 d0) at f0;rw [<-hp] at f0 hs;have hsm:=Vv f0 hs;generalize Pkt.of (avD s46 d0)=p at hp hsm;refine iB T5 (n:=N0) (xs:=[p.av]) (b5 p hsm) rfl rfl rfl rfl rfl rfl rfl gd (fun ok hok=>?_) (Vj hL);obtain ⟨c0,_,_⟩:=Jl (ok:=ok) (θ:=fun _=>none) lay hok Tryz.underlying46 VF VE rfl rfl hv0 h0;have hp' : avD (.agg _) d0=p.av:=hp.symm;rw [hp'] at c0;exact ⟨v0,[],rfl,c0,rfl⟩
theorem ZU (os:Os) (started:os.Started) (H:Type) (enc:TypeId × Value->H) (F:Stop.Interp) :
  ReturnsInHanded {} Tryz.checked os 5 .any ((Rows.OpenSpec.upto Rows.packetBackSpec).preRow enc Tryz.prog Tryz.f5 Rows.packetBackUptoRow.domain false Rows.packetBackUptoRow.laid) (((Rows.OpenSpec.upto Rows.packetBackSpec).at F).post enc Tryz.prog Tryz.f5 false true false false):=by
 have hsome:(match DataW.whole enc Tryz.prog ((World.doorLaid Tryz.prog 400 os).forCall (fun _ _=>0) ⟨#[],#[rx],[]⟩).memory Tryz.f5.params.toList Rows.packetBackSpec.vars false #[rx].toList 9 with
   | some x=>Rows.uptoSmall H (x.1++x.2.1)
   | none=>false)=true:=by kernel_rfl
 obtain ⟨x,hx,hx2⟩ : ∃ x,DataW.whole enc Tryz.prog ((World.doorLaid Tryz.prog 400 os).forCall (fun _ _=>0) ⟨#[],#[rx],[]⟩).memory Tryz.f5.params.toList Rows.packetBackSpec.vars false #[rx].toList 9=some x/\Rows.uptoSmall H (x.1++x.2.1)=true:=by
  split at hsome
  ·rename_i x hx; exact ⟨x,hx,hsome⟩
  ·cases hsome
 refine returnsInHanded_of_row (C:=Tryz.checked) (s:=Rows.OpenSpec.upto Rows.packetBackSpec) own started (by kernel_rfl) Tryz.func5
  (witness_row_atRef (enc:=enc) (C:=Tryz.checked) false (World.doorLaid Tryz.prog 400 os) #[rx] rfl (by kernel_rfl) (by kernel_rfl) (by kernel_rfl)
   (OpenSpec.preRow_of_cond 9 hx (by kernel_rfl) (fun k hk=>by cases hk; exact hx2) (by kernel_rfl) (QC os _))) ?_
 intro W base args ds gs before hval0 hW _ hcond _ hL _ _;have hval:∀ (j:Nat) t v,Tryz.f5.params[j]? = some t->args[j]? = some v->Value.okWide Tryz.prog W .any base t v:=hval0;have hL:laidMetH Tryz.prog listed W:=hL;have hW':=hW;obtain ⟨p,q,hA0,hV,rfl,hfz,hnd⟩:=hW;have hA:DataW.TrodAll enc Tryz.prog W 0 (fun _=>true) true Tryz.f5.params.toList args.toList ds p:=hA0;rw [Tryz.params5] at hA hval;obtain ⟨v0,vs0,d0,ds0,p0,q0,hargs,rfl,rfl,h0,r0⟩:=trodAll_cons hA;obtain ⟨rfl,rfl,rfl⟩:=trodAll_nil r0;obtain rfl:args = #[v0]:=by cases args; simp_all
 obtain ⟨rfl,rfl⟩:=trodVars_none hV;have hk:=Wm (hcond _ rfl)
 have hk0:Rows.uptoBulk d0<=2 ^ 20:=by
  have:Rows.uptoBulk d0<=Rows.uptoBulkAll ([d0]++[]):=lp (by simp);omega
 refine (VR (hval 0 46 _ rfl rfl) h0 hL hk0).mono fun e W' h=>?_
 obtain ⟨rfl,hb⟩:=h;exact ⟨_,rfl,ox (s:=Rows.packetBackSpec) lay (by rw [Tryz.params5]; decide +kernel) rfl Tryz.underlying4 rfl hW' hb rfl rfl rfl⟩
theorem VT:Rows.PacketBackUptoSaid:=
 fT 5 Tryz.f5 rfl rfl rfl rfl rfl rfl rfl ⟨rfl,rfl,rfl,rfl,rfl⟩ rfl rfl rfl rfl rfl (by kernel_rfl) Tryz.func5 packetBack_facts
  (of_decide_eq_true (by kernel_rfl)) (by unfold Func.isWrapper; first | (rw [if_pos (by decide +kernel)]; kernel_rfl) | (rw [if_neg (by decide +kernel)]; exact ⟨rfl,rfl⟩))
  (fun os started H enc _ F=>by rw [OpenClaim.pre_eq_preRow]; exact ml (ZU os started H enc F))
theorem packetBack:Rows.PacketBackUptoCardSaid:=
 iS .later [.data, .data, .data, .data, .data] true (true, "de1881f335d967bb94e2e97f87fb5b88821b989b9c4e96864de1193f0998bff6") false
  VT (by kernel_rfl) packetBackUpto_row_tie rfl ⟨rfl,rfl⟩ (by kernel_rfl) rfl
  (fun f fn hf hfn=>by
   obtain rfl : f = 5 := Option.some.inj ((show Tryz.prog.funcNamed "weir/weirlaw10.PacketBack" = some 5 by kernel_rfl).symm.trans hf) |>.symm;obtain rfl:fn=Tryz.f5:=(Option.some.inj (Tryz.func5.symm.trans hfn)).symm
   exact ⟨by kernel_rfl,fun j t ht=>by
    rw [Tryz.params5] at ht;have hm:t∈[46]:=by simpa using Array.mem_of_getElem? ht
    have hall:([46].all fun u=>!Tryz.prog.wantsStandIn u)=true:=by kernel_rfl
    exact (show Tryz.prog.wantsStandIn t=false by simpa using List.all_eq_true.1 hall t hm)⟩)
  (by kernel_rfl)
#print axioms packetBack
end Go.Proofs.YtlmnjnhmhacgkaaGreatDoor.Top
end
