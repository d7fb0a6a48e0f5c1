/-
  The closed run that every law asks first.
-/
import Derived.Test.YtlmnjnhmhacgkaaGreatDoorPkE
import Derived.KernelRfl
section
set_option linter.unusedVariables false
set_option linter.unusedSimpArgs false
set_option maxRecDepth 100000
namespace Go.Proofs.YtlmnjnhmhacgkaaGreatDoor.Am
open Go Go.Am Go.Proofs

/-- Rounds enough for all. -/
def N0 : Nat := 18446744073709551616
def wb : List Int := [2, 0, 0, 0, 0, 2, 2, 0, 0, 0, 0, 1, 8, 0, 69, 0, 0, 28, 0, 0, 0, 0, 64, 1, 102, 223, 10, 0, 0, 1, 10, 0, 0, 2, 8, 0, 247, 253, 0, 1, 0, 1, 0, 0, 0, 0, 0, 0, 0, 0, 0, 0, 0, 0, 0, 0, 0, 0, 0, 0]
/-- The datagram, with what pads the frame; its message. -/
def ib : List Int := [69, 0, 0, 28, 0, 0, 0, 0, 64, 1, 102, 223, 10, 0, 0, 1, 10, 0, 0, 2, 8, 0, 247, 253, 0, 1, 0, 1, 0, 0, 0, 0, 0, 0, 0, 0, 0, 0, 0, 0, 0, 0, 0, 0, 0, 0]
def mb : List Int := [8, 0, 247, 253, 0, 1, 0, 1]
def ipA : Ip := ⟨4, [10, 0, 0, 1, 0, 0, 0, 0, 0, 0, 0, 0, 0, 0, 0, 0]⟩
def ipB : Ip := ⟨4, [10, 0, 0, 2, 0, 0, 0, 0, 0, 0, 0, 0, 0, 0, 0, 0]⟩
def plainI : Ip4 := { Ip4.z with ttl := 64, proto := 1, src := ipA, dst := ipB }
def plainM : Icmp := ⟨4, 8, 0, 65537, []⟩
def plain : Pkt := { Pkt.z with dst := [2, 0, 0, 0, 0, 2], src := [2, 0, 0, 0, 0, 1], kind := 2, ip4 := plainI, l4 := 1, icmp := plainM }
def plainF : Frm := ⟨[2, 0, 0, 0, 0, 2], [2, 0, 0, 0, 0, 1], [], 2048, ib⟩

theorem w30 : A30 N0 [] = some [plain.av] := by kernel_rfl
theorem w44 : A44 N0 [] = some [.fs .u8 wb] := by kernel_rfl
theorem w45 : A45 N0 [] = some [.bool true] := by kernel_rfl
theorem w49 : A49 N0 [.fs .u8 wb] = some [plainF.av, .int .i64 0] := by kernel_rfl
theorem w123a : A123 N0 [.fs .i64 (wI [4, 4, 8, 16, 16, 1, 1, 1, 13, 8, 8, 16])] = some [.int .i64 ((12 : Nat) : Int), .int .i64 0] := by kernel_rfl
theorem w123b : A123 N0 [.fs .i64 (wI [8, 8, 16, 32])] = some [.int .i64 ((8 : Nat) : Int), .int .i64 0] := by kernel_rfl
theorem w83a : A83 N0 [.fs .u8 ib, .int .i64 0, .fs .i64 [4, 4, 8, 16, 16, 1, 1, 1, 13, 8, 8, 16]] = some [.fs .i64 [4, 5, 0, 28, 0, 0, 0, 0, 0, 64, 1, 26335], .int .i64 12, .int .i64 0] :=
  (a83 N0 ib 0 [4, 4, 8, 16, 16, 1, 1, 1, 13, 8, 8, 16] (by unfold WOk; decide) 12 rfl (by decide) (by decide) (by decide) (by decide) (by decide) (by decide) (by decide) w123a).trans (by kernel_rfl)
theorem w83b : A83 N0 [.fs .u8 mb, .int .i64 0, .fs .i64 [8, 8, 16, 32]] = some [.fs .i64 [8, 0, 63485, 65537], .int .i64 8, .int .i64 0] :=
  (a83 N0 mb 0 [8, 8, 16, 32] (by unfold WOk; decide) 8 rfl (by decide) (by decide) (by decide) (by decide) (by decide) (by decide) (by decide) w123b).trans (by kernel_rfl)

theorem mono_ok {P : Program} {E : Env} {f : FuncId} {D : FnD} {F G : Fun} (h : SoundCal P E f (mkCal D F)) (hG : ∀ n xs r, G n xs = some r → F n xs = some r) : SoundCal P E f (mkCal D G) := by
  obtain ⟨h1, h2, h3⟩ := h
  exact ⟨h1, h2, fun n xs r hF => h3 n xs r (hG n xs r hF)⟩

def beqA : AV → AV → Bool
  | .int k a, .int k' b => decide (k = k') && decide (a = b)
  | .fs k a, .fs k' b => decide (k = k') && decide (a = b)
  | _, _ => false
def beqL : List AV → List AV → Bool
  | [], [] => true
  | a :: l, b :: m => beqA a b && beqL l m
  | _, _ => false
theorem beqA_eq {a b : AV} (h : beqA a b = true) : a = b := by
  unfold beqA at h
  split at h
  · rw [Bool.and_eq_true] at h; rw [of_decide_eq_true h.1, of_decide_eq_true h.2]
  · rw [Bool.and_eq_true] at h; rw [of_decide_eq_true h.1, of_decide_eq_true h.2]
  · cases h
theorem beqL_eq : ∀ {l m : List AV}, beqL l m = true → l = m
  | [], [], _ => rfl
  | a :: l, b :: m, h => by
    have h : (beqA a b && beqL l m) = true := h
    rw [Bool.and_eq_true] at h
    rw [beqA_eq h.1, beqL_eq h.2]
/-- A function at two arguments. -/
def at2 (n0 : Nat) (l1 r1 l2 r2 : List AV) : Fun := fun n xs => bif Nat.beq n n0 && beqL xs l1 then some r1 else bif Nat.beq n n0 && beqL xs l2 then some r2 else none
theorem at2_ok {F : Fun} {n0 : Nat} {l1 r1 l2 r2 : List AV} (h1 : F n0 l1 = some r1) (h2 : F n0 l2 = some r2) {n : Nat} {xs r : List AV} (h : at2 n0 l1 r1 l2 r2 n xs = some r) : F n xs = some r := by
  unfold at2 at h
  cases hb : (Nat.beq n n0 && beqL xs l1) with
  | true =>
    rw [hb] at h
    rw [Bool.and_eq_true] at hb
    rw [Nat.eq_of_beq_eq_true hb.1, beqL_eq hb.2]
    cases h
    exact h1
  | false =>
    rw [hb] at h
    cases hc : (Nat.beq n n0 && beqL xs l2) with
    | true =>
      rw [hc] at h
      rw [Bool.and_eq_true] at hc
      rw [Nat.eq_of_beq_eq_true hc.1, beqL_eq hc.2]
      cases h
      exact h2
    | false =>
      rw [hc] at h
      cases h
theorem w136a : A136 N0 [.fs .i64 [4, 4, 8, 16, 16, 1, 1, 1, 13, 8, 8, 16], .fs .i64 [4, 5, 0, 28, 0, 0, 0, 0, 0, 64, 1, 0]] = some [.fs .u8 [69, 0, 0, 28, 0, 0, 0, 0, 64, 1, 0, 0], .int .i64 0] :=
  (a136 N0 [(4, 4), (4, 5), (8, 0), (16, 28), (16, 0), (1, 0), (1, 0), (1, 0), (13, 0), (8, 64), (8, 1), (16, 0)] (by decide) 12 rfl (by decide) (by decide) (by decide) (by decide) w123a).trans (by kernel_rfl)
theorem w136b : A136 N0 [.fs .i64 [8, 8, 16, 32], .fs .i64 [8, 0, 0, 65537]] = some [.fs .u8 [8, 0, 0, 0, 0, 1, 0, 1], .int .i64 0] :=
  (a136 N0 [(8, 8), (8, 0), (16, 0), (32, 65537)] (by decide) 8 rfl (by decide) (by decide) (by decide) (by decide) w123b).trans (by kernel_rfl)
def g83 : Fun := at2 N0 [.fs .u8 ib, .int .i64 0, .fs .i64 [4, 4, 8, 16, 16, 1, 1, 1, 13, 8, 8, 16]] [.fs .i64 [4, 5, 0, 28, 0, 0, 0, 0, 0, 64, 1, 26335], .int .i64 12, .int .i64 0] [.fs .u8 mb, .int .i64 0, .fs .i64 [8, 8, 16, 32]] [.fs .i64 [8, 0, 63485, 65537], .int .i64 8, .int .i64 0]
def g136 : Fun := at2 N0 [.fs .i64 [4, 4, 8, 16, 16, 1, 1, 1, 13, 8, 8, 16], .fs .i64 [4, 5, 0, 28, 0, 0, 0, 0, 0, 64, 1, 0]] [.fs .u8 [69, 0, 0, 28, 0, 0, 0, 0, 64, 1, 0, 0], .int .i64 0] [.fs .i64 [8, 8, 16, 32], .fs .i64 [8, 0, 0, 65537]] [.fs .u8 [8, 0, 0, 0, 0, 1, 0, 1], .int .i64 0]
theorem sg83 : SoundCal Tryz.prog env 83 (mkCal D83 g83) := mono_ok S83 (fun n xs r h => at2_ok w83a w83b h)
theorem sg136 : SoundCal Tryz.prog env 136 (mkCal D136 g136) := mono_ok S136 (fun n xs r h => at2_ok w136a w136b h)

/-! The functions on the way, with these two at the closed run's arguments alone. -/
noncomputable def B51 : Fun := fun n xs => D51.run Tryz.prog env (cal51 g83 A84 A85 A86 A87 A88) H51 n xs
theorem T51 : SoundCal Tryz.prog env 51 (mkCal D51 B51) := snd51 _ _ _ _ _ _ sg83 S84 S85 S86 S87 S88
noncomputable def B58 : Fun := fun n xs => D58.run Tryz.prog env (cal58 g83 A84 A95 A96) H58 n xs
theorem T58 : SoundCal Tryz.prog env 58 (mkCal D58 B58) := snd58 _ _ _ _ sg83 S84 S95 S96
noncomputable def B26 : Fun := fun n xs => D26.run Tryz.prog env (cal26 A54 A55 A56 A57 B58 A59 A60) H26 n xs
theorem T26 : SoundCal Tryz.prog env 26 (mkCal D26 B26) := snd26 _ _ _ _ _ _ _ S54 S55 S56 S57 T58 S59 S60
noncomputable def B23 : Fun := fun n xs => D23.run Tryz.prog env (cal23 B26 A49 A50 B51 A52) H23 n xs
theorem T23 : SoundCal Tryz.prog env 23 (mkCal D23 B23) := snd23 _ _ _ _ _ T26 S49 S50 T51 S52
noncomputable def B91 : Fun := fun n xs => D91.run Tryz.prog env (cal91 A95 A96 A135 g136 A137) H91 n xs
theorem T91 : SoundCal Tryz.prog env 91 (mkCal D91 B91) := snd91 _ _ _ _ _ S95 S96 S135 sg136 S137
noncomputable def B53 : Fun := fun n xs => D53.run Tryz.prog env (cal53 A55 A56 B91 A92 A93) H53 n xs
theorem T53 : SoundCal Tryz.prog env 53 (mkCal D53 B53) := snd53 _ _ _ _ _ S55 S56 T91 S92 S93
noncomputable def B109 : Fun := fun n xs => D109.run Tryz.prog env (cal109 g136 A137 A155 A157 A158) H109 n xs
theorem T109 : SoundCal Tryz.prog env 109 (mkCal D109 B109) := snd109 _ _ _ _ _ sg136 S137 S155 S157 S158
noncomputable def B65 : Fun := fun n xs => D65.run Tryz.prog env (cal65 B53 A54 A106 A107 A108 B109 A110) H65 n xs
theorem T65 : SoundCal Tryz.prog env 65 (mkCal D65 B65) := snd65 _ _ _ _ _ _ _ T53 S54 S106 S107 S108 T109 S110
noncomputable def B32 : Fun := fun n xs => D32.run Tryz.prog env (cal32 A63 A64 B65 A66 A67) H32 n xs
theorem T32 : SoundCal Tryz.prog env 32 (mkCal D32 B32) := snd32 _ _ _ _ _ S63 S64 T65 S66 S67
noncomputable def B13 : Fun := fun n xs => D13.run Tryz.prog env (cal13 B32 A33) H13 n xs
theorem T13 : SoundCal Tryz.prog env 13 (mkCal D13 B13) := snd13 _ _ T32 S33
noncomputable def B16 : Fun := fun n xs => D16.run Tryz.prog env (cal16 B13 A15 A17 A18 B23 A30 A44 A45) H16 n xs
theorem T16 : SoundCal Tryz.prog env 16 (mkCal D16 B16) := snd16 _ _ _ _ _ _ _ _ T13 S15 S17 S18 T23 S30 S44 S45

theorem v51 : B51 N0 [.fs .u8 ib] = some [({ plainI with data := mb } : Ip4).av, .int .i64 0] := by kernel_rfl
theorem v58 : B58 N0 [.int .i64 4, ipA.av, ipB.av, .fs .u8 mb] = some [plainM.av, .int .i64 0] := by kernel_rfl
theorem v23 : B23 N0 [.fs .u8 wb, .tup []] = some [plain.av, .int .i64 0, .tup []] := by kernel_rfl

theorem v13 : B13 N0 [plain.av] = some [.fs .u8 wb, .int .i64 0] := by kernel_rfl
theorem v15 : A15 N0 [plain.av, plain.av] = some [.bool true] := by kernel_rfl

theorem a17 (n : Nat) (x : Int) : A17 n [.int .i64 x] = some [.int .i64 x] := eq17 n x
theorem v18 : A18 N0 [.fs .u8 wb, .fs .u8 wb] = some [.bool true] := by kernel_rfl
/-- The closed run says yes. -/
theorem v16 : B16 N0 [.tup []] = some [.bool true, .tup []] := by
  show run16 B13 A15 A17 A18 B23 A30 A44 A45 N0 [] = _
  rw [eq16]
  simp only [Ip.eta, Ip.i0, Ip.i1, Ip.fold, Tag.eta, Tag.i0, Tag.i1, Tag.i2, Tag.i3, Tag.fold, Opt.eta, Opt.i0, Opt.i1, Opt.fold, Arp.eta, Arp.i0, Arp.i1, Arp.i2, Arp.i3, Arp.i4, Arp.fold, Ip4.eta, Ip4.i0, Ip4.i1, Ip4.i2, Ip4.i3, Ip4.i4, Ip4.i5, Ip4.i6, Ip4.i7, Ip4.i8, Ip4.i9, Ip4.i10, Ip4.fold, Frag.eta, Frag.i0, Frag.i1, Frag.i2, Frag.i3, Frag.fold, Ext.eta, Ext.i0, Ext.i1, Ext.i2, Ext.fold, Ip6.eta, Ip6.i0, Ip6.i1, Ip6.i2, Ip6.i3, Ip6.i4, Ip6.i5, Ip6.i6, Ip6.i7, Ip6.i8, Ip6.fold, Icmp.eta, Icmp.i0, Icmp.i1, Icmp.i2, Icmp.i3, Icmp.i4, Icmp.fold, Udp.eta, Udp.i0, Udp.i1, Udp.i2, Udp.i3, Udp.fold, Tcp.eta, Tcp.i0, Tcp.i1, Tcp.i2, Tcp.i3, Tcp.i4, Tcp.i5, Tcp.i6, Tcp.i7, Tcp.i8, Tcp.fold, Frm.eta, Frm.i0, Frm.i1, Frm.i2, Frm.i3, Frm.i4, Frm.fold, Ends.eta, Ends.i0, Ends.i1, Ends.i2, Ends.i3, Ends.i4, Ends.fold, Tup.eta, Tup.i0, Tup.i1, Tup.i2, Tup.i3, Tup.i4, Tup.fold, Pkt.eta, Pkt.i0, Pkt.i1, Pkt.i2, Pkt.i3, Pkt.i4, Pkt.i5, Pkt.i6, Pkt.i7, Pkt.i8, Pkt.i9, Pkt.i10, Pkt.fold, Chn.eta, Chn.i0, Chn.i1, Chn.i2, Chn.i3, Chn.fold, Tag.nil, Opt.nil, Ext.nil, ge0, ge1, ge2, ge3, ge4, ge5, ge6, ge7, ge8, ge9, ge10, ge11, ge12, ge13, nl0, nl1, nl2, nl3, nl4, nl5, nl6, nl7, tI, tB, tA, tF, tV, tT, bT, bF, jL, jR, jl, jr, jN, iL, iR, iLN, iRN, oS, oN, w44, v23, w30, v13, v15, w45, a17, v18]
  rfl
end Go.Proofs.YtlmnjnhmhacgkaaGreatDoor.Am
end
