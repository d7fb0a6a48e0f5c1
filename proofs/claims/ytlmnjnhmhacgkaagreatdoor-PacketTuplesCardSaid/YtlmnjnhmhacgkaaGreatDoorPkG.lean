/-
  The law of tuples.
  A packet as it is read from memory is plain data.
-/
import Derived.Test.YtlmnjnhmhacgkaaGreatDoorPkF
import Derived.Test.YtlmnjnhmhacgkaaGreatDoorPkE
import Derived.Test.YtlmnjnhmhacgkaaGreatDoorAmG
section
set_option linter.unusedVariables false
set_option linter.unusedSimpArgs false
set_option maxRecDepth 100000
namespace Go.Proofs.YtlmnjnhmhacgkaaGreatDoor.Am
open Go Go.Am Go.Proofs

def rev (t : Tup) : Tup := ⟨t.proto, t.dst, t.src, t.dport, t.sport⟩
theorem a29 (n : Nat) (t : Tup) : A29 n [t.av] = some [(rev t).av] := eq29 n t.av

def turnT (kind type : Int) : Int :=
  if kind = 2 ∧ type = 8 then 0 else if kind = 2 ∧ type = 0 then 8 else if kind = 3 ∧ type = 128 then 129 else if kind = 3 ∧ type = 129 then 128 else type
def turned (p : Pkt) : Pkt :=
  { p with ip4 := { p.ip4 with src := p.ip4.dst, dst := p.ip4.src }, ip6 := { p.ip6 with src := p.ip6.dst, dst := p.ip6.src },
           udp := { p.udp with sport := p.udp.dport, dport := p.udp.sport }, tcp := { p.tcp with sport := p.tcp.dport, dport := p.tcp.sport },
           icmp := { p.icmp with type := turnT p.kind p.icmp.type } }
theorem a28 (n : Nat) (p : Pkt) : A28 n [p.av] = some [(turned p).av] := by
  show run28 n p.av = _
  rw [eq28]
  by_cases h2 : p.kind = 2
  · by_cases q1 : p.icmp.type = 8
    · simp [Ip.eta, Ip.i0, Ip.i1, Ip.fold, Tag.eta, Tag.i0, Tag.i1, Tag.i2, Tag.i3, Tag.fold, Opt.eta, Opt.i0, Opt.i1, Opt.fold, Arp.eta, Arp.i0, Arp.i1, Arp.i2, Arp.i3, Arp.i4, Arp.fold, Ip4.eta, Ip4.i0, Ip4.i1, Ip4.i2, Ip4.i3, Ip4.i4, Ip4.i5, Ip4.i6, Ip4.i7, Ip4.i8, Ip4.i9, Ip4.i10, Ip4.fold, Frag.eta, Frag.i0, Frag.i1, Frag.i2, Frag.i3, Frag.fold, Ext.eta, Ext.i0, Ext.i1, Ext.i2, Ext.fold, Ip6.eta, Ip6.i0, Ip6.i1, Ip6.i2, Ip6.i3, Ip6.i4, Ip6.i5, Ip6.i6, Ip6.i7, Ip6.i8, Ip6.fold, Icmp.eta, Icmp.i0, Icmp.i1, Icmp.i2, Icmp.i3, Icmp.i4, Icmp.fold, Udp.eta, Udp.i0, Udp.i1, Udp.i2, Udp.i3, Udp.fold, Tcp.eta, Tcp.i0, Tcp.i1, Tcp.i2, Tcp.i3, Tcp.i4, Tcp.i5, Tcp.i6, Tcp.i7, Tcp.i8, Tcp.fold, Frm.eta, Frm.i0, Frm.i1, Frm.i2, Frm.i3, Frm.i4, Frm.fold, Ends.eta, Ends.i0, Ends.i1, Ends.i2, Ends.i3, Ends.i4, Ends.fold, Tup.eta, Tup.i0, Tup.i1, Tup.i2, Tup.i3, Tup.i4, Tup.fold, Pkt.eta, Pkt.i0, Pkt.i1, Pkt.i2, Pkt.i3, Pkt.i4, Pkt.i5, Pkt.i6, Pkt.i7, Pkt.i8, Pkt.i9, Pkt.i10, Pkt.fold, Chn.eta, Chn.i0, Chn.i1, Chn.i2, Chn.i3, Chn.fold, Tag.nil, Opt.nil, Ext.nil, ge0, ge1, ge2, ge3, ge4, ge5, ge6, ge7, ge8, ge9, ge10, ge11, ge12, ge13, nl0, nl1, nl2, nl3, nl4, nl5, nl6, nl7, tI, tB, tA, tF, tV, tT, bT, bF, jL, jR, jl, jr, jN, iL, iR, iLN, iRN, oS, oN, bI, jC, iLC, iRC, oC, decide_eq_true_eq, Bool.not_eq_true', beq_iff_eq, bne_iff_ne, ne_eq, Bool.and_eq_true, Bool.or_eq_true, h2, q1, turned, turnT]
    · by_cases q2 : p.icmp.type = 0
      · simp [Ip.eta, Ip.i0, Ip.i1, Ip.fold, Tag.eta, Tag.i0, Tag.i1, Tag.i2, Tag.i3, Tag.fold, Opt.eta, Opt.i0, Opt.i1, Opt.fold, Arp.eta, Arp.i0, Arp.i1, Arp.i2, Arp.i3, Arp.i4, Arp.fold, Ip4.eta, Ip4.i0, Ip4.i1, Ip4.i2, Ip4.i3, Ip4.i4, Ip4.i5, Ip4.i6, Ip4.i7, Ip4.i8, Ip4.i9, Ip4.i10, Ip4.fold, Frag.eta, Frag.i0, Frag.i1, Frag.i2, Frag.i3, Frag.fold, Ext.eta, Ext.i0, Ext.i1, Ext.i2, Ext.fold, Ip6.eta, Ip6.i0, Ip6.i1, Ip6.i2, Ip6.i3, Ip6.i4, Ip6.i5, Ip6.i6, Ip6.i7, Ip6.i8, Ip6.fold, Icmp.eta, Icmp.i0, Icmp.i1, Icmp.i2, Icmp.i3, Icmp.i4, Icmp.fold, Udp.eta, Udp.i0, Udp.i1, Udp.i2, Udp.i3, Udp.fold, Tcp.eta, Tcp.i0, Tcp.i1, Tcp.i2, Tcp.i3, Tcp.i4, Tcp.i5, Tcp.i6, Tcp.i7, Tcp.i8, Tcp.fold, Frm.eta, Frm.i0, Frm.i1, Frm.i2, Frm.i3, Frm.i4, Frm.fold, Ends.eta, Ends.i0, Ends.i1, Ends.i2, Ends.i3, Ends.i4, Ends.fold, Tup.eta, Tup.i0, Tup.i1, Tup.i2, Tup.i3, Tup.i4, Tup.fold, Pkt.eta, Pkt.i0, Pkt.i1, Pkt.i2, Pkt.i3, Pkt.i4, Pkt.i5, Pkt.i6, Pkt.i7, Pkt.i8, Pkt.i9, Pkt.i10, Pkt.fold, Chn.eta, Chn.i0, Chn.i1, Chn.i2, Chn.i3, Chn.fold, Tag.nil, Opt.nil, Ext.nil, ge0, ge1, ge2, ge3, ge4, ge5, ge6, ge7, ge8, ge9, ge10, ge11, ge12, ge13, nl0, nl1, nl2, nl3, nl4, nl5, nl6, nl7, tI, tB, tA, tF, tV, tT, bT, bF, jL, jR, jl, jr, jN, iL, iR, iLN, iRN, oS, oN, bI, jC, iLC, iRC, oC, decide_eq_true_eq, Bool.not_eq_true', beq_iff_eq, bne_iff_ne, ne_eq, Bool.and_eq_true, Bool.or_eq_true, h2, q1, q2, turned, turnT]
      · simp [Ip.eta, Ip.i0, Ip.i1, Ip.fold, Tag.eta, Tag.i0, Tag.i1, Tag.i2, Tag.i3, Tag.fold, Opt.eta, Opt.i0, Opt.i1, Opt.fold, Arp.eta, Arp.i0, Arp.i1, Arp.i2, Arp.i3, Arp.i4, Arp.fold, Ip4.eta, Ip4.i0, Ip4.i1, Ip4.i2, Ip4.i3, Ip4.i4, Ip4.i5, Ip4.i6, Ip4.i7, Ip4.i8, Ip4.i9, Ip4.i10, Ip4.fold, Frag.eta, Frag.i0, Frag.i1, Frag.i2, Frag.i3, Frag.fold, Ext.eta, Ext.i0, Ext.i1, Ext.i2, Ext.fold, Ip6.eta, Ip6.i0, Ip6.i1, Ip6.i2, Ip6.i3, Ip6.i4, Ip6.i5, Ip6.i6, Ip6.i7, Ip6.i8, Ip6.fold, Icmp.eta, Icmp.i0, Icmp.i1, Icmp.i2, Icmp.i3, Icmp.i4, Icmp.fold, Udp.eta, Udp.i0, Udp.i1, Udp.i2, Udp.i3, Udp.fold, Tcp.eta, Tcp.i0, Tcp.i1, Tcp.i2, Tcp.i3, Tcp.i4, Tcp.i5, Tcp.i6, Tcp.i7, Tcp.i8, Tcp.fold, Frm.eta, Frm.i0, Frm.i1, Frm.i2, Frm.i3, Frm.i4, Frm.fold, Ends.eta, Ends.i0, Ends.i1, Ends.i2, Ends.i3, Ends.i4, Ends.fold, Tup.eta, Tup.i0, Tup.i1, Tup.i2, Tup.i3, Tup.i4, Tup.fold, Pkt.eta, Pkt.i0, Pkt.i1, Pkt.i2, Pkt.i3, Pkt.i4, Pkt.i5, Pkt.i6, Pkt.i7, Pkt.i8, Pkt.i9, Pkt.i10, Pkt.fold, Chn.eta, Chn.i0, Chn.i1, Chn.i2, Chn.i3, Chn.fold, Tag.nil, Opt.nil, Ext.nil, ge0, ge1, ge2, ge3, ge4, ge5, ge6, ge7, ge8, ge9, ge10, ge11, ge12, ge13, nl0, nl1, nl2, nl3, nl4, nl5, nl6, nl7, tI, tB, tA, tF, tV, tT, bT, bF, jL, jR, jl, jr, jN, iL, iR, iLN, iRN, oS, oN, bI, jC, iLC, iRC, oC, decide_eq_true_eq, Bool.not_eq_true', beq_iff_eq, bne_iff_ne, ne_eq, Bool.and_eq_true, Bool.or_eq_true, h2, q1, q2, turned, turnT]
  · by_cases h3 : p.kind = 3
    · by_cases q1 : p.icmp.type = 128
      · simp [Ip.eta, Ip.i0, Ip.i1, Ip.fold, Tag.eta, Tag.i0, Tag.i1, Tag.i2, Tag.i3, Tag.fold, Opt.eta, Opt.i0, Opt.i1, Opt.fold, Arp.eta, Arp.i0, Arp.i1, Arp.i2, Arp.i3, Arp.i4, Arp.fold, Ip4.eta, Ip4.i0, Ip4.i1, Ip4.i2, Ip4.i3, Ip4.i4, Ip4.i5, Ip4.i6, Ip4.i7, Ip4.i8, Ip4.i9, Ip4.i10, Ip4.fold, Frag.eta, Frag.i0, Frag.i1, Frag.i2, Frag.i3, Frag.fold, Ext.eta, Ext.i0, Ext.i1, Ext.i2, Ext.fold, Ip6.eta, Ip6.i0, Ip6.i1, Ip6.i2, Ip6.i3, Ip6.i4, Ip6.i5, Ip6.i6, Ip6.i7, Ip6.i8, Ip6.fold, Icmp.eta, Icmp.i0, Icmp.i1, Icmp.i2, Icmp.i3, Icmp.i4, Icmp.fold, Udp.eta, Udp.i0, Udp.i1, Udp.i2, Udp.i3, Udp.fold, Tcp.eta, Tcp.i0, Tcp.i1, Tcp.i2, Tcp.i3, Tcp.i4, Tcp.i5, Tcp.i6, Tcp.i7, Tcp.i8, Tcp.fold, Frm.eta, Frm.i0, Frm.i1, Frm.i2, Frm.i3, Frm.i4, Frm.fold, Ends.eta, Ends.i0, Ends.i1, Ends.i2, Ends.i3, Ends.i4, Ends.fold, Tup.eta, Tup.i0, Tup.i1, Tup.i2, Tup.i3, Tup.i4, Tup.fold, Pkt.eta, Pkt.i0, Pkt.i1, Pkt.i2, Pkt.i3, Pkt.i4, Pkt.i5, Pkt.i6, Pkt.i7, Pkt.i8, Pkt.i9, Pkt.i10, Pkt.fold, Chn.eta, Chn.i0, Chn.i1, Chn.i2, Chn.i3, Chn.fold, Tag.nil, Opt.nil, Ext.nil, ge0, ge1, ge2, ge3, ge4, ge5, ge6, ge7, ge8, ge9, ge10, ge11, ge12, ge13, nl0, nl1, nl2, nl3, nl4, nl5, nl6, nl7, tI, tB, tA, tF, tV, tT, bT, bF, jL, jR, jl, jr, jN, iL, iR, iLN, iRN, oS, oN, bI, jC, iLC, iRC, oC, decide_eq_true_eq, Bool.not_eq_true', beq_iff_eq, bne_iff_ne, ne_eq, Bool.and_eq_true, Bool.or_eq_true, h2, h3, q1, turned, turnT]
      · by_cases q2 : p.icmp.type = 129
        · simp [Ip.eta, Ip.i0, Ip.i1, Ip.fold, Tag.eta, Tag.i0, Tag.i1, Tag.i2, Tag.i3, Tag.fold, Opt.eta, Opt.i0, Opt.i1, Opt.fold, Arp.eta, Arp.i0, Arp.i1, Arp.i2, Arp.i3, Arp.i4, Arp.fold, Ip4.eta, Ip4.i0, Ip4.i1, Ip4.i2, Ip4.i3, Ip4.i4, Ip4.i5, Ip4.i6, Ip4.i7, Ip4.i8, Ip4.i9, Ip4.i10, Ip4.fold, Frag.eta, Frag.i0, Frag.i1, Frag.i2, Frag.i3, Frag.fold, Ext.eta, Ext.i0, Ext.i1, Ext.i2, Ext.fold, Ip6.eta, Ip6.i0, Ip6.i1, Ip6.i2, Ip6.i3, Ip6.i4, Ip6.i5, Ip6.i6, Ip6.i7, Ip6.i8, Ip6.fold, Icmp.eta, Icmp.i0, Icmp.i1, Icmp.i2, Icmp.i3, Icmp.i4, Icmp.fold, Udp.eta, Udp.i0, Udp.i1, Udp.i2, Udp.i3, Udp.fold, Tcp.eta, Tcp.i0, Tcp.i1, Tcp.i2, Tcp.i3, Tcp.i4, Tcp.i5, Tcp.i6, Tcp.i7, Tcp.i8, Tcp.fold, Frm.eta, Frm.i0, Frm.i1, Frm.i2, Frm.i3, Frm.i4, Frm.fold, Ends.eta, Ends.i0, Ends.i1, Ends.i2, Ends.i3, Ends.i4, Ends.fold, Tup.eta, Tup.i0, Tup.i1, Tup.i2, Tup.i3, Tup.i4, Tup.fold, Pkt.eta, Pkt.i0, Pkt.i1, Pkt.i2, Pkt.i3, Pkt.i4, Pkt.i5, Pkt.i6, Pkt.i7, Pkt.i8, Pkt.i9, Pkt.i10, Pkt.fold, Chn.eta, Chn.i0, Chn.i1, Chn.i2, Chn.i3, Chn.fold, Tag.nil, Opt.nil, Ext.nil, ge0, ge1, ge2, ge3, ge4, ge5, ge6, ge7, ge8, ge9, ge10, ge11, ge12, ge13, nl0, nl1, nl2, nl3, nl4, nl5, nl6, nl7, tI, tB, tA, tF, tV, tT, bT, bF, jL, jR, jl, jr, jN, iL, iR, iLN, iRN, oS, oN, bI, jC, iLC, iRC, oC, decide_eq_true_eq, Bool.not_eq_true', beq_iff_eq, bne_iff_ne, ne_eq, Bool.and_eq_true, Bool.or_eq_true, h2, h3, q1, q2, turned, turnT]
        · simp [Ip.eta, Ip.i0, Ip.i1, Ip.fold, Tag.eta, Tag.i0, Tag.i1, Tag.i2, Tag.i3, Tag.fold, Opt.eta, Opt.i0, Opt.i1, Opt.fold, Arp.eta, Arp.i0, Arp.i1, Arp.i2, Arp.i3, Arp.i4, Arp.fold, Ip4.eta, Ip4.i0, Ip4.i1, Ip4.i2, Ip4.i3, Ip4.i4, Ip4.i5, Ip4.i6, Ip4.i7, Ip4.i8, Ip4.i9, Ip4.i10, Ip4.fold, Frag.eta, Frag.i0, Frag.i1, Frag.i2, Frag.i3, Frag.fold, Ext.eta, Ext.i0, Ext.i1, Ext.i2, Ext.fold, Ip6.eta, Ip6.i0, Ip6.i1, Ip6.i2, Ip6.i3, Ip6.i4, Ip6.i5, Ip6.i6, Ip6.i7, Ip6.i8, Ip6.fold, Icmp.eta, Icmp.i0, Icmp.i1, Icmp.i2, Icmp.i3, Icmp.i4, Icmp.fold, Udp.eta, Udp.i0, Udp.i1, Udp.i2, Udp.i3, Udp.fold, Tcp.eta, Tcp.i0, Tcp.i1, Tcp.i2, Tcp.i3, Tcp.i4, Tcp.i5, Tcp.i6, Tcp.i7, Tcp.i8, Tcp.fold, Frm.eta, Frm.i0, Frm.i1, Frm.i2, Frm.i3, Frm.i4, Frm.fold, Ends.eta, Ends.i0, Ends.i1, Ends.i2, Ends.i3, Ends.i4, Ends.fold, Tup.eta, Tup.i0, Tup.i1, Tup.i2, Tup.i3, Tup.i4, Tup.fold, Pkt.eta, Pkt.i0, Pkt.i1, Pkt.i2, Pkt.i3, Pkt.i4, Pkt.i5, Pkt.i6, Pkt.i7, Pkt.i8, Pkt.i9, Pkt.i10, Pkt.fold, Chn.eta, Chn.i0, Chn.i1, Chn.i2, Chn.i3, Chn.fold, Tag.nil, Opt.nil, Ext.nil, ge0, ge1, ge2, ge3, ge4, ge5, ge6, ge7, ge8, ge9, ge10, ge11, ge12, ge13, nl0, nl1, nl2, nl3, nl4, nl5, nl6, nl7, tI, tB, tA, tF, tV, tT, bT, bF, jL, jR, jl, jr, jN, iL, iR, iLN, iRN, oS, oN, bI, jC, iLC, iRC, oC, decide_eq_true_eq, Bool.not_eq_true', beq_iff_eq, bne_iff_ne, ne_eq, Bool.and_eq_true, Bool.or_eq_true, h2, h3, q1, q2, turned, turnT]
    · simp [Ip.eta, Ip.i0, Ip.i1, Ip.fold, Tag.eta, Tag.i0, Tag.i1, Tag.i2, Tag.i3, Tag.fold, Opt.eta, Opt.i0, Opt.i1, Opt.fold, Arp.eta, Arp.i0, Arp.i1, Arp.i2, Arp.i3, Arp.i4, Arp.fold, Ip4.eta, Ip4.i0, Ip4.i1, Ip4.i2, Ip4.i3, Ip4.i4, Ip4.i5, Ip4.i6, Ip4.i7, Ip4.i8, Ip4.i9, Ip4.i10, Ip4.fold, Frag.eta, Frag.i0, Frag.i1, Frag.i2, Frag.i3, Frag.fold, Ext.eta, Ext.i0, Ext.i1, Ext.i2, Ext.fold, Ip6.eta, Ip6.i0, Ip6.i1, Ip6.i2, Ip6.i3, Ip6.i4, Ip6.i5, Ip6.i6, Ip6.i7, Ip6.i8, Ip6.fold, Icmp.eta, Icmp.i0, Icmp.i1, Icmp.i2, Icmp.i3, Icmp.i4, Icmp.fold, Udp.eta, Udp.i0, Udp.i1, Udp.i2, Udp.i3, Udp.fold, Tcp.eta, Tcp.i0, Tcp.i1, Tcp.i2, Tcp.i3, Tcp.i4, Tcp.i5, Tcp.i6, Tcp.i7, Tcp.i8, Tcp.fold, Frm.eta, Frm.i0, Frm.i1, Frm.i2, Frm.i3, Frm.i4, Frm.fold, Ends.eta, Ends.i0, Ends.i1, Ends.i2, Ends.i3, Ends.i4, Ends.fold, Tup.eta, Tup.i0, Tup.i1, Tup.i2, Tup.i3, Tup.i4, Tup.fold, Pkt.eta, Pkt.i0, Pkt.i1, Pkt.i2, Pkt.i3, Pkt.i4, Pkt.i5, Pkt.i6, Pkt.i7, Pkt.i8, Pkt.i9, Pkt.i10, Pkt.fold, Chn.eta, Chn.i0, Chn.i1, Chn.i2, Chn.i3, Chn.fold, Tag.nil, Opt.nil, Ext.nil, ge0, ge1, ge2, ge3, ge4, ge5, ge6, ge7, ge8, ge9, ge10, ge11, ge12, ge13, nl0, nl1, nl2, nl3, nl4, nl5, nl6, nl7, tI, tB, tA, tF, tV, tT, bT, bF, jL, jR, jl, jr, jN, iL, iR, iLN, iRN, oS, oN, bI, jC, iLC, iRC, oC, decide_eq_true_eq, Bool.not_eq_true', beq_iff_eq, bne_iff_ne, ne_eq, Bool.and_eq_true, Bool.or_eq_true, h2, h3, turned, turnT]

theorem keq_tup (a b : Tup) : keq a.av b.av = decide (a = b) := by
  obtain ⟨p, ⟨v, l⟩, ⟨w, m⟩, s, d⟩ := a
  obtain ⟨p', ⟨v', l'⟩, ⟨w', m'⟩, s', d'⟩ := b
  simp only [Tup.av, Ip.av, keq, keqs]
  rw [Bool.eq_iff_iff]
  simp

theorem ends_turned (p : Pkt) : endsOf (turned p) = { endsOf p with src := (endsOf p).dst, dst := (endsOf p).src } := by
  unfold endsOf turned
  by_cases h : p.kind = 2 <;> simp [h]
theorem ends_v (p : Pkt) : (endsOf p).v = if p.kind = 2 then 4 else 6 := by unfold endsOf; split <;> rfl
theorem echo_turn6 (m : Icmp) (k : Int) (hk : k = 3) : echo { m with type := turnT k m.type } 128 129 = ((echo m 128 129).2.1, (echo m 128 129).1, (echo m 128 129).2.2) := by
  subst hk
  unfold echo turnT
  by_cases h0 : m.code = 0
  · by_cases h1 : m.type = 128
    · simp [h0, h1]
    · by_cases h2 : m.type = 129
      · simp [h0, h1, h2]
      · simp [h0, h1, h2]
  · simp [h0]
theorem echo_turn4 (m : Icmp) (k : Int) (hk : k = 2) : echo { m with type := turnT k m.type } 8 0 = ((echo m 8 0).2.1, (echo m 8 0).1, (echo m 8 0).2.2) := by
  subst hk
  unfold echo turnT
  by_cases h0 : m.code = 0
  · by_cases h1 : m.type = 8
    · simp [h0, h1]
    · by_cases h2 : m.type = 0
      · simp [h0, h1, h2]
      · simp [h0, h1, h2]
  · simp [h0]
theorem tuple_turned (p : Pkt) : tuple (turned p) = (rev (tuple p).1, (tuple p).2) := by
  unfold tuple
  rw [ends_turned]
  have hv := ends_v p
  have hz : rev Tup.z = Tup.z := rfl
  have t1 : (turned p).kind = p.kind := rfl
  have t2 : (turned p).l4 = p.l4 := rfl
  have t3 : (turned p).tcp.sport = p.tcp.dport ∧ (turned p).tcp.dport = p.tcp.sport := ⟨rfl, rfl⟩
  have t4 : (turned p).udp.sport = p.udp.dport ∧ (turned p).udp.dport = p.udp.sport := ⟨rfl, rfl⟩
  have t5 : (turned p).icmp = { p.icmp with type := turnT p.kind p.icmp.type } := rfl
  rw [t1, t2, t3.1, t3.2, t4.1, t4.2, t5]
  by_cases h2 : p.kind = 2
  · rw [if_pos h2] at hv
    simp only [hv, h2]
    rw [echo_turn4 _ _ rfl]
    by_cases q3 : p.l4 = 3
    · simp [q3, rev]
    by_cases q2 : p.l4 = 2
    · simp [q2, rev]
    by_cases q1 : p.l4 = 1
    · cases he : (echo p.icmp 8 0).2.2 <;> simp [q1, he, rev] <;> rfl
    · simp [q1, q2, q3]; rfl
  · rw [if_neg h2] at hv
    by_cases h3 : p.kind = 3
    · simp only [hv, h3]
      rw [echo_turn6 _ _ rfl]
      by_cases q3 : p.l4 = 3
      · simp [q3, rev]
      by_cases q2 : p.l4 = 2
      · simp [q2, rev]
      by_cases q1 : p.l4 = 1
      · cases he : (echo p.icmp 128 129).2.2 <;> simp [q1, he, rev] <;> rfl
      · simp [q1, q2, q3]; rfl
    · simp [h2, h3]; rfl
theorem tuple_none (p : Pkt) (h : (tuple p).2 = false) : (tuple p).1 = Tup.z := by
  unfold tuple at h ⊢
  by_cases h2 : p.kind ≠ 2 ∧ p.kind ≠ 3
  · rw [if_pos h2]
  · rw [if_neg h2] at h ⊢
    simp only at h ⊢
    by_cases q3 : p.l4 = 3
    · rw [if_pos q3] at h; cases h
    · rw [if_neg q3] at h ⊢
      by_cases q2 : p.l4 = 2
      · rw [if_pos q2] at h; cases h
      · rw [if_neg q2] at h ⊢
        by_cases q1 : p.l4 = 1
        · rw [if_pos q1] at h ⊢
          generalize (if (endsOf p).v = 6 then echo p.icmp 128 129 else echo p.icmp 8 0) = e at h ⊢
          by_cases he : e.2.2 = true
          · rw [if_pos he] at h; cases h
          · rw [if_neg he]
        · rw [if_neg q1]
theorem tuple_l0 (p : Pkt) (h : p.l4 = 0) : (tuple p).2 = false := by
  unfold tuple
  by_cases h2 : p.kind ≠ 2 ∧ p.kind ≠ 3
  · rw [if_pos h2]
  · rw [if_neg h2, h]; rfl
theorem tuple_plain : tuple plain = (⟨1, ipA, ipB, 1, 0⟩, true) := by decide +kernel

noncomputable def B8 : Fun := fun n xs => D8.run Tryz.prog env (cal8 B16 A27 A28 A29 A30) H8 n xs
theorem T8 : SoundCal Tryz.prog env 8 (mkCal D8 B8) := snd8 _ _ _ _ _ T16 S27 S28 S29 S30
theorem rev_rev (t : Tup) : rev (rev t) = t := rfl
theorem Tup.zf : AV.agg [(.int .i64 0), Ip.z.av, Ip.z.av, (.int .i64 0), (.int .i64 0)] = Tup.z.av := rfl
theorem b8' (F16 F27 F28 F29 F30 : Fun) (n : Nat) (h16 : F16 n [.tup []] = some [.bool true, .tup []]) (h27 : ∀ p : Pkt, F27 n [p.av] = some [(tuple p).1.av, .bool (tuple p).2]) (h28 : ∀ p : Pkt, F28 n [p.av] = some [(turned p).av]) (h29 : ∀ t : Tup, F29 n [t.av] = some [(rev t).av]) (h30 : F30 n [] = some [plain.av])
    (p : Pkt) (t : Tup) : run8 F16 F27 F28 F29 F30 n p.av t.av = some [.bool true] := by
  rw [eq8]
  have hp1 : (tuple plain).1 = ⟨1, ipA, ipB, 1, 0⟩ := by rw [tuple_plain]
  have hp2 : (tuple plain).2 = true := by rw [tuple_plain]
  cases ho : (tuple p).2 with
  | true =>
    have hl : p.l4 ≠ 0 := fun h => by rw [tuple_l0 p h] at ho; cases ho
    simp [Ip.eta, Ip.i0, Ip.i1, Ip.fold, Tag.eta, Tag.i0, Tag.i1, Tag.i2, Tag.i3, Tag.fold, Opt.eta, Opt.i0, Opt.i1, Opt.fold, Arp.eta, Arp.i0, Arp.i1, Arp.i2, Arp.i3, Arp.i4, Arp.fold, Ip4.eta, Ip4.i0, Ip4.i1, Ip4.i2, Ip4.i3, Ip4.i4, Ip4.i5, Ip4.i6, Ip4.i7, Ip4.i8, Ip4.i9, Ip4.i10, Ip4.fold, Frag.eta, Frag.i0, Frag.i1, Frag.i2, Frag.i3, Frag.fold, Ext.eta, Ext.i0, Ext.i1, Ext.i2, Ext.fold, Ip6.eta, Ip6.i0, Ip6.i1, Ip6.i2, Ip6.i3, Ip6.i4, Ip6.i5, Ip6.i6, Ip6.i7, Ip6.i8, Ip6.fold, Icmp.eta, Icmp.i0, Icmp.i1, Icmp.i2, Icmp.i3, Icmp.i4, Icmp.fold, Udp.eta, Udp.i0, Udp.i1, Udp.i2, Udp.i3, Udp.fold, Tcp.eta, Tcp.i0, Tcp.i1, Tcp.i2, Tcp.i3, Tcp.i4, Tcp.i5, Tcp.i6, Tcp.i7, Tcp.i8, Tcp.fold, Frm.eta, Frm.i0, Frm.i1, Frm.i2, Frm.i3, Frm.i4, Frm.fold, Ends.eta, Ends.i0, Ends.i1, Ends.i2, Ends.i3, Ends.i4, Ends.fold, Tup.eta, Tup.i0, Tup.i1, Tup.i2, Tup.i3, Tup.i4, Tup.fold, Pkt.eta, Pkt.i0, Pkt.i1, Pkt.i2, Pkt.i3, Pkt.i4, Pkt.i5, Pkt.i6, Pkt.i7, Pkt.i8, Pkt.i9, Pkt.i10, Pkt.fold, Chn.eta, Chn.i0, Chn.i1, Chn.i2, Chn.i3, Chn.fold, Tag.nil, Opt.nil, Ext.nil, ge0, ge1, ge2, ge3, ge4, ge5, ge6, ge7, ge8, ge9, ge10, ge11, ge12, ge13, nl0, nl1, nl2, nl3, nl4, nl5, nl6, nl7, tI, tB, tA, tF, tV, tT, bT, bF, jL, jR, jl, jr, jN, iL, iR, iLN, iRN, oS, oN, bI, jC, iLC, iRC, oC, decide_eq_true_eq, Bool.not_eq_true', beq_iff_eq, bne_iff_ne, ne_eq, Bool.and_eq_true, Bool.or_eq_true, h27, h28, h29, h30, h16, tuple_turned, ho, rev_rev, keq_tup, hl, hp1, hp2]
  | false =>
    have hz := tuple_none p ho
    simp [Ip.eta, Ip.i0, Ip.i1, Ip.fold, Tag.eta, Tag.i0, Tag.i1, Tag.i2, Tag.i3, Tag.fold, Opt.eta, Opt.i0, Opt.i1, Opt.fold, Arp.eta, Arp.i0, Arp.i1, Arp.i2, Arp.i3, Arp.i4, Arp.fold, Ip4.eta, Ip4.i0, Ip4.i1, Ip4.i2, Ip4.i3, Ip4.i4, Ip4.i5, Ip4.i6, Ip4.i7, Ip4.i8, Ip4.i9, Ip4.i10, Ip4.fold, Frag.eta, Frag.i0, Frag.i1, Frag.i2, Frag.i3, Frag.fold, Ext.eta, Ext.i0, Ext.i1, Ext.i2, Ext.fold, Ip6.eta, Ip6.i0, Ip6.i1, Ip6.i2, Ip6.i3, Ip6.i4, Ip6.i5, Ip6.i6, Ip6.i7, Ip6.i8, Ip6.fold, Icmp.eta, Icmp.i0, Icmp.i1, Icmp.i2, Icmp.i3, Icmp.i4, Icmp.fold, Udp.eta, Udp.i0, Udp.i1, Udp.i2, Udp.i3, Udp.fold, Tcp.eta, Tcp.i0, Tcp.i1, Tcp.i2, Tcp.i3, Tcp.i4, Tcp.i5, Tcp.i6, Tcp.i7, Tcp.i8, Tcp.fold, Frm.eta, Frm.i0, Frm.i1, Frm.i2, Frm.i3, Frm.i4, Frm.fold, Ends.eta, Ends.i0, Ends.i1, Ends.i2, Ends.i3, Ends.i4, Ends.fold, Tup.eta, Tup.i0, Tup.i1, Tup.i2, Tup.i3, Tup.i4, Tup.fold, Pkt.eta, Pkt.i0, Pkt.i1, Pkt.i2, Pkt.i3, Pkt.i4, Pkt.i5, Pkt.i6, Pkt.i7, Pkt.i8, Pkt.i9, Pkt.i10, Pkt.fold, Chn.eta, Chn.i0, Chn.i1, Chn.i2, Chn.i3, Chn.fold, Tag.nil, Opt.nil, Ext.nil, ge0, ge1, ge2, ge3, ge4, ge5, ge6, ge7, ge8, ge9, ge10, ge11, ge12, ge13, nl0, nl1, nl2, nl3, nl4, nl5, nl6, nl7, tI, tB, tA, tF, tV, tT, bT, bF, jL, jR, jl, jr, jN, iL, iR, iLN, iRN, oS, oN, bI, jC, iLC, iRC, oC, decide_eq_true_eq, Bool.not_eq_true', beq_iff_eq, bne_iff_ne, ne_eq, Bool.and_eq_true, Bool.or_eq_true, h27, h28, h29, h30, h16, tuple_turned, ho, rev_rev, keq_tup, hz, hp1, hp2, Tup.z, Ip.z, rev]
/-- The law holds of every packet and tuple. -/
theorem b8 (p : Pkt) (t : Tup) : B8 N0 [p.av, t.av] = some [.bool true] :=
  b8' B16 A27 A28 A29 A30 N0 v16 (a27 N0) (a28 N0) (a29 N0) w30 p t
end Go.Proofs.YtlmnjnhmhacgkaaGreatDoor.Am
end

section
set_option linter.unusedVariables false
set_option maxRecDepth 100000
namespace Go.Proofs.YtlmnjnhmhacgkaaGreatDoor.Am
open Go Go.Am Go.Proofs

theorem Ip.in_ {x : AV} (h : DWT s27 x) : (Ip.of x).av = x := by
  obtain ⟨cs, rfl, c0, r0, rfl, ⟨_, rfl⟩, c1, r1, rfl, ⟨_, rfl⟩, h⟩ := h
  cases h; rfl
theorem Tag.in_ {x : AV} (h : DWT s79 x) : (Tag.of x).av = x := by
  obtain ⟨cs, rfl, _, _, rfl, ⟨_, rfl⟩, _, _, rfl, ⟨_, rfl⟩, _, _, rfl, ⟨_, rfl⟩, _, _, rfl, ⟨_, rfl⟩, h⟩ := h
  cases h; rfl
theorem Opt.in_ {x : AV} (h : DWT s93 x) : (Opt.of x).av = x := by
  obtain ⟨cs, rfl, _, _, rfl, ⟨_, rfl⟩, _, _, rfl, ⟨_, rfl⟩, h⟩ := h
  cases h; rfl
theorem list_in {α : Type} {of : AV → α} {av : α → AV} {s : Sh} (hi : ∀ x, DWT s x → av (of x) = x) {xs : List AV} (h : ∀ y ∈ xs, DWT s y) : (xs.map of).map av = xs := by
  rw [List.map_map]
  exact (List.map_congr_left (fun x hx => hi x (h x hx))).trans (List.map_id _)
theorem Arp.in_ {x : AV} (h : DWT s29 x) : (Arp.of x).av = x := by
  obtain ⟨cs, rfl, _, _, rfl, ⟨_, rfl⟩, _, _, rfl, ⟨_, rfl⟩, a, _, rfl, ha, _, _, rfl, ⟨_, rfl⟩, b, _, rfl, hb, h⟩ := h
  cases h
  show AV.agg [_, _, (Ip.of a).av, _, (Ip.of b).av] = _
  rw [Ip.in_ ha, Ip.in_ hb]; rfl
theorem Ip4.in_ {x : AV} (h : DWT s33 x) : (Ip4.of x).av = x := by
  obtain ⟨cs, rfl, _, _, rfl, ⟨_, rfl⟩, _, _, rfl, ⟨_, rfl⟩, _, _, rfl, ⟨_, rfl⟩, _, _, rfl, ⟨_, rfl⟩, _, _, rfl, ⟨_, rfl⟩, _, _, rfl, ⟨_, rfl⟩, _, _, rfl, ⟨_, rfl⟩, a, _, rfl, ha, b, _, rfl, hb, _, _, rfl, ⟨xs, rfl, hx⟩, _, _, rfl, ⟨_, rfl⟩, h⟩ := h
  cases h
  show AV.agg [_, _, _, _, _, _, _, (Ip.of a).av, (Ip.of b).av, .fv s93 ((xs.map Opt.of).map Opt.av), _] = _
  rw [Ip.in_ ha, Ip.in_ hb, list_in (fun x => Opt.in_) hx]; rfl
theorem Frag.in_ {x : AV} (h : DWT s36 x) : (Frag.of x).av = x := by
  obtain ⟨cs, rfl, _, _, rfl, ⟨_, rfl⟩, _, _, rfl, ⟨_, rfl⟩, _, _, rfl, ⟨_, rfl⟩, _, _, rfl, ⟨_, rfl⟩, h⟩ := h
  cases h; rfl
theorem Ext.in_ {x : AV} (h : DWT s124 x) : (Ext.of x).av = x := by
  obtain ⟨cs, rfl, _, _, rfl, ⟨_, rfl⟩, _, _, rfl, ⟨xs, rfl, hx⟩, _, _, rfl, ⟨_, rfl⟩, h⟩ := h
  cases h
  show AV.agg [_, .fv s93 ((xs.map Opt.of).map Opt.av), _] = _
  rw [list_in (fun x => Opt.in_) hx]; rfl
theorem Ip6.in_ {x : AV} (h : DWT s38 x) : (Ip6.of x).av = x := by
  obtain ⟨cs, rfl, _, _, rfl, ⟨_, rfl⟩, _, _, rfl, ⟨_, rfl⟩, _, _, rfl, ⟨_, rfl⟩, a, _, rfl, ha, b, _, rfl, hb, _, _, rfl, ⟨xs, rfl, hx⟩, f, _, rfl, hf, _, _, rfl, ⟨_, rfl⟩, _, _, rfl, ⟨_, rfl⟩, h⟩ := h
  cases h
  show AV.agg [_, _, _, (Ip.of a).av, (Ip.of b).av, .fv s124 ((xs.map Ext.of).map Ext.av), (Frag.of f).av, _, _] = _
  rw [Ip.in_ ha, Ip.in_ hb, list_in (fun x => Ext.in_) hx, Frag.in_ hf]; rfl
theorem Icmp.in_ {x : AV} (h : DWT s40 x) : (Icmp.of x).av = x := by
  obtain ⟨cs, rfl, _, _, rfl, ⟨_, rfl⟩, _, _, rfl, ⟨_, rfl⟩, _, _, rfl, ⟨_, rfl⟩, _, _, rfl, ⟨_, rfl⟩, _, _, rfl, ⟨_, rfl⟩, h⟩ := h
  cases h; rfl
theorem Udp.in_ {x : AV} (h : DWT s42 x) : (Udp.of x).av = x := by
  obtain ⟨cs, rfl, _, _, rfl, ⟨_, rfl⟩, _, _, rfl, ⟨_, rfl⟩, _, _, rfl, ⟨_, rfl⟩, _, _, rfl, ⟨_, rfl⟩, h⟩ := h
  cases h; rfl
theorem Tcp.in_ {x : AV} (h : DWT s44 x) : (Tcp.of x).av = x := by
  obtain ⟨cs, rfl, _, _, rfl, ⟨_, rfl⟩, _, _, rfl, ⟨_, rfl⟩, _, _, rfl, ⟨_, rfl⟩, _, _, rfl, ⟨_, rfl⟩, _, _, rfl, ⟨_, rfl⟩, _, _, rfl, ⟨_, rfl⟩, _, _, rfl, ⟨_, rfl⟩, _, _, rfl, ⟨xs, rfl, hx⟩, _, _, rfl, ⟨_, rfl⟩, h⟩ := h
  cases h
  show AV.agg [_, _, _, _, _, _, _, .fv s93 ((xs.map Opt.of).map Opt.av), _] = _
  rw [list_in (fun x => Opt.in_) hx]; rfl
theorem Tup.in_ {x : AV} (h : DWT s66 x) : (Tup.of x).av = x := by
  obtain ⟨cs, rfl, _, _, rfl, ⟨_, rfl⟩, a, _, rfl, ha, b, _, rfl, hb, _, _, rfl, ⟨_, rfl⟩, _, _, rfl, ⟨_, rfl⟩, h⟩ := h
  cases h
  show AV.agg [_, (Ip.of a).av, (Ip.of b).av, _, _] = _
  rw [Ip.in_ ha, Ip.in_ hb]; rfl
theorem Pkt.in_ {x : AV} (h : DWT s46 x) : (Pkt.of x).av = x := by
  obtain ⟨cs, rfl, _, _, rfl, ⟨_, rfl⟩, _, _, rfl, ⟨_, rfl⟩, _, _, rfl, ⟨xs, rfl, hx⟩, _, _, rfl, ⟨_, rfl⟩, a, _, rfl, ha, b, _, rfl, hb, c, _, rfl, hc, _, _, rfl, ⟨_, rfl⟩, d, _, rfl, hd, e, _, rfl, he, f, _, rfl, hf, h⟩ := h
  cases h
  show AV.agg [_, _, .fv s79 ((xs.map Tag.of).map Tag.av), _, (Arp.of a).av, (Ip4.of b).av, (Ip6.of c).av, _, (Icmp.of d).av, (Udp.of e).av, (Tcp.of f).av] = _
  rw [list_in (fun x => Tag.in_) hx, Arp.in_ ha, Ip4.in_ hb, Ip6.in_ hc, Icmp.in_ hd, Udp.in_ he, Tcp.in_ hf]; rfl
end Go.Proofs.YtlmnjnhmhacgkaaGreatDoor.Am
end
