/-
  The panicking functions' own equations (printed).
  The functions as they run; what they say holds of the program. Printed by a program (wip/tool/gensnd2.py).
-/
import Derived.Test.YtlmnjnhmhacgkaaGreatDoorPkB
import Derived.KernelRfl
import Derived.Test.YtlmnjnhmhacgkaaGreatDoorPkC
section
set_option linter.unusedVariables false
set_option maxRecDepth 100000
namespace Go.Proofs.YtlmnjnhmhacgkaaGreatDoor.Am
open Go Go.Am Go.Proofs

theorem eqp126 (n : Nat) (x0 : List Int) (x1 : Int) : runp126 n x0 x1 =
  jn
   (jn
    (brO (decide (x1 < 0))
     (inl (some [(.fs .u8 x0), (.int .i64 x1), (.bool true)]))
     (inl (some [(.fs .u8 x0), (.int .i64 x1), (.bool (decide (x1 ≥ (Int.ofNat (List.length x0)))))]))) fun d0 =>
   brO (AV.toBool (getE d0 2))
    (inr (some (Unit.unit)))
    (inl (some [(.fs .u8 (AV.toInts (getE d0 0))), (.int .i64 (AV.toInt (getE d0 1)))]))) fun d1 =>
  brO (inR (AV.toInt (getE d1 1)) (List.length (AV.toInts (getE d1 0))))
   (none)
   (none) := by kernel_rfl

theorem eqp122 (F126 : Fun) (n : Nat) (x0 : List Int) (x1 : Int) (x2 : Int) : runp122 F126 n x0 x1 x2 =
  jn
   (jn
    (brO (decide (x1 < 0))
     (inl (some [(.fs .u8 x0), (.int .i64 x1), (.int .i64 x2), (.bool true)]))
     (inl (some [(.fs .u8 x0), (.int .i64 x1), (.int .i64 x2), (.bool (decide (x1 > (Int.ofNat (List.length x0)))))]))) fun d0 =>
   brO (AV.toBool (getE d0 3))
    (inr (some (Unit.unit)))
    (inl (some [(.fs .u8 (AV.toInts (getE d0 0))), (.int .i64 (AV.toInt (getE d0 1))), (.int .i64 (AV.toInt (getE d0 2)))]))) fun d1 =>
  jn
   (iter (fun d2 k3 =>
    brO (decide ((AV.toInt (getE d2 4)) < (AV.toInt (getE d2 3))))
     (let v6 : Int := (IntKind.wrap .i64 ((AV.toInt (getE d2 1)) + (AV.toInt (getE d2 4))))
     brO ((decide (v6 < 0)) || (decide (v6 ≥ (Int.ofNat (List.length (AV.toInts (getE d2 0)))))))
      (inr (some (Unit.unit)))
      (((F126 n [(.fs .u8 (AV.toInts (getE d2 0))), (.int .i64 v6)])).bind fun r4 =>
      brO (Nat.beq (List.length r4) 1)
       ((k3 [(.fs .u8 (AV.toInts (getE d2 0))), (.int .i64 (AV.toInt (getE d2 1))), (.int .u64 (IntKind.wrap .u64 (Int.ofNat (BitVec.toNat ((BitVec.ofInt 64 (IntKind.wrap .u64 ((AV.toInt (getE d2 2)) * (Int.ofNat (2 ^ (Min.min (Int.toNat 8) (IntKind.bits .u64))))))) ||| (BitVec.ofInt 64 (IntKind.wrap .u64 (AV.toInt (getE r4 0))))))))), (.int .i64 (AV.toInt (getE d2 3))), (.int .i64 (IntKind.wrap .i64 ((AV.toInt (getE d2 4)) + 1)))]))
       (none)))
     (inl (some [(.int .u64 (AV.toInt (getE d2 2)))]))) n [(.fs .u8 (AV.toInts (getE d1 0))), (.int .i64 (AV.toInt (getE d1 1))), (.int .u64 0), (.int .i64 (AV.toInt (getE d1 2))), (.int .i64 0)]) fun d5 =>
  none := by kernel_rfl

theorem eqp125 (n : Nat) (x0 : List Int) (x1 : Int) (x2 : Int) : runp125 n x0 x1 x2 =
  jn
   (jn
    (brO (decide (x1 < 0))
     (inl (some [(.fs .u8 x0), (.int .i64 x1), (.int .i64 x2), (.bool true)]))
     (brO (decide (x1 > (Int.ofNat (List.length x0))))
      (inl (some [(.fs .u8 x0), (.int .i64 x1), (.int .i64 x2), (.bool true)]))
      (inl (let v2 : Int := (IntKind.wrap .i64 ((Int.ofNat (List.length x0)) - x1))
      some [(.fs .u8 x0), (.int .i64 x1), (.int .i64 x2), (.bool (decide (x2 > v2)))])))) fun d0 =>
   brO (AV.toBool (getE d0 3))
    (inr (some (Unit.unit)))
    (inl (some [(.fs .u8 (AV.toInts (getE d0 0))), (.int .i64 (AV.toInt (getE d0 1))), (.int .i64 (AV.toInt (getE d0 2)))]))) fun d1 =>
  let v3 : Int := (IntKind.wrap .i64 ((AV.toInt (getE d1 1)) + (AV.toInt (getE d1 2))))
  brO ((decide (0 ≤ (AV.toInt (getE d1 1)))) && ((decide ((AV.toInt (getE d1 1)) ≤ v3)) && ((decide (v3 ≤ v3)) && (decide (v3 ≤ (Int.ofNat (List.length (AV.toInts (getE d1 0)))))))))
   (none)
   (none) := by kernel_rfl

theorem eqp215 (F80 : Fun) (n : Nat) (x0 : List Int) (x1 : Int) : runp215 F80 n x0 x1 =
  ((F80 n [(.fs .u8 x0), (.int .i64 (IntKind.wrap .i64 (x1 + 1))), (.int .i64 1)])).bind fun r0 =>
  brO (Nat.beq (List.length r0) 2)
   (jn
    (jn
     (brO ((AV.toInt (getE r0 1)) != 0)
      (inl (some [(.int .u64 (AV.toInt (getE r0 0))), (.bool true)]))
      (inl (let v3 : Int := (IntKind.wrap .i64 ((IntKind.wrap .i64 (x1 + 2)) + (IntKind.wrap .i64 (AV.toInt (getE r0 0)))))
      some [(.int .u64 (AV.toInt (getE r0 0))), (.bool (decide (v3 > (Int.ofNat (List.length x0)))))]))) fun d1 =>
    brO (AV.toBool (getE d1 1))
     (inr (some (Unit.unit)))
     (inl (some [(.int .u64 (AV.toInt (getE d1 0)))]))) fun d2 =>
   none)
   (none) := by kernel_rfl


theorem brO_t {R : Type} {b : Bool} {x y : Option R} (h : b = true) : brO b x y = x := by rw [h]; rfl
theorem brO_f {R : Type} {b : Bool} {x y : Option R} (h : b = false) : brO b x y = y := by rw [h]; rfl
theorem jn_l {R : Type} {x : Option (Sum (List AV) R)} {d : List AV} {k : List AV → Option R} (h : x = some (.inl d)) : jn x k = k d := by rw [h]; rfl
theorem jn_r {R : Type} {x : Option (Sum (List AV) R)} {r : R} {k : List AV → Option R} (h : x = some (.inr r)) : jn x k = some r := by rw [h]; rfl

theorem W_id {x : Int} (h : -9223372036854775808 ≤ x) (h' : x < 9223372036854775808) : IntKind.wrap .i64 x = x := by
  show (if (true && decide (x % 18446744073709551616 ≥ 9223372036854775808)) = true then x % 18446744073709551616 - 18446744073709551616 else x % 18446744073709551616) = x
  by_cases hc : x % 18446744073709551616 ≥ 9223372036854775808
  · rw [if_pos (by simpa using hc)]
    omega
  · rw [if_neg (by simpa using hc)]
    omega
theorem W8 (x : Int) : IntKind.wrap .u8 x = x % 256 := by simp [IntKind.wrap, IntKind.signed, IntKind.bits]
theorem W16 (x : Int) : IntKind.wrap .u16 x = x % 65536 := by simp [IntKind.wrap, IntKind.signed, IntKind.bits]
theorem W32 (x : Int) : IntKind.wrap .u32 x = x % 4294967296 := by simp [IntKind.wrap, IntKind.signed, IntKind.bits]
theorem W64 (x : Int) : IntKind.wrap .u64 x = x % 18446744073709551616 := by simp [IntKind.wrap, IntKind.signed, IntKind.bits]
theorem wrap_id {x : Int} (h1 : 0 ≤ x) (h2 : x < 2 ^ 62) : IntKind.wrap .i64 x = x := W_id (by omega) (by omega)
theorem wrap_u {x : Int} (h1 : 0 ≤ x) (h2 : x < 2 ^ 64) : IntKind.wrap .u64 x = x := by rw [W64]; omega

theorem wt_fs {e : IntKind} {a : AV} (h : WT (.fs e) a) : ∃ l, a = .fs e l := h
theorem wt_int {e : IntKind} {a : AV} (h : WT (.int e) a) : ∃ l, a = .int e l := h

theorem wt2 {xs : List AV} (h : WTl [.fs .u8, .int .i64] xs) : ∃ x y, xs = [.fs .u8 x, .int .i64 y] := by
  obtain ⟨a, r, rfl, h1, b, r', rfl, h2, h3⟩ := h
  cases h3
  obtain ⟨x, rfl⟩ := wt_fs h1
  obtain ⟨y, rfl⟩ := wt_int h2
  exact ⟨x, y, rfl⟩
theorem wt3 {xs : List AV} (h : WTl [.fs .u8, .int .i64, .int .i64] xs) : ∃ x y z, xs = [.fs .u8 x, .int .i64 y, .int .i64 z] := by
  obtain ⟨a, r, rfl, h1, b, r', rfl, h2, c, r'', rfl, h3, h4⟩ := h
  cases h4
  obtain ⟨x, rfl⟩ := wt_fs h1
  obtain ⟨y, rfl⟩ := wt_int h2
  obtain ⟨z, rfl⟩ := wt_int h3
  exact ⟨x, y, z, rfl⟩

theorem rp126 (x : List Int) (y : Int) (h : B126 [.fs .u8 x, .int .i64 y] = true) : runp126 0 x y = some () := by
  rw [eqp126]
  unfold B126 at h
  have h : (decide (y < 0) || decide (y ≥ (x.length : Nat))) = true := h
  cases h1 : decide (y < 0) with
  | true => rfl
  | false =>
    rw [h1, Bool.false_or] at h
    show jn (jn (some (.inl [(.fs .u8 x), (.int .i64 y), (.bool (decide (y ≥ (Int.ofNat (List.length x)))))])) _) _ = _
    rw [show decide (y ≥ (Int.ofNat (List.length x))) = true from h]
    rfl
theorem sp126 : SoundPan Tryz.prog env 126 [.fs .u8, .int .i64] B126 :=
  soundPan (cal := cal126) (H := H126) (body := D126.body) (fun f c hf => by cases hf) mix Tryz.func126 rfl (by decide) rfl (fun C _ => OvOk.none (by intro id; rfl)) (fun C hC => pan126 C hC)
    (fun xs hB hw => by
      obtain ⟨x, y, rfl⟩ := wt2 hw
      exact ⟨0, rp126 x y hB⟩)

theorem rp125 (x : List Int) (y z : Int) (h : B125 [.fs .u8 x, .int .i64 y, .int .i64 z] = true) : runp125 0 x y z = some () := by
  rw [eqp125]
  unfold B125 at h
  have h : (decide (y < 0) || (decide (y > (x.length : Nat)) || decide (z > IntKind.i64.wrap ((x.length : Nat) - y)))) = true := h
  cases h1 : decide (y < 0) with
  | true => rfl
  | false =>
    rw [h1, Bool.false_or] at h
    cases h2 : decide (y > (x.length : Nat)) with
    | true =>
      rfl
    | false =>
      rw [h2, Bool.false_or] at h
      show jn (jn (some (.inl [(.fs .u8 x), (.int .i64 y), (.int .i64 z), (.bool (decide (z > IntKind.i64.wrap ((x.length : Nat) - y))))])) _) _ = _
      rw [h]
      rfl
theorem sp125 : SoundPan Tryz.prog env 125 [.fs .u8, .int .i64, .int .i64] B125 :=
  soundPan (cal := cal125) (H := H125) (body := D125.body) (fun f c hf => by cases hf) mix Tryz.func125 rfl (by decide) rfl (fun C _ => OvOk.none (by intro id; rfl)) (fun C hC => pan125 C hC)
    (fun xs hB hw => by
      obtain ⟨x, y, z, rfl⟩ := wt3 hw
      exact ⟨0, rp125 x y z hB⟩)
end Go.Proofs.YtlmnjnhmhacgkaaGreatDoor.Am
end

section
set_option linter.unusedVariables false
set_option maxRecDepth 100000
namespace Go.Proofs.YtlmnjnhmhacgkaaGreatDoor.Am
open Go Go.Am Go.Proofs

noncomputable def A77 : Fun := fun n xs => D77.run Tryz.prog env cal77 H77 n xs
theorem S77 : SoundCal Tryz.prog env 77 (mkCal D77 A77) := snd77
noncomputable def A79 : Fun := fun n xs => D79.run Tryz.prog env cal79 H79 n xs
theorem S79 : SoundCal Tryz.prog env 79 (mkCal D79 A79) := snd79
noncomputable def A63 : Fun := fun n xs => D63.run Tryz.prog env (cal63 A77 A79) H63 n xs
theorem S63 : SoundCal Tryz.prog env 63 (mkCal D63 A63) := snd63 _ _ S77 S79
noncomputable def A34 : Fun := fun n xs => D34.run Tryz.prog env cal34 H34 n xs
theorem S34 : SoundCal Tryz.prog env 34 (mkCal D34 A34) := snd34
noncomputable def A112 : Fun := fun n xs => D112.run Tryz.prog env cal112 H112 n xs
theorem S112 : SoundCal Tryz.prog env 112 (mkCal D112 A112) := snd112
noncomputable def A69 : Fun := fun n xs => D69.run Tryz.prog env (cal69 A112) H69 n xs
theorem S69 : SoundCal Tryz.prog env 69 (mkCal D69 A69) := snd69 _ S112
noncomputable def A70 : Fun := fun n xs => D70.run Tryz.prog env cal70 H70 n xs
theorem S70 : SoundCal Tryz.prog env 70 (mkCal D70 A70) := snd70
noncomputable def A35 : Fun := fun n xs => D35.run Tryz.prog env (cal35 A69 A70) H35 n xs
theorem S35 : SoundCal Tryz.prog env 35 (mkCal D35 A35) := snd35 _ _ S69 S70
noncomputable def A71 : Fun := fun n xs => D71.run Tryz.prog env cal71 H71 n xs
theorem S71 : SoundCal Tryz.prog env 71 (mkCal D71 A71) := snd71
noncomputable def A36 : Fun := fun n xs => D36.run Tryz.prog env (cal36 A70 A71) H36 n xs
theorem S36 : SoundCal Tryz.prog env 36 (mkCal D36 A36) := snd36 _ _ S70 S71
noncomputable def A37 : Fun := fun n xs => D37.run Tryz.prog env (cal37 A69 A70) H37 n xs
theorem S37 : SoundCal Tryz.prog env 37 (mkCal D37 A37) := snd37 _ _ S69 S70
noncomputable def A14 : Fun := fun n xs => D14.run Tryz.prog env (cal14 A34 A35 A36 A37) H14 n xs
theorem S14 : SoundCal Tryz.prog env 14 (mkCal D14 A14) := snd14 _ _ _ _ S34 S35 S36 S37
noncomputable def A55 : Fun := fun n xs => D55.run Tryz.prog env cal55 H55 n xs
theorem S55 : SoundCal Tryz.prog env 55 (mkCal D55 A55) := snd55
noncomputable def A56 : Fun := fun n xs => D56.run Tryz.prog env cal56 H56 n xs
theorem S56 : SoundCal Tryz.prog env 56 (mkCal D56 A56) := snd56
noncomputable def A94 : Fun := fun n xs => D94.run Tryz.prog env cal94 H94 n xs
theorem S94 : SoundCal Tryz.prog env 94 (mkCal D94 A94) := snd94
noncomputable def A57 : Fun := fun n xs => D57.run Tryz.prog env (cal57 A55 A94) H57 n xs
theorem S57 : SoundCal Tryz.prog env 57 (mkCal D57 A57) := snd57 _ _ S55 S94
noncomputable def A64 : Fun := fun n xs => D64.run Tryz.prog env (cal64 A14 A55 A56 A57) H64 n xs
theorem S64 : SoundCal Tryz.prog env 64 (mkCal D64 A64) := snd64 _ _ _ _ S14 S55 S56 S57
noncomputable def A184 : Fun := fun n xs => D184.run Tryz.prog env cal184 H184 n xs
theorem S184 : SoundCal Tryz.prog env 184 (mkCal D184 A184) := snd184
noncomputable def A139 : Fun := fun n xs => D139.run Tryz.prog env (cal139 A184) H139 n xs
theorem S139 : SoundCal Tryz.prog env 139 (mkCal D139 A139) := snd139 _ S184
noncomputable def A95 : Fun := fun n xs => D95.run Tryz.prog env (cal95 A139) H95 n xs
theorem S95 : SoundCal Tryz.prog env 95 (mkCal D95 A95) := snd95 _ S139
noncomputable def A96 : Fun := fun n xs => D96.run Tryz.prog env cal96 H96 n xs
theorem S96 : SoundCal Tryz.prog env 96 (mkCal D96 A96) := snd96
noncomputable def A135 : Fun := fun n xs => D135.run Tryz.prog env cal135 H135 n xs
theorem S135 : SoundCal Tryz.prog env 135 (mkCal D135 A135) := snd135
noncomputable def A123 : Fun := fun n xs => D123.run Tryz.prog env cal123 H123 n xs
theorem S123 : SoundCal Tryz.prog env 123 (mkCal D123 A123) := snd123
noncomputable def A136 : Fun := fun n xs => D136.run Tryz.prog env (cal136 A123) H136 n xs
theorem S136 : SoundCal Tryz.prog env 136 (mkCal D136 A136) := snd136 _ S123
noncomputable def A178 : Fun := fun n xs => D178.run Tryz.prog env cal178 H178 n xs
theorem S178 : SoundCal Tryz.prog env 178 (mkCal D178 A178) := snd178
noncomputable def A127 : Fun := fun n xs => D127.run Tryz.prog env (cal127 A178) H127 n xs
theorem S127 : SoundCal Tryz.prog env 127 (mkCal D127 A127) := snd127 _ S178
noncomputable def A137 : Fun := fun n xs => D137.run Tryz.prog env (cal137 A127) H137 n xs
theorem S137 : SoundCal Tryz.prog env 137 (mkCal D137 A137) := snd137 _ S127
noncomputable def A91 : Fun := fun n xs => D91.run Tryz.prog env (cal91 A95 A96 A135 A136 A137) H91 n xs
theorem S91 : SoundCal Tryz.prog env 91 (mkCal D91 A91) := snd91 _ _ _ _ _ S95 S96 S135 S136 S137
noncomputable def A97 : Fun := fun n xs => D97.run Tryz.prog env (cal97 A139) H97 n xs
theorem S97 : SoundCal Tryz.prog env 97 (mkCal D97 A97) := snd97 _ S139
noncomputable def A183 : Fun := fun n xs => D183.run Tryz.prog env cal183 H183 n xs
theorem S183 : SoundCal Tryz.prog env 183 (mkCal D183 A183) := snd183
noncomputable def A138 : Fun := fun n xs => D138.run Tryz.prog env (cal138 A183) H138 n xs
theorem S138 : SoundCal Tryz.prog env 138 (mkCal D138 A138) := snd138 _ S183
noncomputable def A92 : Fun := fun n xs => D92.run Tryz.prog env (cal92 A97 A136 A137 A138 A139) H92 n xs
theorem S92 : SoundCal Tryz.prog env 92 (mkCal D92 A92) := snd92 _ _ _ _ _ S97 S136 S137 S138 S139
noncomputable def A142 : Fun := fun n xs => D142.run Tryz.prog env cal142 H142 n xs
theorem S142 : SoundCal Tryz.prog env 142 (mkCal D142 A142) := snd142
noncomputable def A141 : Fun := fun n xs => D141.run Tryz.prog env (cal141 A142) H141 n xs
theorem S141 : SoundCal Tryz.prog env 141 (mkCal D141 A141) := snd141 _ S142
noncomputable def A140 : Fun := fun n xs => D140.run Tryz.prog env (cal140 A141 A183) H140 n xs
theorem S140 : SoundCal Tryz.prog env 140 (mkCal D140 A140) := snd140 _ _ S141 S183
noncomputable def A93 : Fun := fun n xs => D93.run Tryz.prog env (cal93 A97 A136 A137 A139 A140 A141) H93 n xs
theorem S93 : SoundCal Tryz.prog env 93 (mkCal D93 A93) := snd93 _ _ _ _ _ _ S97 S136 S137 S139 S140 S141
noncomputable def A53 : Fun := fun n xs => D53.run Tryz.prog env (cal53 A55 A56 A91 A92 A93) H53 n xs
theorem S53 : SoundCal Tryz.prog env 53 (mkCal D53 A53) := snd53 _ _ _ _ _ S55 S56 S91 S92 S93
noncomputable def A54 : Fun := fun n xs => D54.run Tryz.prog env cal54 H54 n xs
theorem S54 : SoundCal Tryz.prog env 54 (mkCal D54 A54) := snd54
noncomputable def A81 : Fun := fun n xs => D81.run Tryz.prog env cal81 H81 n xs
theorem S81 : SoundCal Tryz.prog env 81 (mkCal D81 A81) := snd81
noncomputable def A82 : Fun := fun n xs => D82.run Tryz.prog env (cal82 A77) H82 n xs
theorem S82 : SoundCal Tryz.prog env 82 (mkCal D82 A82) := snd82 _ S77
noncomputable def A111 : Fun := fun n xs => rowRun Tryz.prog env cal111 H111 (Tryz.f111.body.getD .skip) 13 4 5 .u8 n xs
theorem S111 : SoundCal Tryz.prog env 111 (rowCal A111 5 .u8 31) := snd111
noncomputable def A106 : Fun := fun n xs => D106.run Tryz.prog env (cal106 A81 A82 A111) H106 n xs
theorem S106 : SoundCal Tryz.prog env 106 (mkCal D106 A106) := snd106 _ _ _ S81 S82 S111
noncomputable def A86 : Fun := fun n xs => D86.run Tryz.prog env cal86 H86 n xs
theorem S86 : SoundCal Tryz.prog env 86 (mkCal D86 A86) := snd86
noncomputable def A157 : Fun := fun n xs => D157.run Tryz.prog env cal157 H157 n xs
theorem S157 : SoundCal Tryz.prog env 157 (mkCal D157 A157) := snd157
noncomputable def A202 : Fun := fun n xs => D202.run Tryz.prog env cal202 H202 n xs
theorem S202 : SoundCal Tryz.prog env 202 (mkCal D202 A202) := snd202
noncomputable def A203 : Fun := fun n xs => D203.run Tryz.prog env cal203 H203 n xs
theorem S203 : SoundCal Tryz.prog env 203 (mkCal D203 A203) := snd203
noncomputable def A155 : Fun := fun n xs => D155.run Tryz.prog env (cal155 A86 A157 A202 A203) H155 n xs
theorem S155 : SoundCal Tryz.prog env 155 (mkCal D155 A155) := snd155 _ _ _ _ S86 S157 S202 S203
noncomputable def A269 : Fun := fun n xs => D269.run Tryz.prog env cal269 H269 n xs
theorem S269 : SoundCal Tryz.prog env 269 (mkCal D269 A269) := snd269
noncomputable def A244 : Fun := fun n xs => D244.run Tryz.prog env (cal244 A269) H244 n xs
theorem S244 : SoundCal Tryz.prog env 244 (mkCal D244 A244) := snd244 _ S269
noncomputable def A204 : Fun := fun n xs => D204.run Tryz.prog env (cal204 A244) H204 n xs
theorem S204 : SoundCal Tryz.prog env 204 (mkCal D204 A204) := snd204 _ S244
noncomputable def A130 : Fun := fun n xs => D130.run Tryz.prog env cal130 H130 n xs
theorem S130 : SoundCal Tryz.prog env 130 (mkCal D130 A130) := snd130
noncomputable def A285 : Fun := fun n xs => rowRun Tryz.prog env cal285 H285 (Tryz.f285.body.getD .skip) 28 4 5 .u8 n xs
theorem S285 : SoundCal Tryz.prog env 285 (rowCal A285 5 .u8 31) := snd285
noncomputable def A270 : Fun := fun n xs => D270.run Tryz.prog env (cal270 A285) H270 n xs
theorem S270 : SoundCal Tryz.prog env 270 (mkCal D270 A270) := snd270 _ S285
noncomputable def A245 : Fun := fun n xs => D245.run Tryz.prog env (cal245 A130 A270) H245 n xs
theorem S245 : SoundCal Tryz.prog env 245 (mkCal D245 A245) := snd245 _ _ S130 S270
noncomputable def A205 : Fun := fun n xs => D205.run Tryz.prog env (cal205 A245) H205 n xs
theorem S205 : SoundCal Tryz.prog env 205 (mkCal D205 A205) := snd205 _ S245
noncomputable def A180 : Fun := fun n xs => D180.run Tryz.prog env cal180 H180 n xs
theorem S180 : SoundCal Tryz.prog env 180 (mkCal D180 A180) := snd180
noncomputable def A206 : Fun := fun n xs => D206.run Tryz.prog env (cal206 A130 A180) H206 n xs
theorem S206 : SoundCal Tryz.prog env 206 (mkCal D206 A206) := snd206 _ _ S130 S180
noncomputable def A207 : Fun := fun n xs => D207.run Tryz.prog env cal207 H207 n xs
theorem S207 : SoundCal Tryz.prog env 207 (mkCal D207 A207) := snd207
noncomputable def A159 : Fun := fun n xs => D159.run Tryz.prog env (cal159 A136 A204 A205 A206 A207) H159 n xs
theorem S159 : SoundCal Tryz.prog env 159 (mkCal D159 A159) := snd159 _ _ _ _ _ S136 S204 S205 S206 S207
noncomputable def A156 : Fun := fun n xs => D156.run Tryz.prog env (cal156 A159) H156 n xs
theorem S156 : SoundCal Tryz.prog env 156 (mkCal D156 A156) := snd156 _ S159
noncomputable def A107 : Fun := fun n xs => D107.run Tryz.prog env (cal107 A155 A156) H107 n xs
theorem S107 : SoundCal Tryz.prog env 107 (mkCal D107 A107) := snd107 _ _ S155 S156
noncomputable def A108 : Fun := fun n xs => D108.run Tryz.prog env (cal108 A55 A135 A138 A140) H108 n xs
theorem S108 : SoundCal Tryz.prog env 108 (mkCal D108 A108) := snd108 _ _ _ _ S55 S135 S138 S140
noncomputable def A158 : Fun := fun n xs => D158.run Tryz.prog env cal158 H158 n xs
theorem S158 : SoundCal Tryz.prog env 158 (mkCal D158 A158) := snd158
noncomputable def A109 : Fun := fun n xs => D109.run Tryz.prog env (cal109 A136 A137 A155 A157 A158) H109 n xs
theorem S109 : SoundCal Tryz.prog env 109 (mkCal D109 A109) := snd109 _ _ _ _ _ S136 S137 S155 S157 S158
noncomputable def A110 : Fun := fun n xs => D110.run Tryz.prog env (cal110 A159) H110 n xs
theorem S110 : SoundCal Tryz.prog env 110 (mkCal D110 A110) := snd110 _ S159
noncomputable def A65 : Fun := fun n xs => D65.run Tryz.prog env (cal65 A53 A54 A106 A107 A108 A109 A110) H65 n xs
theorem S65 : SoundCal Tryz.prog env 65 (mkCal D65 A65) := snd65 _ _ _ _ _ _ _ S53 S54 S106 S107 S108 S109 S110
noncomputable def A66 : Fun := fun n xs => D66.run Tryz.prog env cal66 H66 n xs
theorem S66 : SoundCal Tryz.prog env 66 (mkCal D66 A66) := snd66
noncomputable def A68 : Fun := fun n xs => D68.run Tryz.prog env cal68 H68 n xs
theorem S68 : SoundCal Tryz.prog env 68 (mkCal D68 A68) := snd68
noncomputable def A67 : Fun := fun n xs => D67.run Tryz.prog env (cal67 A63 A68 A111) H67 n xs
theorem S67 : SoundCal Tryz.prog env 67 (mkCal D67 A67) := snd67 _ _ _ S63 S68 S111
noncomputable def A32 : Fun := fun n xs => D32.run Tryz.prog env (cal32 A63 A64 A65 A66 A67) H32 n xs
theorem S32 : SoundCal Tryz.prog env 32 (mkCal D32 A32) := snd32 _ _ _ _ _ S63 S64 S65 S66 S67
noncomputable def A33 : Fun := fun n xs => D33.run Tryz.prog env (cal33 A68) H33 n xs
theorem S33 : SoundCal Tryz.prog env 33 (mkCal D33 A33) := snd33 _ S68
noncomputable def A13 : Fun := fun n xs => D13.run Tryz.prog env (cal13 A32 A33) H13 n xs
theorem S13 : SoundCal Tryz.prog env 13 (mkCal D13 A13) := snd13 _ _ S32 S33
noncomputable def A38 : Fun := fun n xs => D38.run Tryz.prog env cal38 H38 n xs
theorem S38 : SoundCal Tryz.prog env 38 (mkCal D38 A38) := snd38
noncomputable def A74 : Fun := fun n xs => D74.run Tryz.prog env cal74 H74 n xs
theorem S74 : SoundCal Tryz.prog env 74 (mkCal D74 A74) := snd74
noncomputable def A73 : Fun := fun n xs => D73.run Tryz.prog env (cal73 A74) H73 n xs
theorem S73 : SoundCal Tryz.prog env 73 (mkCal D73 A73) := snd73 _ S74
noncomputable def A39 : Fun := fun n xs => D39.run Tryz.prog env (cal39 A73 A74) H39 n xs
theorem S39 : SoundCal Tryz.prog env 39 (mkCal D39 A39) := snd39 _ _ S73 S74
noncomputable def A18 : Fun := fun n xs => D18.run Tryz.prog env cal18 H18 n xs
theorem S18 : SoundCal Tryz.prog env 18 (mkCal D18 A18) := snd18
noncomputable def A114 : Fun := fun n xs => D114.run Tryz.prog env (cal114 A18) H114 n xs
theorem S114 : SoundCal Tryz.prog env 114 (mkCal D114 A114) := snd114 _ S18
noncomputable def A75 : Fun := fun n xs => D75.run Tryz.prog env (cal75 A18 A114) H75 n xs
theorem S75 : SoundCal Tryz.prog env 75 (mkCal D75 A75) := snd75 _ _ S18 S114
noncomputable def A40 : Fun := fun n xs => D40.run Tryz.prog env (cal40 A18 A75) H40 n xs
theorem S40 : SoundCal Tryz.prog env 40 (mkCal D40 A40) := snd40 _ _ S18 S75
noncomputable def A41 : Fun := fun n xs => D41.run Tryz.prog env cal41 H41 n xs
theorem S41 : SoundCal Tryz.prog env 41 (mkCal D41 A41) := snd41
noncomputable def A42 : Fun := fun n xs => D42.run Tryz.prog env (cal42 A74) H42 n xs
theorem S42 : SoundCal Tryz.prog env 42 (mkCal D42 A42) := snd42 _ S74
noncomputable def A43 : Fun := fun n xs => D43.run Tryz.prog env (cal43 A73 A74) H43 n xs
theorem S43 : SoundCal Tryz.prog env 43 (mkCal D43 A43) := snd43 _ _ S73 S74
noncomputable def A15 : Fun := fun n xs => D15.run Tryz.prog env (cal15 A38 A39 A40 A41 A42 A43) H15 n xs
theorem S15 : SoundCal Tryz.prog env 15 (mkCal D15 A15) := snd15 _ _ _ _ _ _ S38 S39 S40 S41 S42 S43
noncomputable def A17 : Fun := fun n xs => D17.run Tryz.prog env cal17 H17 n xs
theorem S17 : SoundCal Tryz.prog env 17 (mkCal D17 A17) := snd17
noncomputable def A125 : Fun := fun n xs => D125.run Tryz.prog env cal125 H125 n xs
theorem S125 : SoundCal Tryz.prog env 125 (mkCal D125 A125) := snd125
noncomputable def A126 : Fun := fun n xs => D126.run Tryz.prog env cal126 H126 n xs
theorem S126 : SoundCal Tryz.prog env 126 (mkCal D126 A126) := snd126

theorem a126 (n : Nat) (x : List Int) (y : Int) (h1 : 0 ≤ y) (h2 : y < x.length) : A126 n [.fs .u8 x, .int .i64 y] = some [.int .u8 (getI x y.toNat)] := by
  show run126 n x y = _
  rw [eq126]
  have e1 : decide (y < 0) = false := by simp; omega
  have e2 : decide (y ≥ (Int.ofNat (List.length x))) = false := by simp; omega
  rw [e1]
  show jn (jn (some (.inl [(.fs .u8 x), (.int .i64 y), (.bool (decide (y ≥ (Int.ofNat (List.length x)))))])) _) _ = _
  rw [e2]
  show brO (inR y x.length) _ _ = _
  have e3 : inR y x.length = true := by unfold inR; simp; omega
  rw [e3]
  rfl

/-- The round of part's walk, as far as it matters here. -/
noncomputable def panG (n : Nat) (d2 : List AV) (k3 : List AV → Option (Sum (List AV) Unit)) : Option (Sum (List AV) Unit) :=
    brO (decide ((AV.toInt (getE d2 4)) < (AV.toInt (getE d2 3))))
     (let v6 : Int := (IntKind.wrap .i64 ((AV.toInt (getE d2 1)) + (AV.toInt (getE d2 4))))
     brO ((decide (v6 < 0)) || (decide (v6 ≥ (Int.ofNat (List.length (AV.toInts (getE d2 0)))))))
      (inr (some (Unit.unit)))
      (((A126 n [(.fs .u8 (AV.toInts (getE d2 0))), (.int .i64 v6)])).bind fun r4 =>
      brO (Nat.beq (List.length r4) 1)
       ((k3 [(.fs .u8 (AV.toInts (getE d2 0))), (.int .i64 (AV.toInt (getE d2 1))), (.int .u64 (IntKind.wrap .u64 (Int.ofNat (BitVec.toNat ((BitVec.ofInt 64 (IntKind.wrap .u64 ((AV.toInt (getE d2 2)) * (Int.ofNat (2 ^ (Min.min (Int.toNat 8) (IntKind.bits .u64))))))) ||| (BitVec.ofInt 64 (IntKind.wrap .u64 (AV.toInt (getE r4 0))))))))), (.int .i64 (AV.toInt (getE d2 3))), (.int .i64 (IntKind.wrap .i64 ((AV.toInt (getE d2 4)) + 1)))]))
       (none)))
     (inl (some [(.int .u64 (AV.toInt (getE d2 2)))]))

theorem panG_go (n : Nat) (x : List Int) (y z : Int) (hl : (x.length : Int) ≤ 2 ^ 47) (hy : 0 ≤ y) (hz : z ≤ 8) (hp : y + z > x.length) : ∀ (m : Nat) (i c : Int), 0 ≤ i → y + i ≤ x.length → (z - i).toNat ≤ m →
    iter (panG n) (m + 1) [(.fs .u8 x), (.int .i64 y), (.int .u64 c), (.int .i64 z), (.int .i64 i)] = some (.inr ()) := by
  intro m
  induction m with
  | zero => intro i c h1 h2 h3; omega
  | succ m ih =>
    intro i c h1 h2 h3
    show brO (decide (i < z)) (brO ((decide (IntKind.wrap .i64 (y + i) < 0)) || (decide (IntKind.wrap .i64 (y + i) ≥ (Int.ofNat (List.length x))))) _ _) _ = _
    rw [brO_t (b := decide (i < z)) (by simp; omega), wrap_id (by omega) (by omega)]
    by_cases hq : y + i = x.length
    · rw [brO_t (by simp; omega)]; rfl
    · rw [brO_f (by simp; omega)]
      show Option.bind (A126 n [.fs .u8 x, .int .i64 (IntKind.wrap .i64 (y + i))]) _ = _
      rw [wrap_id (x := y + i) (by omega) (by omega), a126 n x (y + i) (by omega) (by omega)]
      show iter (panG n) (m + 1) [(.fs .u8 x), (.int .i64 y), (.int .u64 _), (.int .i64 z), (.int .i64 (IntKind.wrap .i64 (i + 1)))] = _
      rw [wrap_id (x := i + 1) (by omega) (by omega)]
      exact ih (i + 1) _ (by omega) (by omega) (by omega)

theorem rp122 (x : List Int) (y z : Int) (h : B122 [.fs .u8 x, .int .i64 y, .int .i64 z] = true) : runp122 A126 9 x y z = some () := by
  rw [eqp122]
  unfold B122 at h
  have h : (decide (x.length ≤ 2 ^ 47) && (decide (y < 0) || (decide (y > (x.length : Nat)) || (decide (0 < z) && (decide (z ≤ 8) && decide (y + z > (x.length : Nat))))))) = true := h
  rw [Bool.and_eq_true] at h
  have hl : x.length ≤ 2 ^ 47 := of_decide_eq_true h.1
  replace h := h.2
  cases h1 : decide (y < 0) with
  | true => rfl
  | false =>
    rw [h1, Bool.false_or] at h
    show jn (jn (some (.inl [(.fs .u8 x), (.int .i64 y), (.int .i64 z), (.bool (decide (y > (Int.ofNat (List.length x)))))])) _) _ = _
    cases h2 : decide (y > (x.length : Nat)) with
    | true =>
      rfl
    | false =>
      rw [h2, Bool.false_or] at h
      simp only [Bool.and_eq_true, decide_eq_true_eq, decide_eq_false_iff_not] at h h1 h2
      show jn (iter (panG 9) (8 + 1) [(.fs .u8 x), (.int .i64 y), (.int .u64 0), (.int .i64 z), (.int .i64 0)]) _ = _
      rw [panG_go 9 x y z (by omega) (by omega) (by omega) (by omega) 8 0 0 (by omega) (by omega) (by omega)]
      rfl
theorem sp122 : SoundPan Tryz.prog env 122 [.fs .u8, .int .i64, .int .i64] B122 :=
  soundPan (cal := cal122 A126) (H := H122) (body := D122.body) (fun f c hf => by
    unfold cal122 at hf
    split at hf
    · cases hf; exact S126
    · cases hf) mix Tryz.func122 rfl (by decide) rfl (fun C _ => OvOk.none (by intro id; rfl)) (fun C hC => pan122 sp126 C hC)
    (fun xs hB hw => by
      obtain ⟨x, y, z, rfl⟩ := wt3 hw
      exact ⟨9, rp122 x y z hB⟩)

noncomputable def A83 : Fun := fun n xs => D83.runR Tryz.prog env (cal83 A123 A125 A126) H83 (cloX (Tryz.f124.body.getD .skip)) 5 [6, 7, 8] n xs
theorem S83 : SoundCal Tryz.prog env 83 (mkCal D83 A83) := snd83 _ _ _ S123 S125 S126 sp125 sp126
noncomputable def A84 : Fun := fun n xs => D84.run Tryz.prog env (cal84 A127) H84 n xs
theorem S84 : SoundCal Tryz.prog env 84 (mkCal D84 A84) := snd84 _ S127
noncomputable def A58 : Fun := fun n xs => D58.run Tryz.prog env (cal58 A83 A84 A95 A96) H58 n xs
theorem S58 : SoundCal Tryz.prog env 58 (mkCal D58 A58) := snd58 _ _ _ _ S83 S84 S95 S96
noncomputable def A98 : Fun := fun n xs => D98.run Tryz.prog env (cal98 A84 A139) H98 n xs
theorem S98 : SoundCal Tryz.prog env 98 (mkCal D98 A98) := snd98 _ _ S84 S139
noncomputable def A59 : Fun := fun n xs => D59.run Tryz.prog env (cal59 A83 A97 A98) H59 n xs
theorem S59 : SoundCal Tryz.prog env 59 (mkCal D59 A59) := snd59 _ _ _ S83 S97 S98
noncomputable def A99 : Fun := fun n xs => D99.run Tryz.prog env (cal99 A142) H99 n xs
theorem S99 : SoundCal Tryz.prog env 99 (mkCal D99 A99) := snd99 _ S142
noncomputable def A60 : Fun := fun n xs => D60.run Tryz.prog env (cal60 A83 A97 A98 A99) H60 n xs
theorem S60 : SoundCal Tryz.prog env 60 (mkCal D60 A60) := snd60 _ _ _ _ S83 S97 S98 S99
noncomputable def A26 : Fun := fun n xs => D26.run Tryz.prog env (cal26 A54 A55 A56 A57 A58 A59 A60) H26 n xs
theorem S26 : SoundCal Tryz.prog env 26 (mkCal D26 A26) := snd26 _ _ _ _ _ _ _ S54 S55 S56 S57 S58 S59 S60
noncomputable def A78 : Fun := fun n xs => D78.run Tryz.prog env cal78 H78 n xs
theorem S78 : SoundCal Tryz.prog env 78 (mkCal D78 A78) := snd78
noncomputable def A49 : Fun := fun n xs => D49.run Tryz.prog env (cal49 A77 A78 A79) H49 n xs
theorem S49 : SoundCal Tryz.prog env 49 (mkCal D49 A49) := snd49 _ _ _ S77 S78 S79
noncomputable def A120 : Fun := fun n xs => D120.run Tryz.prog env cal120 H120 n xs
theorem S120 : SoundCal Tryz.prog env 120 (mkCal D120 A120) := snd120
noncomputable def A122 : Fun := fun n xs => D122.run Tryz.prog env (cal122 A126) H122 n xs
theorem S122 : SoundCal Tryz.prog env 122 (mkCal D122 A122) := snd122 _ S126 sp126
noncomputable def A80 : Fun := fun n xs => D80.runR Tryz.prog env (cal80 A120 A122) H80 (cloX (Tryz.f121.body.getD .skip)) 4 [6, 7] n xs
theorem S80 : SoundCal Tryz.prog env 80 (mkCal D80 A80) := snd80 _ _ S120 S122 sp122
noncomputable def A50 : Fun := fun n xs => D50.run Tryz.prog env (cal50 A80 A81 A82) H50 n xs
theorem S50 : SoundCal Tryz.prog env 50 (mkCal D50 A50) := snd50 _ _ _ S80 S81 S82
noncomputable def A85 : Fun := fun n xs => D85.run Tryz.prog env cal85 H85 n xs
theorem S85 : SoundCal Tryz.prog env 85 (mkCal D85 A85) := snd85
noncomputable def A87 : Fun := fun n xs => D87.run Tryz.prog env cal87 H87 n xs
theorem S87 : SoundCal Tryz.prog env 87 (mkCal D87 A87) := snd87
noncomputable def A88 : Fun := fun n xs => D88.run Tryz.prog env cal88 H88 n xs
theorem S88 : SoundCal Tryz.prog env 88 (mkCal D88 A88) := snd88
noncomputable def A51 : Fun := fun n xs => D51.run Tryz.prog env (cal51 A83 A84 A85 A86 A87 A88) H51 n xs
theorem S51 : SoundCal Tryz.prog env 51 (mkCal D51 A51) := snd51 _ _ _ _ _ _ S83 S84 S85 S86 S87 S88
noncomputable def A128 : Fun := fun n xs => D128.runR Tryz.prog env (cal128 A125) H128 (cloX (Tryz.f179.body.getD .skip)) 4 [6, 7] n xs
theorem S128 : SoundCal Tryz.prog env 128 (mkCal D128 A128) := snd128 _ S125 sp125
noncomputable def A89 : Fun := fun n xs => D89.run Tryz.prog env (cal89 A83 A128) H89 n xs
theorem S89 : SoundCal Tryz.prog env 89 (mkCal D89 A89) := snd89 _ _ S83 S128
noncomputable def A129 : Fun := fun n xs => D129.run Tryz.prog env cal129 H129 n xs
theorem S129 : SoundCal Tryz.prog env 129 (mkCal D129 A129) := snd129
noncomputable def A133 : Fun := fun n xs => D133.run Tryz.prog env (cal133 A128) H133 n xs
theorem S133 : SoundCal Tryz.prog env 133 (mkCal D133 A133) := snd133 _ S128
noncomputable def A134 : Fun := fun n xs => D134.run Tryz.prog env cal134 H134 n xs
theorem S134 : SoundCal Tryz.prog env 134 (mkCal D134 A134) := snd134
noncomputable def A131 : Fun := fun n xs => D131.run Tryz.prog env (cal131 A83 A133 A134 A180) H131 n xs
theorem S131 : SoundCal Tryz.prog env 131 (mkCal D131 A131) := snd131 _ _ _ _ S83 S133 S134 S180
noncomputable def A181 : Fun := fun n xs => D181.run Tryz.prog env (cal181 A80) H181 n xs
theorem S181 : SoundCal Tryz.prog env 181 (mkCal D181 A181) := snd181 _ S80
noncomputable def A215 : Fun := fun n xs => D215.run Tryz.prog env (cal215 A80) H215 n xs
theorem S215 : SoundCal Tryz.prog env 215 (mkCal D215 A215) := snd215 _ S80

theorem a120 (n : Nat) : A120 n [.int .i64 1] = some [.bool true] := rfl
theorem or8 (g : Int) (h1 : 0 ≤ g) (h2 : g < 256) : IntKind.wrap .u64 (Int.ofNat (BitVec.toNat ((BitVec.ofInt 64 (IntKind.wrap .u64 (0 * (Int.ofNat (2 ^ (Min.min (Int.toNat 8) (IntKind.bits .u64))))))) ||| (BitVec.ofInt 64 (IntKind.wrap .u64 g))))) = g := by
  rw [wrap_u h1 (by omega)]
  have : BitVec.ofInt 64 (IntKind.wrap .u64 (0 * (Int.ofNat (2 ^ (Min.min (Int.toNat 8) (IntKind.bits .u64)))))) = 0#64 := by decide
  rw [this, BitVec.zero_or, BitVec.toNat_ofInt]
  have e : Int.ofNat (g % (2 ^ 64 : Nat)).toNat = g := by
    simp
    omega
  rw [e]
  exact wrap_u h1 (by omega)

theorem a122_1 (n : Nat) (x : List Int) (y : Int) (h1 : 0 ≤ y) (h2 : y < x.length) (hl : x.length ≤ 2 ^ 47) (h3 : 0 ≤ getI x y.toNat) (h4 : getI x y.toNat < 256) : A122 (n + 2) [.fs .u8 x, .int .i64 y, .int .i64 1] = some [.int .u64 (getI x y.toNat)] := by
  show run122 A126 (n + 2) x y 1 = _
  rw [eq122]
  rw [show decide (y < 0) = false by simp; omega]
  show jn (jn (some (.inl [(.fs .u8 x), (.int .i64 y), (.int .i64 1), (.bool (decide (y > (Int.ofNat (List.length x)))))])) _) _ = _
  rw [show decide (y > (Int.ofNat (List.length x))) = false by simp; omega]
  show jn (brO ((decide (IntKind.wrap .i64 (y + 0) < 0)) || (decide (IntKind.wrap .i64 (y + 0) ≥ (Int.ofNat (List.length x))))) _ _) _ = _
  rw [show y + 0 = y by omega, wrap_id h1 (by omega)]
  rw [brO_f (by simp; omega)]
  show jn (Option.bind (A126 (n + 2) [.fs .u8 x, .int .i64 (IntKind.wrap .i64 (y + 0))]) _) _ = _
  rw [show y + 0 = y by omega, wrap_id h1 (by omega), a126 (n + 2) x y h1 h2]
  show some [AV.int .u64 (IntKind.wrap .u64 (Int.ofNat (BitVec.toNat ((BitVec.ofInt 64 (IntKind.wrap .u64 (0 * (Int.ofNat (2 ^ (Min.min (Int.toNat 8) (IntKind.bits .u64))))))) ||| (BitVec.ofInt 64 (IntKind.wrap .u64 (getI x y.toNat)))))))] = _
  rw [or8 _ h3 h4]

theorem a80_1 (n : Nat) (x : List Int) (y : Int) (h1 : 0 ≤ y) (h2 : y < x.length) (hl : x.length ≤ 2 ^ 47) (h3 : 0 ≤ getI x y.toNat) (h4 : getI x y.toNat < 256) : A80 (n + 2) [.fs .u8 x, .int .i64 y, .int .i64 1] = some [.int .u64 (getI x y.toNat), .int .i64 0] := by
  show run80 A120 A122 (n + 2) x y 1 = _
  rw [eq80, a120]
  show brO (decide (x.length ≤ 2 ^ 47) && (decide (y < 0) || (decide (y > (x.length : Nat)) || (decide ((0 : Int) < 1) && (decide ((1 : Int) ≤ 8) && decide (y + 1 > (x.length : Nat))))))) _ _ = _
  rw [brO_f (by simp; omega), a122_1 n x y h1 h2 hl h3 h4]
  rfl
theorem a80_err (n : Nat) (x : List Int) (y : Int) (h2 : y ≥ x.length) (hl : x.length ≤ 2 ^ 47) : ∃ v e, A80 n [.fs .u8 x, .int .i64 y, .int .i64 1] = some [.int .u64 v, .int .i64 e] ∧ e ≠ 0 := by
  have h : A80 n [.fs .u8 x, .int .i64 y, .int .i64 1] = _ := eq80 A120 A122 n x y 1
  rw [a120] at h
  have h' : A80 n [.fs .u8 x, .int .i64 y, .int .i64 1] = brO (decide (x.length ≤ 2 ^ 47) && (decide (y < 0) || (decide (y > (x.length : Nat)) || (decide ((0 : Int) < 1) && (decide ((1 : Int) ≤ 8) && decide (y + 1 > (x.length : Nat))))))) _ _ := h
  rw [brO_t (by simp; omega)] at h'
  exact ⟨_, _, h', by decide⟩

theorem rp215 (x : List Int) (y : Int) (h : B215 [.fs .u8 x, .int .i64 y] = true) : runp215 A80 2 x y = some () := by
  rw [eqp215]
  unfold B215 at h
  have h : (decide (x.length ≤ 2 ^ 47) && (decide (0 ≤ y) && (decide (y ≤ 2 ^ 47) && (decide (y + 1 ≥ (x.length : Int)) || (decide (0 ≤ getI x (y + 1).toNat) && (decide (getI x (y + 1).toNat < 256) && decide (y + 2 + getI x (y + 1).toNat > (x.length : Int)))))))) = true := h
  simp only [Bool.and_eq_true, Bool.or_eq_true, decide_eq_true_eq] at h
  obtain ⟨hl, h1, hz, h⟩ := h
  rw [wrap_id (x := y + 1) (by omega) (by omega), wrap_id (x := y + 2) (by omega) (by omega)]
  by_cases hq : y + 1 ≥ x.length
  · obtain ⟨v, e, h2, h3⟩ := a80_err 2 x (y + 1) hq hl
    rw [h2]
    show jn (jn (brO (e != 0) _ _) _) _ = _
    rw [brO_t (by simpa using h3)]
    rfl
  · obtain ⟨h2, h3, h4⟩ := h.resolve_left hq
    rw [a80_1 0 x (y + 1) (by omega) (by omega) hl h2 h3]
    show jn (jn (some (.inl [(.int .u64 (getI x (y + 1).toNat)), (.bool (decide (IntKind.wrap .i64 (y + 2 + IntKind.wrap .i64 (getI x (y + 1).toNat)) > (Int.ofNat (List.length x)))))])) _) _ = _
    rw [wrap_id h2 (by omega), wrap_id (by omega) (by omega), show decide (y + 2 + getI x (y + 1).toNat > Int.ofNat (List.length x)) = true by simp; omega]
    rfl
theorem sp215 : SoundPan Tryz.prog env 215 [.fs .u8, .int .i64] B215 :=
  soundPan (cal := cal215 A80) (H := H215) (body := D215.body) (fun f c hf => by
    unfold cal215 at hf
    split at hf
    · cases hf; exact S80
    · cases hf) mix Tryz.func215 rfl (by decide) rfl (fun C _ => OvOk.none (by intro id; rfl)) (fun C hC => pan215 C hC)
    (fun xs hB hw => by
      obtain ⟨x, y, rfl⟩ := wt2 hw
      exact ⟨2, rp215 x y hB⟩)

noncomputable def A182 : Fun := fun n xs => D182.runR Tryz.prog env (cal182 A128 A215) H182 (cloX (Tryz.f213.body.getD .skip)) 4 [2, 3] n xs
theorem S182 : SoundCal Tryz.prog env 182 (mkCal D182 A182) := snd182 _ _ S128 S215 sp215
noncomputable def A90 : Fun := fun n xs => D90.run Tryz.prog env (cal90 A129 A130 A131 A133 A134) (H90 A130 A133 A134 A181 A182) n xs
theorem S90 : SoundCal Tryz.prog env 90 (mkCal D90 A90) := snd90 _ _ _ _ _ _ _ S129 S130 S131 S133 S134 S181 S182
noncomputable def A52 : Fun := fun n xs => D52.run Tryz.prog env (cal52 A89 A90) H52 n xs
theorem S52 : SoundCal Tryz.prog env 52 (mkCal D52 A52) := snd52 _ _ S89 S90
noncomputable def A23 : Fun := fun n xs => D23.run Tryz.prog env (cal23 A26 A49 A50 A51 A52) H23 n xs
theorem S23 : SoundCal Tryz.prog env 23 (mkCal D23 A23) := snd23 _ _ _ _ _ S26 S49 S50 S51 S52
noncomputable def A30 : Fun := fun n xs => D30.run Tryz.prog env cal30 H30 n xs
theorem S30 : SoundCal Tryz.prog env 30 (mkCal D30 A30) := snd30
noncomputable def A44 : Fun := fun n xs => D44.run Tryz.prog env cal44 H44 n xs
theorem S44 : SoundCal Tryz.prog env 44 (mkCal D44 A44) := snd44
noncomputable def A76 : Fun := fun n xs => D76.run Tryz.prog env cal76 H76 n xs
theorem S76 : SoundCal Tryz.prog env 76 (mkCal D76 A76) := snd76
noncomputable def A45 : Fun := fun n xs => D45.run Tryz.prog env (cal45 A17 A76) H45 n xs
theorem S45 : SoundCal Tryz.prog env 45 (mkCal D45 A45) := snd45 _ _ S17 S76
noncomputable def A16 : Fun := fun n xs => D16.run Tryz.prog env (cal16 A13 A15 A17 A18 A23 A30 A44 A45) H16 n xs
theorem S16 : SoundCal Tryz.prog env 16 (mkCal D16 A16) := snd16 _ _ _ _ _ _ _ _ S13 S15 S17 S18 S23 S30 S44 S45
noncomputable def A3 : Fun := fun n xs => D3.run Tryz.prog env (cal3 A13 A14 A15 A16 A17 A18) H3 n xs
theorem S3 : SoundCal Tryz.prog env 3 (mkCal D3 A3) := snd3 _ _ _ _ _ _ S13 S14 S15 S16 S17 S18
noncomputable def A19 : Fun := fun n xs => D19.run Tryz.prog env cal19 H19 n xs
theorem S19 : SoundCal Tryz.prog env 19 (mkCal D19 A19) := snd19
noncomputable def A46 : Fun := fun n xs => D46.run Tryz.prog env cal46 H46 n xs
theorem S46 : SoundCal Tryz.prog env 46 (mkCal D46 A46) := snd46
noncomputable def A47 : Fun := fun n xs => D47.run Tryz.prog env cal47 H47 n xs
theorem S47 : SoundCal Tryz.prog env 47 (mkCal D47 A47) := snd47
noncomputable def A48 : Fun := fun n xs => D48.run Tryz.prog env (cal48 A47) H48 n xs
theorem S48 : SoundCal Tryz.prog env 48 (mkCal D48 A48) := snd48 _ S47
noncomputable def A20 : Fun := fun n xs => D20.run Tryz.prog env (cal20 A46 A47 A48) H20 n xs
theorem S20 : SoundCal Tryz.prog env 20 (mkCal D20 A20) := snd20 _ _ _ S46 S47 S48
noncomputable def A21 : Fun := fun n xs => D21.run Tryz.prog env (cal21 A47 A48) H21 n xs
theorem S21 : SoundCal Tryz.prog env 21 (mkCal D21 A21) := snd21 _ _ S47 S48
noncomputable def A4 : Fun := fun n xs => D4.run Tryz.prog env (cal4 A13 A16 A17 A19 A20 A21) H4 n xs
theorem S4 : SoundCal Tryz.prog env 4 (mkCal D4 A4) := snd4 _ _ _ _ _ _ S13 S16 S17 S19 S20 S21
noncomputable def A22 : Fun := fun n xs => D22.run Tryz.prog env (cal22 A32) H22 n xs
theorem S22 : SoundCal Tryz.prog env 22 (mkCal D22 A22) := snd22 _ S32
noncomputable def A5 : Fun := fun n xs => D5.run Tryz.prog env (cal5 A13 A15 A16 A17 A22 A23) H5 n xs
theorem S5 : SoundCal Tryz.prog env 5 (mkCal D5 A5) := snd5 _ _ _ _ _ _ S13 S15 S16 S17 S22 S23
noncomputable def A24 : Fun := fun n xs => D24.run Tryz.prog env (cal24 A13 A23) H24 n xs
theorem S24 : SoundCal Tryz.prog env 24 (mkCal D24 A24) := snd24 _ _ S13 S23
noncomputable def A6 : Fun := fun n xs => D6.run Tryz.prog env (cal6 A13 A15 A16 A17 A18 A22 A23 A24) H6 n xs
theorem S6 : SoundCal Tryz.prog env 6 (mkCal D6 A6) := snd6 _ _ _ _ _ _ _ _ S13 S15 S16 S17 S18 S22 S23 S24
noncomputable def A25 : Fun := fun n xs => D25.run Tryz.prog env (cal25 A22 A53 A54) H25 n xs
theorem S25 : SoundCal Tryz.prog env 25 (mkCal D25 A25) := snd25 _ _ _ S22 S53 S54
noncomputable def A7 : Fun := fun n xs => D7.run Tryz.prog env (cal7 A15 A16 A17 A22 A25 A26) H7 n xs
theorem S7 : SoundCal Tryz.prog env 7 (mkCal D7 A7) := snd7 _ _ _ _ _ _ S15 S16 S17 S22 S25 S26
noncomputable def A61 : Fun := fun n xs => D61.run Tryz.prog env cal61 H61 n xs
theorem S61 : SoundCal Tryz.prog env 61 (mkCal D61 A61) := snd61
noncomputable def A27 : Fun := fun n xs => D27.run Tryz.prog env (cal27 A55 A61) H27 n xs
theorem S27 : SoundCal Tryz.prog env 27 (mkCal D27 A27) := snd27 _ _ S55 S61
noncomputable def A28 : Fun := fun n xs => D28.run Tryz.prog env cal28 H28 n xs
theorem S28 : SoundCal Tryz.prog env 28 (mkCal D28 A28) := snd28
noncomputable def A29 : Fun := fun n xs => D29.run Tryz.prog env cal29 H29 n xs
theorem S29 : SoundCal Tryz.prog env 29 (mkCal D29 A29) := snd29
noncomputable def A8 : Fun := fun n xs => D8.run Tryz.prog env (cal8 A16 A27 A28 A29 A30) H8 n xs
theorem S8 : SoundCal Tryz.prog env 8 (mkCal D8 A8) := snd8 _ _ _ _ _ S16 S27 S28 S29 S30
end Go.Proofs.YtlmnjnhmhacgkaaGreatDoor.Am
end
