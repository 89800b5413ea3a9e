/- Plain: where a connection is never goes back; its tune may be; what it says is right. -/
import Derived.Test.YtdogcnadopepmaaDoorL2
namespace Go.Proofs.YtdogcnadopepmaaDoor.L
open Go.RowKit Go.Proofs.YtdogcnadopepmaaDoorW.PrintWords Go.Proofs.YtdogcnadopepmaaDoorW.PrintLast Go.Proofs.YtdogcnadopepmaaDoorW.PrintMore Go.Proofs.YtdogcnadopepmaaDoor.H Go.Proofs.YtdogcnadopepmaaDoor.M Go.Proofs.YtdogcnadopepmaaDoor.R
set_option linter.unusedSimpArgs false
set_option linter.unusedVariables false

theorem width_le (z : Int) (n : Nat) (hz : wrap64 (8 * z) = (n : Nat)) (h0 : 0 < z) (h8 : z < 8) (hn : n ≤ 64) (k : Nat) (v : S56) (hv : 0 ≤ v.f0) (h : method_width_right.f k z v.f0 v.f1 = some 0) : v.f0 < 2 ^ n := by
  unfold method_width_right.f at h
  rw [if_neg (by omega), if_pos h0, if_pos h8, if_pos (by rw [hz]; omega), hz] at h
  have hs : shr .u64 v.f0 (n : Nat) = v.f0 / 2 ^ n := by
    unfold shr
    rw [Int.toNat_natCast, Nat.min_eq_left (by simpa [IntKind.bits] using hn)]
  by_cases hq : v.f0 / 2 ^ n = 0
  · have hp : (0 : Int) < 2 ^ n := Int.pow_pos (by decide)
    have h1 := Int.lt_ediv_add_one_mul_self v.f0 hp
    rw [hq] at h1
    simpa using h1
  · have hb : (shr .u64 v.f0 (n : Nat) != 0) = true := by rw [hs]; exact bne_iff_ne.2 hq
    rw [hb] at h
    cases k with
    | zero => simp [method_width_right.j0] at h
    | succ k => simp [method_width_right.j0] at h
theorem sls_30 (k : Nat) (l : List S56) (hv : ∀ v ∈ l, Ok56 v) (h : method_Right.f k 10 31 l = some 0) :
    (0 ≤ intAt l 0 ∧ intAt l 0 ≤ 65535) ∧ (0 ≤ intAt l 1 ∧ intAt l 1 ≤ 4294967295) ∧ (0 ≤ intAt l 2 ∧ intAt l 2 ≤ 65535) := by
  have sls : sigFind 10 31 = some ⟨10, 31, [115, 108, 115], 1, 0, 0⟩ := by kernel_rfl
  unfold method_Right.f sig_Of.f at h
  rw [sls] at h
  by_cases hl : l.length = 3
  · obtain ⟨v0, v1, v2, rfl⟩ := list3 hl
    have h' : ((valRight.f k 115 v0).bind fun e => if e = 0 then ((valRight.f k 108 v1).bind fun e => if e = 0 then ((valRight.f k 115 v2).bind fun e => if e = 0 then some 0 else some e) else some e) else some e) = some 0 := h
    have hz : ∀ v ∈ [v0, v1, v2], 0 ≤ v.f0 := fun v hm => by
      have := (hv v hm).1
      simp only [Lit.wf, Bool.and_eq_true, decide_eq_true_eq, IntKind.min] at this
      have h1 := this.1
      simpa [IntKind.signed] using h1
    obtain ⟨e0, h0, h'⟩ := Option.bind_eq_some_iff.1 h'
    by_cases c0 : e0 = 0
    · subst c0
      rw [if_pos rfl] at h'
      obtain ⟨e1, h1, h'⟩ := Option.bind_eq_some_iff.1 h'
      by_cases c1 : e1 = 0
      · subst c1
        rw [if_pos rfl] at h'
        obtain ⟨e2, h2, h'⟩ := Option.bind_eq_some_iff.1 h'
        by_cases c2 : e2 = 0
        · subst c2
          have z0 := hz v0 (by simp)
          have z1 := hz v1 (by simp)
          have z2 := hz v2 (by simp)
          have b0 := width_le 2 16 (by unfold wrap64; omega) (by decide) (by decide) (by decide) k v0 z0 h0
          have b1 := width_le 4 32 (by unfold wrap64; omega) (by decide) (by decide) (by decide) k v1 z1 h1
          have b2 := width_le 2 16 (by unfold wrap64; omega) (by decide) (by decide) (by decide) k v2 z2 h2
          have w : ∀ x : Int, 0 ≤ x → x < 2 ^ 32 → wrap64 x = x := fun x h0 h1 => by
            unfold wrap64
            omega
          have i0 : intAt [v0, v1, v2] 0 = v0.f0 := w v0.f0 z0 (by omega)
          have i1 : intAt [v0, v1, v2] 1 = v1.f0 := w v1.f0 z1 (by omega)
          have i2 : intAt [v0, v1, v2] 2 = v2.f0 := w v2.f0 z2 (by omega)
          rw [i0, i1, i2]
          omega
        · rw [if_neg c2] at h'
          injection h' with h'
          exact absurd h' c2
      · rw [if_neg c1] at h'
        injection h' with h'
        exact absurd h' c1
    · rw [if_neg c0] at h'
      injection h' with h'
      exact absurd h' c0
  · simp only [Option.bind_some, Option.isSome_some, if_true] at h
    rw [if_neg (fun q => hl (by simp [ByteArray.size] at q; omega))] at h
    injection h with h
    exact absurd h (by decide)

/-- A connection that has begun: where it is, what its tune may be. -/
structure Inv (h : Hd) : Prop where
  s1 : 1 ≤ h.st
  s6 : h.st ≤ 6
  c : 1 ≤ h.ch ∧ h.ch ≤ 65535
  f : 4096 ≤ h.fr ∧ h.fr ≤ 131072
  b : 0 ≤ h.be ∧ h.be ≤ 65535

/-- What a step leaves. -/
structure Rises (h : Hd) (r : Res) : Prop where
  inv : Inv r.h
  up : h.st ≤ r.h.st
  bad : r.e ≠ 0 → r.h = h ∧ r.out = []
  said : Ev (fun k => interchangeref10_Rights.f k r.out) true

theorem rises_same (h : Hd) (e : Int) (hi : Inv h) : Rises h ⟨e, h, []⟩ := ⟨hi, Int.le_refl _, fun _ => ⟨rfl, rfl⟩, rights_none⟩
theorem rises_ends (h : Hd) (m : S24) (hi : Inv h) : Rises h (doEnds h m) := by
  unfold doEnds
  split
  · exact ⟨⟨by show (1 : Int) ≤ 6; decide, by show (6 : Int) ≤ 6; decide, hi.c, hi.f, hi.b⟩, hi.s6, fun q => absurd rfl q, rights_51⟩
  · exact rises_same h 8 hi
theorem rises_step (h : Hd) (m : S24) (hi : Inv h) (hn : isM m 31 = true → (0 ≤ intAt m.f2 0 ∧ intAt m.f2 0 ≤ 65535) ∧ (0 ≤ intAt m.f2 1 ∧ intAt m.f2 1 ≤ 4294967295) ∧ (0 ≤ intAt m.f2 2 ∧ intAt m.f2 2 ≤ 65535)) : Rises h (doStep h m) := by
  have s1 := hi.s1
  have s6 := hi.s6
  obtain ⟨c1, c2⟩ := hi.c
  obtain ⟨f1, f2⟩ := hi.f
  obtain ⟨b1, b2⟩ := hi.b
  unfold doStep
  rw [if_neg (by omega)]
  split
  · unfold doStart
    split
    · split
      · split
        · refine ⟨⟨by show (1 : Int) ≤ 2; decide, by show (2 : Int) ≤ 6; decide, hi.c, hi.f, hi.b⟩, by show h.st ≤ 2; omega, fun q => absurd rfl q, ?_⟩
          have hw : ∀ x : Int, 0 ≤ x → x ≤ 4294967295 → num56 x = ⟨x, ⟨#[]⟩⟩ := fun x h0 h1 => by
            unfold num56
            rw [IntKind.wrap_u64, Int.emod_eq_of_lt h0 (by omega)]
          show Ev (fun k => interchangeref10_Rights.f k [⟨10, 30, [num56 h.ch, num56 h.fr, num56 h.be]⟩]) true
          rw [hw h.ch (by omega) (by omega), hw h.fr (by omega) (by omega), hw h.be (by omega) (by omega)]
          exact rights_one _ (right_30 h.ch h.fr h.be (by omega) (by omega) (by omega))
        · exact rises_same h 7 hi
      · exact rises_same h 14 hi
    · exact rises_ends h m hi
  · split
    · unfold doTune
      split
      · obtain ⟨n0, n1, n2⟩ := hn (by assumption)
        split
        · exact rises_same h 14 hi
        · rename_i hg
          refine ⟨⟨by show (1 : Int) ≤ 3; decide, by show (3 : Int) ≤ 6; decide, ?_, ?_, ?_⟩, by show h.st ≤ 3; omega, fun q => absurd rfl q, rights_none⟩
          · show 1 ≤ (if intAt m.f2 0 = 0 then h.ch else intAt m.f2 0) ∧ (if intAt m.f2 0 = 0 then h.ch else intAt m.f2 0) ≤ 65535
            split <;> omega
          · show 4096 ≤ (if intAt m.f2 1 = 0 then h.fr else intAt m.f2 1) ∧ (if intAt m.f2 1 = 0 then h.fr else intAt m.f2 1) ≤ 131072
            split <;> omega
          · show 0 ≤ min (intAt m.f2 2) h.be ∧ min (intAt m.f2 2) h.be ≤ 65535
            omega
      · exact rises_ends h m hi
    · split
      · unfold doOpen
        split
        · exact ⟨⟨by show (1 : Int) ≤ 4; decide, by show (4 : Int) ≤ 6; decide, hi.c, hi.f, hi.b⟩, by show h.st ≤ 4; omega, fun q => absurd rfl q, rights_41⟩
        · exact rises_ends h m hi
      · split
        · exact rises_ends h m hi
        · split
          · unfold doClosing
            split
            · exact ⟨⟨by show (1 : Int) ≤ 6; decide, by show (6 : Int) ≤ 6; decide, hi.c, hi.f, hi.b⟩, hi.s6, fun q => absurd rfl q, rights_none⟩
            · split
              · exact ⟨hi, Int.le_refl _, fun q => absurd rfl q, rights_51⟩
              · exact rises_same h 0 hi
          · exact rises_same h 0 hi
theorem rises_take (h : Hd) (m : S24) (hi : Inv h) (hv : ∀ v ∈ m.f2, Ok56 v) : ∃ r, Rises h r ∧ Ev (fun k => serve_Take.f k h.st h.ch h.fr h.be h.us h.wo h.ho m.f0 m.f1 m.f2) (tup r) := by
  obtain ⟨e, hE, hT⟩ := serve_take h m hv
  refine ⟨takeR e h m, ?_, hT⟩
  unfold takeR
  split
  · rename_i he
    split
    · exact rises_same h 8 hi
    · have hst : Rises h (doStep h m) := rises_step h m hi (fun hm => by
        obtain ⟨k, hk⟩ := hE.rounds
        simp only [isM, Bool.and_eq_true, beq_iff_eq] at hm
        rw [hm.1, hm.2, he] at hk
        exact sls_30 k m.f2 hv hk)
      split
      · exact ⟨hst.inv, hst.up, fun q => absurd rfl q, hst.said⟩
      · exact rises_same h _ hi
  · exact rises_same h 7 hi
end Go.Proofs.YtdogcnadopepmaaDoor.L
