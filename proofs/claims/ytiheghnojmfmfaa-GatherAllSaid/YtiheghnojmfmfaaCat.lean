/- slices.Clone, Grow and Concat of bytes, by hand. -/
import Derived.Test.YtiheghnojmfmfaaProg
import Derived.WalkKit
import Derived.WalkSpells
import Derived.Lib.SliceRun
import Derived.KernelRfl
import Derived.Test.YtiheghnojmfmfaaWWords
import Derived.Test.YtiheghnojmfmfaaWLast
import Derived.Test.YtiheghnojmfmfaaWZeros
import Derived.Test.YtiheghnojmfmfaaWMore
import Derived.Test.YtiheghnojmfmfaaCln
namespace Go.Proofs.Ytiheghnojmfmfaa.Px
open Go.RowKit Go.Proofs.YtiheghnojmfmfaaW.PrintWords Go.Proofs.YtiheghnojmfmfaaW.PrintLast Go.Proofs.YtiheghnojmfmfaaW.PrintMore
set_option linter.unusedVariables false
set_option linter.unusedSimpArgs false
def slices_Concat_byte_byte.f (l0 : List (List Int)) : Option (List Int) := if l0.flatten.length ≤ 140737488355000 ∧ l0.length ≤ 1000 then some l0.flatten else none

theorem Cln.at_row {w : World} {A : Option Addr} {n : Nat} {xs : List (List Int)} (h : Kd.C (Kd.slice 5 (Kd.int .u8)) w A n xs) (i : Nat) (hi : i < xs.length) :
    ∃ ad A0 c0, A = some ad ∧ w.cell? (ad.add i) = some (.slice A0 (xs[i]).length c0) ∧ (xs[i]).length ≤ c0 ∧ (Kd.int .u8).C w A0 (xs[i]).length (xs[i]) := by
  have hn := h.1
  obtain ⟨ad, c, e, _, hK, hc0⟩ := Kd.C_get h ([] : List Int) (i : Int) (by omega) (by omega)
  have hc : ∀ j u, c[j]? = some u → w.cell? (ad.add ((i : Int).toNat * 1 + j)) = some u := hc0
  have hx : xs.getD (i : Int).toNat [] = xs[i] := by
    rw [Int.toNat_natCast, List.getD_eq_getElem?_getD, List.getElem?_eq_getElem hi]; rfl
  rw [hx] at hK
  obtain ⟨A0, c0, rfl, l0, g0⟩ := hK
  exact ⟨ad, A0, c0, e, by have hq := hc 0 _ rfl; rwa [Nat.mul_one, Nat.add_zero, Int.toNat_natCast] at hq, l0, g0⟩

theorem Cln.flat_take (l : List (List Int)) (k : Nat) (h : k < l.length) : (l.take (k + 1)).flatten = (l.take k).flatten ++ l[k] := by
  rw [List.take_succ_eq_append_getElem h, List.flatten_append]; simp
theorem Cln.flat_le (l : List (List Int)) (k : Nat) : (l.take k).flatten.length ≤ l.flatten.length := by
  conv => rhs; rw [← List.take_append_drop k l]
  rw [List.flatten_append, List.length_append]; omega

set_option maxHeartbeats 400000 in
set_option maxRecDepth 100000 in
theorem Cln.Concat_calls (A0 : Option Addr) (c0 : Nat) (l0 : List (List Int)) (r : List Int) (w : World) (hr0 : Kd.C (Kd.slice 5 (Kd.int .u8)) w A0 l0.length l0) (hc0 : l0.length ≤ c0) (h : slices_Concat_byte_byte.f l0 = some r) :
    Calls Try.prog 41 #[.slice A0 l0.length c0] w fun e w' => ∃ v0_ : Value, e = .returned (v0_) ∧ Kd.R (Kd.int .u8) 5 w' w.heap.size (fun _ => True) v0_ r ∧ Below w.heap.size w w' := by
  unfold slices_Concat_byte_byte.f at h
  by_cases hd : l0.flatten.length ≤ 140737488355000 ∧ l0.length ≤ 1000
  · rw [if_pos hd] at h
    simp only [Option.some.injEq] at h
    subst h
    obtain ⟨d1, d2⟩ := hd
    have HR := Aside0.mk hr0
    clear hr0
    go_enter Try.func41, Try.ntmps41
    go_wp2
    go_loop [3, 11] (fun v3 v11 => ∃ k : Nat, v3 = .int .i64 (((l0.take k).flatten.length : Nat) : Int) ∧ v11 = .int .i64 (k : Int) ∧ k ≤ l0.length) (fun _ v11 => l0.length - (intOf v11).toNat)
    case atStart => exact ⟨0, by simp, rfl, by omega⟩
    case round =>
      obtain ⟨k, rfl, rfl, hk⟩ := hrel
      have hfl := Cln.flat_le l0 k
      by_cases hkl : k < l0.length
      · have b1 : decide ((k : Int) < (l0.length : Int)) = true := decide_eq_true (by omega)
        have hft := Cln.flat_take l0 k hkl
        have hfl2 := Cln.flat_le l0 (k + 1)
        have hlen : (l0.take (k + 1)).flatten.length = (l0.take k).flatten.length + l0[k].length := by rw [hft, List.length_append]
        obtain ⟨ad, A1, c1, e, hcell, hl1, hr1⟩ := Cln.at_row HR.out k hkl
        cases e
        have HL := Aside0.mk hlen
        have hle : (l0.take k).flatten.length + l0[k].length ≤ 140737488355000 := by omega
        clear hlen hft hfl2 hr1
        generalize (l0.take k).flatten.length = m at *
        generalize l0[k].length = m1 at *
        have b2 : decide ((m : Int) + (m1 : Int) < 0) = false := decide_eq_false (by omega)
        go_wp2_with fail
        refine ⟨⟨k + 1, ?_, by go_num, by omega⟩, by simp only [intOf]; omega⟩
        rw [HL.out]; go_num
      · obtain rfl : k = l0.length := by omega
        have b1 : decide ((l0.length : Int) < (l0.length : Int)) = false := decide_eq_false (by omega)
        rw [List.take_length]
        clear hfl hk hkl
        obtain ⟨F, hF⟩ : ∃ F, l0.flatten.length = F := ⟨_, rfl⟩
        rw [hF] at d1 ⊢
        have HD := Aside0.mk hF
        clear hF
        go_wp2_with fail
        refine (Cln.Grow_calls F _ (by omega)).mono ?_
        rintro e w1 ⟨v, rfl, ho, hb⟩
        have HO := Aside0.mk ho
        have HB := Aside0.mk hb
        clear ho hb
        go_wp2_with fail
        go_loopg [6, 27] l0.length (fun kq v6 v27 w' => ∃ k : Nat, v27 = .int .i64 (k : Int) ∧ Aside0 (k + kq = l0.length) ∧ Aside0 (Kd.R (Kd.int .u8) 5 w' w.heap.size (fun _ => True) v6 (l0.take k).flatten) ∧ Aside0 (Below w.heap.size w w'))
        case atStart => exact ⟨0, rfl, ⟨by omega⟩, ⟨by simpa using HO.out⟩, HB⟩
        case round =>
          obtain ⟨k, rfl, HK, HO1, HB1⟩ := hrel
          have hkq := HK.out
          have hcr : Kd.C (Kd.slice 5 (Kd.int .u8)) wr A0 l0.length l0 := Kd.C_below HR.out HB1.out
          by_cases hkl : k < l0.length
          · have b2 : decide ((k : Int) < (l0.length : Int)) = true := decide_eq_true (by omega)
            obtain ⟨g1, rfl⟩ : ∃ g1, gk = g1 + 1 := ⟨gk - 1, by omega⟩
            have HT := Aside0.mk (Cln.flat_take l0 k hkl)
            have hfl := Cln.flat_le l0 (k + 1)
            have hle : (l0.take k).flatten.length + l0[k].length ≤ 140737488355000 := by
              rw [HT.out, List.length_append, HD.out] at hfl; omega
            obtain ⟨ad, A1, c1, e, hcell, hl1, hr1⟩ := Cln.at_row hcr k hkl
            cases e
            have HR1 := Aside0.mk hr1
            have HLE := Aside0.mk hle
            clear hfl hle hr1 hcr
            generalize l0[k].length = m1 at *
            generalize l0[k] = x1 at *
            generalize (l0.take k).flatten = y1 at *
            go_wp2_with (at_builtin; refine Kd.R_append_row (Value.int .u8) 0 (w0 := w) w.heap.size rfl (.tmp 31) (.tmp 32) 22 5 (.int .u8 0) 1 rfl Try.underlying22 Cln.info5 rfl (by decide) _ y1 x1 A1 m1 c1 (fun _ => True) rfl rfl (fun _ _ => trivial) HO1.out HR1.out HB1.out HB1.out.size (by have := HLE.out; omega) ?_; intro v1 w1 ho hb _ _; have HO2 := Aside0.mk ho; have HB2 := Aside0.mk hb; clear ho hb)
            go_roundg g1
            case measure => omega
            case rel => exact ⟨k + 1, by go_num, ⟨by omega⟩, ⟨by rw [HT.out]; exact HO2.out⟩, HB2⟩
          · have b2 : decide ((k : Int) < (l0.length : Int)) = false := decide_eq_false (by omega)
            obtain rfl : k = l0.length := by omega
            rw [List.take_length] at HO1
            go_wp2
            go_ret
            exact ⟨_, rfl, HO1.out, HB1.out⟩
  · rw [if_neg hd] at h; cases h

end Go.Proofs.Ytiheghnojmfmfaa.Px
