/- The law FrameLong holds of what the program computes. -/
import Derived.Test.YtjnlplgefcmngaaPx14
import Derived.Test.YtjnlplgefcmngaaFrmK
import Derived.Test.YtjnlplgefcmngaaFrmS
namespace Go.Proofs.Ytjnlplgefcmngaa.Pure
set_option linter.unusedVariables false
set_option linter.unusedSimpArgs false
open Go.RowKit Go.Proofs.Ytjnlplgefcmngaa.Px Go.Proofs.YtjnlplgefcmngaaW.PrintWords Go.Proofs.YtjnlplgefcmngaaW.PrintLast Go.Proofs.YtjnlplgefcmngaaW.PrintMore

theorem long_l0 (x : Int) (hx : 0 ≤ x ∧ x ≤ 255) (n : Nat) (hn : n ≤ 4300) (h4 : 4000 ≤ n) (d : Nat) : ∀ (k i : Nat) (l : List Int), i + d = n → d + 10 < k → l = List.replicate i x ++ List.replicate d 0 →
    telemeterlaw02_FrameLong.l0 k x l (i : Int) = some true := by
  induction d with
  | zero =>
    intro k i l hi hk hl
    obtain rfl : i = n := by omega
    have hl' : l = List.replicate i x := by rw [hl]; simp
    have hlen : l.length = i := by rw [hl', List.length_replicate]
    have hb : bytesP l := by rw [hl']; intro y hy; rw [List.eq_of_mem_replicate hy]; exact hx
    obtain ⟨k, rfl⟩ : ∃ m, k = m + 1 := ⟨k - 1, by omega⟩
    have ht : takeR [129, 32, 0, 0, 0, 0] 0 = ([], 0, 3) := by
      have hg := get_put (n := 4097) (by decide) [] [0, 0, 0, 0] bytesP_nil (bytesP_of_all (by decide)) (by
        have := putL_ten (n := 4097) (by decide)
        simp only [List.length_append, List.length_nil, List.length_cons]; omega)
      rw [putL_great (by decide), putL_small (by decide)] at hg
      have hg' : num_Get.f [129, 32, 0, 0, 0, 0] 0 = some (4097, 2, 0) := hg
      unfold takeR
      rw [hg']; rfl
    rw [telemeterlaw02_FrameLong.l0, if_neg (by omega), take_eq _ (bytesP_of_all (by decide)) (by decide) 0 k (by omega), ht]
    by_cases hc : i ≤ 4096
    · rw [frame_eq hb (by omega), Option.bind_some, Option.bind_some, telemeterlaw02_known.f, Option.bind_some]
      have hp : (putL i).length = 2 := by
        rw [putL_great (by omega), putL_small (by omega)]; rfl
      have h6 : (frameL l).length = i + 6 := by rw [frameL_len, hlen, hp]; omega
      have hw : wrap64 ((l.length : Int) + 6) = (l.length : Int) + 6 := wrap64_id (by omega) (by omega)
      rw [hw, if_pos rfl]
      dsimp only
      rw [h6, hlen, decide_eq_true (show (i : Int) ≤ 4096 by omega), if_pos (show ((((0 : Int) == 0) == true) = true) from rfl), show (((i + 6 : Nat) : Int) == (i : Int) + 6) = true from beq_iff_eq.2 (by omega), if_pos (show ((((0 : Int) == 0) == true) = true) from rfl)]
      rfl
    · rw [frame_long (by omega), Option.bind_some, Option.bind_some, telemeterlaw02_known.f, Option.bind_some]
      have hw : wrap64 ((l.length : Int) + 6) = (l.length : Int) + 6 := wrap64_id (by omega) (by omega)
      rw [hw, if_pos rfl]
      dsimp only
      rw [hlen, decide_eq_false (show ¬ (i : Int) ≤ 4096 by omega), if_pos (show ((((3 : Int) == 0) == false) = true) from rfl), List.length_nil, show (((0 : Nat) : Int) == (i : Int) + 6) = false from beq_eq_false_iff_ne.2 (by omega), if_pos (show ((((3 : Int) == 0) == false) = true) from rfl)]
      rfl
  | succ d ih =>
    intro k i l hi hk hl
    have hlen : l.length = i + (d + 1) := by rw [hl]; simp
    obtain ⟨k, rfl⟩ : ∃ m, k = m + 1 := ⟨k - 1, by omega⟩
    rw [telemeterlaw02_FrameLong.l0, if_pos (by omega), if_pos (by omega), w64_succ i (by omega), Int.toNat_natCast]
    refine ih k (i + 1) _ (by omega) (by omega) ?_
    rw [hl, List.replicate_succ (n := d), List.set_append, if_neg (by simp), List.length_replicate, Nat.sub_self, List.set_cons_zero, List.replicate_succ', List.append_assoc]
    rfl

theorem FrameLong : telemeterlaw02_FrameLong.Pure := by
  intro n x hn hx
  have hn := u16_wf hn
  have hx := u8_wf hx
  refine ⟨5000, ?_⟩
  obtain ⟨n, rfl⟩ : ∃ m : Nat, n = (m : Int) := ⟨n.toNat, by omega⟩
  have e1 : Int.tmod (n : Int) 200 = ((n % 200 : Nat) : Int) := by rw [Int.tmod_eq_emod_of_nonneg (by omega)]; omega
  have hlt : n % 200 < 200 := Nat.mod_lt _ (by decide)
  have e2 : wrap64 (4000 + wrap64 ((n % 200 : Nat) : Int)) = ((4000 + n % 200 : Nat) : Int) := by
    rw [wrap64_id (n := ((n % 200 : Nat) : Int)) (by omega) (by omega), wrap64_id (by omega) (by omega)]; omega
  unfold telemeterlaw02_FrameLong.f
  rw [e1, e2, if_pos (by omega), Int.toNat_natCast, if_pos (by omega)]
  exact long_l0 x (by omega) (4000 + n % 200) (by omega) (by omega) (4000 + n % 200) 5000 0 _ (by omega) (by omega) (by simp)

end Go.Proofs.Ytjnlplgefcmngaa.Pure
