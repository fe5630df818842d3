/- The law FrameSums holds of what the program computes. -/
import Derived.Test.YtjnlplgefcmngaaPx27
import Derived.Test.YtjnlplgefcmngaaFrmS
import Derived.Test.YtjnlplgefcmngaaFrmK
namespace Go.Proofs.Ytjnlplgefcmngaa.Pure
set_option linter.unusedVariables false
set_option linter.unusedSimpArgs false
open Go.RowKit Go.Proofs.Ytjnlplgefcmngaa.Px Go.Proofs.YtjnlplgefcmngaaW.PrintWords Go.Proofs.YtjnlplgefcmngaaW.PrintLast Go.Proofs.YtjnlplgefcmngaaW.PrintMore

theorem FrameSums : telemeterlaw02_FrameSums.Pure := by
  intro b n _ hbl hbw hn
  have hn := u16_wf hn
  have hb := bytesP_of_wf hbw
  refine ⟨60001, ?_⟩
  unfold telemeterlaw02_FrameSums.f
  by_cases h : (b.length : Int) > 300
  · rw [if_pos h, telemeterlaw02_FrameSums.j0, if_pos rfl]; rfl
  · rw [if_neg h, telemeterlaw02_known.f, Option.bind_some, telemeterlaw02_FrameSums.j0, if_neg (by decide)]
    obtain ⟨n, rfl⟩ : ∃ m : Nat, n = (m : Int) := ⟨n.toNat, by omega⟩
    have e0 : wrap64 (n : Int) = (n : Int) := wrap64_id (by omega) (by omega)
    have e1 : Int.tmod (n : Int) 12 = ((n % 12 : Nat) : Int) := by rw [Int.tmod_eq_emod_of_nonneg (by omega)]; omega
    have z0 : wrap64 0 = (0 : Int) := wrap64_id (by decide) (by decide)
    have z3 : wrap64 3 = (3 : Int) := wrap64_id (by decide) (by decide)
    have hlt : n % 12 < 12 := Nat.mod_lt _ (by decide)
    have e2 : wrap64 (4090 + wrap64 ((n % 12 : Nat) : Int)) = ((4090 + n % 12 : Nat) : Int) := by
      rw [wrap64_id (n := ((n % 12 : Nat) : Int)) (by omega) (by omega), wrap64_id (by omega) (by omega)]; omega
    rw [frame_eq hb (by omega), Option.bind_some, refFrame_eq hb (by omega) 60000 (by omega), Option.bind_some, e1, e2, if_pos (by omega), Int.toNat_natCast, if_pos (by omega), Option.bind_some]
    have hz : bytesP (List.replicate (4090 + n % 12) (0 : Int)) := by intro y hy; rw [List.eq_of_mem_replicate hy]; decide
    have hzl : (List.replicate (4090 + n % 12) (0 : Int)).length = 4090 + n % 12 := List.length_replicate
    generalize List.replicate (4090 + n % 12) (0 : Int) = z at *
    by_cases hc : z.length ≤ 4096
    · rw [frame_eq hz hc, Option.bind_some, refFrame_eq hz hc 60000 (by omega), Option.bind_some, sum_eq hb (by omega), Option.bind_some, refSum_eq hb (by omega) 60000 (by omega), Option.bind_some, if_pos rfl, if_pos rfl, if_pos rfl, if_pos (show wrap64 0 = (0 : Int) from z0)]
      show some (wrap64 0 == (0 : Int)) = some true
      rw [z0]; rfl
    · rw [frame_long (by omega), Option.bind_some, refFrame_long (by omega), Option.bind_some, sum_eq hb (by omega), Option.bind_some, refSum_eq hb (by omega) 60000 (by omega), Option.bind_some, if_pos rfl, if_pos rfl, if_pos rfl, if_pos (show wrap64 0 = (0 : Int) from z0)]
      show some (wrap64 3 == (3 : Int)) = some true
      rw [z3]; rfl

end Go.Proofs.Ytjnlplgefcmngaa.Pure
