/- The law NumPlaces holds of what the program computes: nothing is told from beyond the end or ahead of the beginning. No condition beyond the row's own. -/
import Derived.Test.YtihihobeaghbkaaPx10
import Derived.Test.YtihihobeaghbkaaNumK
namespace Go.Proofs.Ytihihobeaghbkaa.Pure
open Go.RowKit Go.Proofs.Ytihihobeaghbkaa.Px Go.Proofs.YtihihobeaghbkaaW.PrintWords Go.Proofs.YtihihobeaghbkaaW.PrintLast

theorem NumPlaces : telemeterlaw01_NumPlaces.Pure := by
  intro l n hl hl1 hb hn
  have hb := bytesP_of_wf hb
  have hn := u8_wf hn
  unfold telemeterlaw01_NumPlaces.f
  by_cases h : (l.length : Int) > 100
  · rw [if_pos h, known_true]; rfl
  · rw [if_neg h]
    have e1 : wrap64 ((wrap64 ((l.length : Int) + 1)) + (wrap64 n)) = (l.length : Int) + 1 + n := by unfold wrap64; omega
    have e2 : wrap64 ((-1) - (wrap64 n)) = -1 - n := by unfold wrap64; omega
    have e3 : num_Get.f l (l.length : Int) = some (0, 0, 10) := by
      rw [get_eq l _ hb (by omega) (by omega) (by omega), Int.toNat_natCast, List.drop_length]; rfl
    rw [e1, e2, get_far l _ (by omega) (by omega), get_neg l _ (by omega) (by omega), e3, known_true]
    rfl

end Go.Proofs.Ytihihobeaghbkaa.Pure
