/- The law NumOrder, walked by hand: a greater number has no fewer bytes, and ten at most. No condition beyond the row's own. -/
import Derived.Test.YtihihobeaghbkaaNumK
namespace Go.Proofs.Ytihihobeaghbkaa.Px
open Go.RowKit Go.Proofs.YtihihobeaghbkaaW.PrintWords Go.Proofs.YtihihobeaghbkaaW.PrintLast Go.Proofs.YtihihobeaghbkaaW.PrintMore
attribute [local go_sem] max2_int min2_int max_two min_two
set_option linter.unusedVariables false

/-- num.Put, where its length alone is asked -/
theorem Num.Put_len (n : Int) (k : Nat) (w : World) (h0 : 0 ≤ n) (h1 : n < 18446744073709551616) (hk : (putL n.toNat).length = k) :
    Calls Try.prog 15 #[.int .u64 n] w fun e w' => (∃ g cap, e = .returned (.slice (some ⟨g, 0, none⟩) k cap)) ∧ Below w.heap.size w w' := by
  refine (Num.Put_calls n _ w (put_eq h0 h1)).mono ?_
  rintro e w' ⟨v, rfl, ho, hb⟩
  refine ⟨?_, hb⟩
  have hown := Kd.own_of_R ho
  obtain ⟨m, hm⟩ : ∃ m, (putL n.toNat).length = m + 1 := ⟨(putL n.toNat).length - 1, by have := putL_pos n.toNat; omega⟩
  rw [hm] at hown
  obtain ⟨g, cap, rfl⟩ := ownsRow_succ hown
  exact ⟨g, cap, by rw [← hk, hm]⟩

set_option maxHeartbeats 4000000 in
set_option maxRecDepth 100000 in
theorem telemeterlaw01_NumOrder.walk2 (a0 : Int) (a1 : Int) (w : World) (w0 : (Lit.int .u64 a0).wf = true) (w1 : (Lit.int .u64 a1).wf = true) :
    Calls Try.prog 10 #[.int .u64 a0, .int .u64 a1] w fun e w' => e = .returned (.bool true) ∧ Below w.heap.size w w' := by
  have ha := u64_wf w0
  have hb := u64_wf w1
  clear w0 w1
  obtain ⟨lo, hlo⟩ : ∃ lo : Int, (if a1 < a0 then a1 else a0) = lo := ⟨_, rfl⟩
  obtain ⟨hi, hhi⟩ : ∃ hi : Int, (if a0 < a1 then a1 else a0) = hi := ⟨_, rfl⟩
  have l0 : 0 ≤ lo := by rw [← hlo]; split <;> omega
  have l1 : lo < 18446744073709551616 := by rw [← hlo]; split <;> omega
  have i0 : 0 ≤ hi := by rw [← hhi]; split <;> omega
  have i1 : hi < 18446744073709551616 := by rw [← hhi]; split <;> omega
  have li : lo ≤ hi := by rw [← hlo, ← hhi]; split <;> split <;> omega
  have hm := putL_mono lo.toNat hi.toNat (by omega)
  have ht := putL_ten (n := hi.toNat) (by omega)
  have hp := putL_pos a0.toNat
  have c1 := fun W => Num.Put_len lo _ W l0 l1 rfl
  have c2 := fun W => Num.Put_len hi _ W i0 i1 rfl
  have c3 := fun W => Num.Put_len a0 _ W ha.1 ha.2 rfl
  generalize (putL lo.toNat).length = n1 at *
  generalize (putL hi.toNat).length = n2 at *
  generalize (putL a0.toNat).length = n3 at *
  have b1 : decide ((n1 : Int) ≤ (n2 : Int)) = true := decide_eq_true (by omega)
  have b1' : decide (n1 ≤ n2) = true := decide_eq_true hm
  have b2 : decide ((n2 : Int) ≤ 10) = true := decide_eq_true (by omega)
  have b2' : decide (n2 ≤ 10) = true := decide_eq_true ht
  have b3 : decide (1 ≤ (n3 : Int)) = true := decide_eq_true (by omega)
  have b3' : decide (1 ≤ n3) = true := decide_eq_true hp
  have C1 := Aside0.mk c1
  have C2 := Aside0.mk c2
  have C3 := Aside0.mk c3
  clear c1 c2 c3 ha hb l0 l1 i0 i1 li hm ht hp
  go_enter Try.func10, Try.ntmps10
  go_wp2_with fail
  refine (telemeterlaw01_known.calls true _ known_true).mono ?_
  rintro e w1 ⟨rfl, hb1⟩
  go_wp2_with fail
  refine (C1.out _).mono ?_
  rintro e w2 ⟨⟨g1, p1, rfl⟩, hb2⟩
  go_wp2_with fail
  refine (C2.out _).mono ?_
  rintro e w3 ⟨⟨g2, p2, rfl⟩, hb3⟩
  go_wp2_with fail
  refine (C2.out _).mono ?_
  rintro e w4 ⟨⟨g3, p3, rfl⟩, hb4⟩
  go_wp2_with fail
  refine (C3.out _).mono ?_
  rintro e w5 ⟨⟨g4, p4, rfl⟩, hb5⟩
  go_wp2
  go_ret
  refine ⟨rfl, ?_⟩
  exact hb1.trans ((hb2.mono hb1.size).trans ((hb3.mono (Nat.le_trans hb1.size hb2.size)).trans ((hb4.mono (Nat.le_trans (Nat.le_trans hb1.size hb2.size) hb3.size)).trans (hb5.mono (Nat.le_trans (Nat.le_trans (Nat.le_trans hb1.size hb2.size) hb3.size) hb4.size)))))

end Go.Proofs.Ytihihobeaghbkaa.Px
