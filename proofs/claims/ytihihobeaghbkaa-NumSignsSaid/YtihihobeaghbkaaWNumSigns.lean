/- The law NumSigns, walked by hand: a signed number is told back; numbers near 0 are small. No condition beyond the row's own. -/
import Derived.Test.YtihihobeaghbkaaWNumOrder
import Derived.Test.YtihihobeaghbkaaPx6
import Derived.Test.YtihihobeaghbkaaPx7
namespace Go.Proofs.Ytihihobeaghbkaa.Px
open Go.RowKit Go.Proofs.YtihihobeaghbkaaW.PrintWords Go.Proofs.YtihihobeaghbkaaW.PrintLast Go.Proofs.YtihihobeaghbkaaW.PrintMore
set_option linter.unusedVariables false

set_option maxHeartbeats 4000000 in
set_option maxRecDepth 100000 in
theorem telemeterlaw01_NumSigns.walk2 (a0 : Int) (a1 : Int) (w : World) (w0 : (Lit.int .i64 a0).wf = true) (w1 : (Lit.int .i8 a1).wf = true) :
    Calls Try.prog 8 #[.int .i64 a0, .int .i8 a1] w fun e w' => e = .returned (.bool true) ∧ Below w.heap.size w w' := by
  have ha := i64_wf w0
  have hb := i8_wf w1
  clear w0 w1
  have z1 := zig_eq ha.1 ha.2
  have z2 := zig_eq (n := a1) (by omega) (by omega)
  obtain ⟨za, hza⟩ : ∃ z, (if a0 < 0 then -2 * a0 - 1 else 2 * a0) = z := ⟨_, rfl⟩
  obtain ⟨zk, hzk⟩ : ∃ z, (if a1 < 0 then -2 * a1 - 1 else 2 * a1) = z := ⟨_, rfl⟩
  rw [hza] at z1
  rw [hzk] at z2
  have za0 : 0 ≤ za ∧ za < 18446744073709551616 := by rw [← hza]; split <;> omega
  have zk0 : 0 ≤ zk ∧ zk < 256 := by rw [← hzk]; split <;> omega
  have g1 : num_Zag.f za = some a0 := by
    rw [zag_eq za0.1 za0.2, ← hza]; congr 1; split <;> split <;> omega
  obtain ⟨u, hu⟩ : ∃ u, IntKind.u64.wrap a0 = u := ⟨_, rfl⟩
  have hu0 : 0 ≤ u ∧ u < 18446744073709551616 := by rw [← hu, wrap_u64]; omega
  obtain ⟨m, hm⟩ : ∃ m : Int, (if u % 2 = 1 then -1 - u / 2 else u / 2) = m := ⟨_, rfl⟩
  have g2 : num_Zag.f u = some m := by rw [zag_eq hu0.1 hu0.2, hm]
  have hm0 : -9223372036854775808 ≤ m ∧ m < 9223372036854775808 := by rw [← hm]; split <;> omega
  have z3 : num_Zig.f m = some u := by
    rw [zig_eq hm0.1 hm0.2, ← hm]; congr 1; split <;> split <;> omega
  have hl : (putL zk.toNat).length ≤ 2 := putL_length _ 1 (by simp only [Nat.reduceAdd, Nat.reducePow]; omega)
  have c5 := fun W => Num.Put_len zk _ W zk0.1 (by omega) rfl
  generalize (putL zk.toNat).length = n1 at *
  have e1 : wrap64 a1 = a1 := wrap64_id (by omega) (by omega)
  have b1 : (a0 == a0) = true := by simp
  have b2 : decide (zk < 256) = true := decide_eq_true zk0.2
  have b3 : (u == u) = true := by simp
  have b4 : decide ((n1 : Int) ≤ 2) = true := decide_eq_true (by omega)
  have b4' : decide (n1 ≤ 2) = true := decide_eq_true hl
  have C1 := Aside0.mk (fun W => num_Zig.calls a0 za W z1)
  have C2 := Aside0.mk (fun W => num_Zag.calls za a0 W g1)
  have C3 := Aside0.mk (fun W => num_Zig.calls a1 zk W z2)
  have C4 := Aside0.mk (fun W => num_Zag.calls u m W g2)
  have C6 := Aside0.mk (fun W => num_Zig.calls m u W z3)
  have C5 := Aside0.mk c5
  clear z1 z2 g1 g2 z3 c5 hza hzk hm hm0 hu0 za0 zk0 hl
  go_enter Try.func8, Try.ntmps8
  go_wp2_with fail
  refine (telemeterlaw01_known.calls true _ known_true).mono ?_
  rintro e w1 ⟨rfl, hb1⟩
  go_wp2_with fail
  refine (C1.out _).mono ?_
  rintro e w2 ⟨rfl, ⟨n2, rfl⟩⟩
  go_wp2_with fail
  refine (C2.out _).mono ?_
  rintro e w3 ⟨rfl, ⟨n3, rfl⟩⟩
  go_wp2_with fail
  refine (C3.out _).mono ?_
  rintro e w4 ⟨rfl, ⟨n4, rfl⟩⟩
  go_wp2_with fail
  refine (C4.out _).mono ?_
  rintro e w5 ⟨rfl, ⟨n5, rfl⟩⟩
  go_wp2_with fail
  refine (C6.out _).mono ?_
  rintro e w6 ⟨rfl, ⟨n6, rfl⟩⟩
  go_wp2_with fail
  refine (C3.out _).mono ?_
  rintro e w7 ⟨rfl, ⟨n7, rfl⟩⟩
  go_wp2_with fail
  refine (C5.out _).mono ?_
  rintro e w8 ⟨⟨g4, p4, rfl⟩, hb5⟩
  go_wp2
  go_ret
  refine ⟨rfl, ?_⟩
  exact (pw_below_drewN hb1 _).trans (hb5.mono (pw_below_drewN hb1 _).size)

end Go.Proofs.Ytihihobeaghbkaa.Px
