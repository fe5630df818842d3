/- item.Encode, of logs and of what is none. -/
import Derived.Test.YtfapckmobeppnaaItmC
import Derived.Test.YtfapckmobeppnaaItmL
import Derived.Test.YtfapckmobeppnaaEmp
import Derived.Test.YtfapckmobeppnaaPx1
namespace Go.Proofs.Ytfapckmobeppnaa.Px
open Go.RowKit Go.Proofs.YtfapckmobeppnaaW.PrintWords Go.Proofs.YtfapckmobeppnaaW.PrintLast Go.Proofs.YtfapckmobeppnaaW.PrintMore
set_option linter.unusedVariables false
set_option linter.unusedSimpArgs false

theorem Itm.lit_N {W : World} {g : Nat} {base : Nat} {x : Int} (h : W.heap[g]? = some (.cells #[.int .u8 x] 5 (0, 0))) (hb : base ≤ g) : Kd.N (Kd.int .u8) 5 W base (fun k => k = g) (.slice (some ⟨g, 0, none⟩) 1 1) [x] := by
 refine Kd.R_N (Kd.R_of_own (h1 := fun _ => rfl) (xs := [x]) ⟨rfl, Or.inr ⟨g, 1, #[.int .u8 x], rfl, hb, h, Nat.le_refl _, by decide, rfl, rfl⟩⟩ (fun k hk => ?_))
 simp [Value.ownBlock] at hk
 exact hk.symm
set_option maxHeartbeats 1000000 in
set_option maxRecDepth 100000 in
theorem Itm.Encode_log (kd hi lo id par : Int) (nm : ByteArray) (st en : Int) (bad : Bool) (A : Option Addr) (c : Nat) (l : List S36) (rv : Int) (k : ByteArray) (wt t : Int) (b : ByteArray) (w : World) (hr : Kd.C k36 w A l.length l) (hc : l.length ≤ c) (hk : ∀ a ∈ l, a.f0.size ≤ 140737488355328) (hnm : nm.size ≤ 140737488355328) (hkk : k.size ≤ 140737488355328) (hkd : kd = 2) (hRL : Itm.rightLog k wt t b = true) (hE : item_empty.f hi lo id par nm st en bad l rv = some true) (hk1 : k.size ≤ 1000) (hwt : 0 ≤ wt ∧ wt < 18446744073709551616) (ht : 0 ≤ t ∧ t < 9223372036854775808) (hb1 : b.size ≤ 1000) :
  Calls Try.prog 19 #[.agg #[.int .u8 kd, .int .u64 hi, .int .u64 lo, .int .u64 id, .int .u64 par, .string nm, .int .i64 st, .int .i64 en, .bool bad, .slice A l.length c, .int .u64 rv, .string k, .int .u64 wt, .int .i64 t, .string b]] w fun e w' => ∃ v, e = .returned (.tuple #[v, .int .u16 0]) ∧ Kd.N (Kd.int .u8) 5 w' w.heap.size (fun _ => True) v (2 :: Itm.logL k wt t b) ∧ Below w.heap.size w w' := by
 have hu38 := Try.underlying38
 subst hkd
 have hB3 := below_alloc (below_alloc (below_alloc (Below.refl w.heap.size w) (.cells #[.int .u8 2, .int .u64 hi, .int .u64 lo, .int .u64 id, .int .u64 par, .string nm, .int .i64 st, .int .i64 en, .bool bad, .slice A l.length c, .int .u64 rv, .string k, .int .u64 wt, .int .i64 t, .string b] 38 (0, 0))) (.cells #[.int .u8 2] 5 (0, 0))) (.cells #[.slice (some ⟨w.heap.size + 1, 0, none⟩) 1 1] 74 (0, 0))
 have s1 : (w.alloc (.cells #[.int .u8 2, .int .u64 hi, .int .u64 lo, .int .u64 id, .int .u64 par, .string nm, .int .i64 st, .int .i64 en, .bool bad, .slice A l.length c, .int .u64 rv, .string k, .int .u64 wt, .int .i64 t, .string b] 38 (0, 0))).heap.size = w.heap.size + 1 := World.size_alloc _ _
 have s2 : ((w.alloc (.cells #[.int .u8 2, .int .u64 hi, .int .u64 lo, .int .u64 id, .int .u64 par, .string nm, .int .i64 st, .int .i64 en, .bool bad, .slice A l.length c, .int .u64 rv, .string k, .int .u64 wt, .int .i64 t, .string b] 38 (0, 0))).alloc (.cells #[.int .u8 2] 5 (0, 0))).heap.size = w.heap.size + 1 + 1 := by rw [World.size_alloc, s1]
 have hbI := blk_alloc (blk_alloc (blk_new w (.cells #[.int .u8 2, .int .u64 hi, .int .u64 lo, .int .u64 id, .int .u64 par, .string nm, .int .i64 st, .int .i64 en, .bool bad, .slice A l.length c, .int .u64 rv, .string k, .int .u64 wt, .int .i64 t, .string b] 38 (0, 0))) (.cells #[.int .u8 2] 5 (0, 0))) (.cells #[.slice (some ⟨w.heap.size + 1, 0, none⟩) 1 1] 74 (0, 0))
 have hbR := blk_alloc (blk_new (w.alloc (.cells #[.int .u8 2, .int .u64 hi, .int .u64 lo, .int .u64 id, .int .u64 par, .string nm, .int .i64 st, .int .i64 en, .bool bad, .slice A l.length c, .int .u64 rv, .string k, .int .u64 wt, .int .i64 t, .string b] 38 (0, 0))) (.cells #[.int .u8 2] 5 (0, 0))) (.cells #[.slice (some ⟨w.heap.size + 1, 0, none⟩) 1 1] 74 (0, 0))
 rw [s1] at hbR
 have hbW := blk_new ((w.alloc (.cells #[.int .u8 2, .int .u64 hi, .int .u64 lo, .int .u64 id, .int .u64 par, .string nm, .int .i64 st, .int .i64 en, .bool bad, .slice A l.length c, .int .u64 rv, .string k, .int .u64 wt, .int .i64 t, .string b] 38 (0, 0))).alloc (.cells #[.int .u8 2] 5 (0, 0))) (.cells #[.slice (some ⟨w.heap.size + 1, 0, none⟩) 1 1] 74 (0, 0))
 rw [s2] at hbW
 have s3 : (((w.alloc (.cells #[.int .u8 2, .int .u64 hi, .int .u64 lo, .int .u64 id, .int .u64 par, .string nm, .int .i64 st, .int .i64 en, .bool bad, .slice A l.length c, .int .u64 rv, .string k, .int .u64 wt, .int .i64 t, .string b] 38 (0, 0))).alloc (.cells #[.int .u8 2] 5 (0, 0))).alloc (.cells #[.slice (some ⟨w.heap.size + 1, 0, none⟩) 1 1] 74 (0, 0))).heap.size = w.heap.size + 1 + 1 + 1 := by rw [World.size_alloc, s2]
 clear s1 s2
 go_enter Try.func19, Try.ntmps19
 go_wp2_with (fail)
 generalize (((w.alloc (.cells #[.int .u8 2, .int .u64 hi, .int .u64 lo, .int .u64 id, .int .u64 par, .string nm, .int .i64 st, .int .i64 en, .bool bad, .slice A l.length c, .int .u64 rv, .string k, .int .u64 wt, .int .i64 t, .string b] 38 (0, 0))).alloc (.cells #[.int .u8 2] 5 (0, 0))).alloc (.cells #[.slice (some ⟨w.heap.size + 1, 0, none⟩) 1 1] 74 (0, 0))) = W3 at *
 have hbIa := Aside0.mk hbI; have hbRa := Aside0.mk hbR; have hbWa := Aside0.mk hbW; have hBa := Aside0.mk hB3; have hra := Aside0.mk hr; have hEa := Aside0.mk hE
 clear hbI hbR hbW hB3 hr hE
 refine (Itm.RightLog_calls k wt t b W3 hkk).mono ?_
 rintro e w4 ⟨rfl, hb4⟩
 rw [hRL]
 have hbI := Aside0.mk (blk_below hbIa.out hb4)
 have hbR := Aside0.mk (blk_below hbRa.out hb4)
 have hbW := Aside0.mk (blk_below hbWa.out hb4)
 have hB := Aside0.mk (below_step hBa.out hb4)
 clear hbIa hbRa hbWa hBa hb4
 have z0 : w4.cell? ⟨w.heap.size, 0, none⟩ = some (.int .u8 2) := blk_cell hbI.out 0
 have z1 : w4.cell? ⟨w.heap.size, 1, none⟩ = some (.int .u64 hi) := blk_cell hbI.out 1
 have z2 : w4.cell? ⟨w.heap.size, 2, none⟩ = some (.int .u64 lo) := blk_cell hbI.out 2
 have z3 : w4.cell? ⟨w.heap.size, 3, none⟩ = some (.int .u64 id) := blk_cell hbI.out 3
 have z4 : w4.cell? ⟨w.heap.size, 4, none⟩ = some (.int .u64 par) := blk_cell hbI.out 4
 have z5 : w4.cell? ⟨w.heap.size, 5, none⟩ = some (.string nm) := blk_cell hbI.out 5
 have z6 : w4.cell? ⟨w.heap.size, 6, none⟩ = some (.int .i64 st) := blk_cell hbI.out 6
 have z7 : w4.cell? ⟨w.heap.size, 7, none⟩ = some (.int .i64 en) := blk_cell hbI.out 7
 have z8 : w4.cell? ⟨w.heap.size, 8, none⟩ = some (.bool bad) := blk_cell hbI.out 8
 have z9 : w4.cell? ⟨w.heap.size, 9, none⟩ = some (.slice A l.length c) := blk_cell hbI.out 9
 have z10 : w4.cell? ⟨w.heap.size, 10, none⟩ = some (.int .u64 rv) := blk_cell hbI.out 10
 have z11 : w4.cell? ⟨w.heap.size, 11, none⟩ = some (.string k) := blk_cell hbI.out 11
 have z12 : w4.cell? ⟨w.heap.size, 12, none⟩ = some (.int .u64 wt) := blk_cell hbI.out 12
 have z13 : w4.cell? ⟨w.heap.size, 13, none⟩ = some (.int .i64 t) := blk_cell hbI.out 13
 have z14 : w4.cell? ⟨w.heap.size, 14, none⟩ = some (.string b) := blk_cell hbI.out 14
 go_wp2_with (fail)
 refine (item_empty.calls hi lo id par nm st en bad A c l rv true _ (Kd.C_below hra.out hB.out) hc hEa.out).mono ?_
 rintro e w5 ⟨rfl, hb5⟩
 clear z0 z1 z2 z3 z4 z5 z6 z7 z8 z9 z10 z11 z12 z13 z14
 replace hbI := Aside0.mk (blk_below hbI.out hb5)
 replace hbR := Aside0.mk (blk_below hbR.out hb5)
 replace hbW := Aside0.mk (blk_below hbW.out hb5)
 replace hB := Aside0.mk (below_step hB.out hb5)
 clear hb5
 have z0 : w5.cell? ⟨w.heap.size, 0, none⟩ = some (.int .u8 2) := blk_cell hbI.out 0
 have z1 : w5.cell? ⟨w.heap.size, 1, none⟩ = some (.int .u64 hi) := blk_cell hbI.out 1
 have z2 : w5.cell? ⟨w.heap.size, 2, none⟩ = some (.int .u64 lo) := blk_cell hbI.out 2
 have z3 : w5.cell? ⟨w.heap.size, 3, none⟩ = some (.int .u64 id) := blk_cell hbI.out 3
 have z4 : w5.cell? ⟨w.heap.size, 4, none⟩ = some (.int .u64 par) := blk_cell hbI.out 4
 have z5 : w5.cell? ⟨w.heap.size, 5, none⟩ = some (.string nm) := blk_cell hbI.out 5
 have z6 : w5.cell? ⟨w.heap.size, 6, none⟩ = some (.int .i64 st) := blk_cell hbI.out 6
 have z7 : w5.cell? ⟨w.heap.size, 7, none⟩ = some (.int .i64 en) := blk_cell hbI.out 7
 have z8 : w5.cell? ⟨w.heap.size, 8, none⟩ = some (.bool bad) := blk_cell hbI.out 8
 have z9 : w5.cell? ⟨w.heap.size, 9, none⟩ = some (.slice A l.length c) := blk_cell hbI.out 9
 have z10 : w5.cell? ⟨w.heap.size, 10, none⟩ = some (.int .u64 rv) := blk_cell hbI.out 10
 have z11 : w5.cell? ⟨w.heap.size, 11, none⟩ = some (.string k) := blk_cell hbI.out 11
 have z12 : w5.cell? ⟨w.heap.size, 12, none⟩ = some (.int .u64 wt) := blk_cell hbI.out 12
 have z13 : w5.cell? ⟨w.heap.size, 13, none⟩ = some (.int .i64 t) := blk_cell hbI.out 13
 have z14 : w5.cell? ⟨w.heap.size, 14, none⟩ = some (.string b) := blk_cell hbI.out 14
 go_wp2_with (fail)
 have hWr : Itm.W w5 w.heap.size (fun k => k = w.heap.size + 1) (w.heap.size + 1 + 1) [2] := ⟨_, 1, hbW.out, by omega, by omega, Itm.lit_N hbR.out (by omega)⟩
 refine (Itm.log_calls w w5 _ (w.heap.size + 1 + 1) [2] k wt t b hWr hB.out hk1 hwt ht hb1 (by simp)).mono ?_
 rintro e w6 ⟨⟨v6, rfl⟩, ⟨A6, c6, hb6, _, _, hN6⟩, _, hB6⟩
 have y0 : w6.cell? ⟨w.heap.size + 1 + 1, 0, none⟩ = some (.slice A6 ([2] ++ Itm.logL k wt t b).length c6) := blk_cell hb6 0
 have hN6a := Aside0.mk hN6; have hB6a := Aside0.mk hB6
 clear hN6 hB6 hb6 hWr z0 z1 z2 z3 z4 z5 z6 z7 z8 z9 z10 z11 z12 z13 z14
 generalize hq : [2] ++ Itm.logL k wt t b = q at *
 go_wp2_with (fail)
 go_ret2
 refine ⟨_, rfl, ?_, hB6a.out⟩
 have hq2 : (2 :: Itm.logL k wt t b) = q := hq
 rw [hq2]
 exact Kd.N_mono hN6a.out (fun _ _ => trivial)
set_option maxHeartbeats 1000000 in
set_option maxRecDepth 100000 in
theorem Itm.Encode_kind (kd hi lo id par : Int) (nm : ByteArray) (st en : Int) (bad : Bool) (A : Option Addr) (c : Nat) (l : List S36) (rv : Int) (k : ByteArray) (wt t : Int) (b : ByteArray) (w : World) (hr : Kd.C k36 w A l.length l) (hc : l.length ≤ c) (hk : ∀ a ∈ l, a.f0.size ≤ 140737488355328) (hnm : nm.size ≤ 140737488355328) (hkk : k.size ≤ 140737488355328) (hkd1 : kd ≠ 1) (hkd : kd ≠ 2) :
  Calls Try.prog 19 #[.agg #[.int .u8 kd, .int .u64 hi, .int .u64 lo, .int .u64 id, .int .u64 par, .string nm, .int .i64 st, .int .i64 en, .bool bad, .slice A l.length c, .int .u64 rv, .string k, .int .u64 wt, .int .i64 t, .string b]] w fun e w' => e = .returned (.tuple #[.slice none 0 0, .int .u16 40]) ∧ Below w.heap.size w w' := by
 have hu38 := Try.underlying38
 have b1 : (kd == 1) = false := beq_eq_false_iff_ne.mpr hkd1
 have b2 : (kd == 2) = false := beq_eq_false_iff_ne.mpr hkd
 clear hkd1 hkd
 have hB3 := below_alloc (below_alloc (below_alloc (Below.refl w.heap.size w) (.cells #[.int .u8 kd, .int .u64 hi, .int .u64 lo, .int .u64 id, .int .u64 par, .string nm, .int .i64 st, .int .i64 en, .bool bad, .slice A l.length c, .int .u64 rv, .string k, .int .u64 wt, .int .i64 t, .string b] 38 (0, 0))) (.cells #[.int .u8 kd] 5 (0, 0))) (.cells #[.slice (some ⟨w.heap.size + 1, 0, none⟩) 1 1] 74 (0, 0))
 have s1 : (w.alloc (.cells #[.int .u8 kd, .int .u64 hi, .int .u64 lo, .int .u64 id, .int .u64 par, .string nm, .int .i64 st, .int .i64 en, .bool bad, .slice A l.length c, .int .u64 rv, .string k, .int .u64 wt, .int .i64 t, .string b] 38 (0, 0))).heap.size = w.heap.size + 1 := World.size_alloc _ _
 have s2 : ((w.alloc (.cells #[.int .u8 kd, .int .u64 hi, .int .u64 lo, .int .u64 id, .int .u64 par, .string nm, .int .i64 st, .int .i64 en, .bool bad, .slice A l.length c, .int .u64 rv, .string k, .int .u64 wt, .int .i64 t, .string b] 38 (0, 0))).alloc (.cells #[.int .u8 kd] 5 (0, 0))).heap.size = w.heap.size + 1 + 1 := by rw [World.size_alloc, s1]
 have hbI := blk_alloc (blk_alloc (blk_new w (.cells #[.int .u8 kd, .int .u64 hi, .int .u64 lo, .int .u64 id, .int .u64 par, .string nm, .int .i64 st, .int .i64 en, .bool bad, .slice A l.length c, .int .u64 rv, .string k, .int .u64 wt, .int .i64 t, .string b] 38 (0, 0))) (.cells #[.int .u8 kd] 5 (0, 0))) (.cells #[.slice (some ⟨w.heap.size + 1, 0, none⟩) 1 1] 74 (0, 0))
 have hbR := blk_alloc (blk_new (w.alloc (.cells #[.int .u8 kd, .int .u64 hi, .int .u64 lo, .int .u64 id, .int .u64 par, .string nm, .int .i64 st, .int .i64 en, .bool bad, .slice A l.length c, .int .u64 rv, .string k, .int .u64 wt, .int .i64 t, .string b] 38 (0, 0))) (.cells #[.int .u8 kd] 5 (0, 0))) (.cells #[.slice (some ⟨w.heap.size + 1, 0, none⟩) 1 1] 74 (0, 0))
 rw [s1] at hbR
 have hbW := blk_new ((w.alloc (.cells #[.int .u8 kd, .int .u64 hi, .int .u64 lo, .int .u64 id, .int .u64 par, .string nm, .int .i64 st, .int .i64 en, .bool bad, .slice A l.length c, .int .u64 rv, .string k, .int .u64 wt, .int .i64 t, .string b] 38 (0, 0))).alloc (.cells #[.int .u8 kd] 5 (0, 0))) (.cells #[.slice (some ⟨w.heap.size + 1, 0, none⟩) 1 1] 74 (0, 0))
 rw [s2] at hbW
 have s3 : (((w.alloc (.cells #[.int .u8 kd, .int .u64 hi, .int .u64 lo, .int .u64 id, .int .u64 par, .string nm, .int .i64 st, .int .i64 en, .bool bad, .slice A l.length c, .int .u64 rv, .string k, .int .u64 wt, .int .i64 t, .string b] 38 (0, 0))).alloc (.cells #[.int .u8 kd] 5 (0, 0))).alloc (.cells #[.slice (some ⟨w.heap.size + 1, 0, none⟩) 1 1] 74 (0, 0))).heap.size = w.heap.size + 1 + 1 + 1 := by rw [World.size_alloc, s2]
 clear s1 s2
 go_enter Try.func19, Try.ntmps19
 go_wp2_with (fail)
 go_ret2
 exact ⟨rfl, hB3⟩
end Go.Proofs.Ytfapckmobeppnaa.Px
