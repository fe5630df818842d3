/- slices.IndexFunc and slices.ContainsFunc of the policy's rules, spans and rows of rules, whatever predicate is asked. -/
import Derived.Test.YtbjoleelfihikaaPx0
import Derived.WalkKit
import Derived.WalkSpells
import Derived.Lib.SliceRun
namespace Go.Proofs.Ytbjoleelfihikaa.Px
open Go.RowKit Go.Proofs.YtbjoleelfihikaaW.PrintWords Go.Proofs.YtbjoleelfihikaaW.PrintLast Go.Proofs.YtbjoleelfihikaaW.PrintMore
set_option linter.unusedVariables false
set_option linter.unusedSimpArgs false

/-- The first place from i on at which p holds, or -1. -/
def Pol.idxF {α : Type} (p : α → Bool) : List α → Int → Int
  | [], _ => -1
  | x :: r, i => if p x = true then i else Pol.idxF p r (i + 1)
theorem Pol.idxF_hit {α : Type} (p : α → Bool) (d : α) : ∀ (l : List α) (i : Int) (j : Nat), j < l.length → (∀ m, m < j → p (l.getD m d) = false) → p (l.getD j d) = true → Pol.idxF p l i = i + j
  | [], _, _, h, _, _ => absurd h (Nat.not_lt_zero _)
  | x :: r, i, 0, _, _, h2 => by
    have h3 : p x = true := by simpa using h2
    simp [Pol.idxF, h3]
  | x :: r, i, j + 1, h, h1, h2 => by
    have h0 : p x = false := by simpa using h1 0 (Nat.succ_pos _)
    have := Pol.idxF_hit p d r (i + 1) j (by simpa using h) (fun m hm => by simpa using h1 (m + 1) (by omega)) (by simpa using h2)
    simp only [Pol.idxF, h0]
    rw [if_neg (by decide), this]
    omega
theorem Pol.idxF_miss {α : Type} (p : α → Bool) (d : α) : ∀ (l : List α) (i : Int), (∀ m, m < l.length → p (l.getD m d) = false) → Pol.idxF p l i = -1
  | [], _, _ => rfl
  | x :: r, i, h1 => by
    have h0 : p x = false := by simpa using h1 0 (by simp)
    have := Pol.idxF_miss p d r (i + 1) (fun m hm => by simpa using h1 (m + 1) (by simpa using hm))
    simp only [Pol.idxF, h0]
    rw [if_neg (by decide), this]
theorem Pol.idxF_any {α : Type} (p : α → Bool) : ∀ (l : List α) (i : Int), 0 ≤ i → decide (0 ≤ Pol.idxF p l i) = l.any p
  | [], _, _ => rfl
  | x :: r, i, hi => by
    cases hx : p x with
    | true => simp [Pol.idxF, hx, hi]
    | false =>
      have := Pol.idxF_any p r (i + 1) (by omega)
      simp only [Pol.idxF, hx, List.any_cons, Bool.false_or]
      rw [if_neg (by decide)]
      exact this
theorem Pol.getD_mem {α : Type} (l : List α) (j : Nat) (d : α) (h : j < l.length) : l.getD j d ∈ l := by
  rw [List.getD_eq_getElem?_getD, List.getElem?_eq_getElem h]
  exact List.getElem_mem h

theorem Pol.at_rows {w : World} {A : Option Addr} {n : Nat} {xs : List (List S39)} (h : Kd.C (Kd.slice 39 k39) w A n xs) (i : Nat) (h1 : i < n) : ∃ ad A0 c0, A = some ad ∧ w.cell? (ad.add i) = some (.slice A0 (xs.getD i []).length c0) ∧ (xs.getD i []).length ≤ c0 ∧ Kd.C k39 w A0 (xs.getD i []).length (xs.getD i []) := by
  obtain ⟨ad, c, e, _, hK, hc0⟩ := Kd.C_get h ([] : List S39) (i : Int) (by omega) (by omega)
  have hc : ∀ j u, c[j]? = some u → w.cell? (ad.add ((i : Int).toNat * 1 + j)) = some u := hc0
  obtain ⟨A0, c0, rfl, l0, g0⟩ := hK
  simp only [Int.toNat_natCast] at hc l0 g0
  exact ⟨ad, A0, c0, e, by have hq := hc 0 _ rfl; rwa [Nat.mul_one, Nat.add_zero] at hq, l0, g0⟩

set_option maxHeartbeats 4000000 in
theorem Pol.IndexFunc39 (A0 : Option Addr) (c0 : Nat) (l0 : List (S39)) (p : S39 → Bool) (g : Nat) (lb : Array Value) (w : World)
    (eg : ∀ args w, (callFunc g args).run Try.prog w = .ok (.enter g args) w) (hr0 : Kd.C (k39) w A0 l0.length l0) (hbig : l0.length ≤ 9223372036854775807)
    (hp : ∀ (W : World) (x : S39), Below w.heap.size w W → x ∈ l0 → Calls Try.prog g (#[.agg #[.int .u8 x.f0, .int .i64 x.f1, .string x.f2, .string x.f3]] ++ lb) W fun e w' => e = .returned (.bool (p x)) ∧ Below w.heap.size w w') :
    Calls Try.prog 33 #[.slice A0 l0.length c0, .func (.func g) #[] lb] w fun e w' => e = .returned (.int .i64 (Pol.idxF p l0 0)) ∧ Below w.heap.size w w' := by
  go_enter Try.func33, Try.ntmps33
  go_wp2
  go_loopg [5, 8] l0.length (fun gg _ s8 wr => ∃ kk : Nat, kk ≤ l0.length ∧ l0.length - kk ≤ gg ∧ s8 = .int .i64 kk ∧ Aside0 (Below w.heap.size w wr) ∧ Aside0 (∀ j, j < kk → p (l0.getD j z39) = false))
  case atStart => exact ⟨0, Nat.zero_le _, by omega, rfl, ⟨Below.refl _ w⟩, ⟨fun j hj => absurd hj (Nat.not_lt_zero _)⟩⟩
  case round =>
    obtain ⟨kk, hkk, hg, rfl, BW, A⟩ := hrel
    by_cases hlt : kk < l0.length
    · have hltz : (kk : Int) < (l0.length : Int) := by omega
      have h0z : (0 : Int) ≤ (kk : Int) := by omega
      obtain ⟨ad, e0, hx0, hx1, hx2, hx3⟩ := at_T39 hr0 (kk : Int) h0z hltz
      simp only [Int.toNat_natCast, rd_T39] at hx0 hx1 hx2 hx3
      have hm : l0.getD kk z39 ∈ l0 := Pol.getD_mem l0 _ z39 hlt
      cases e0
      replace hx0 := (BW.out.cell (World.block_lt_of_cell? w _ hx0)).trans hx0
      replace hx1 := (BW.out.cell (World.block_lt_of_cell? w _ hx1)).trans hx1
      replace hx2 := (BW.out.cell (World.block_lt_of_cell? w _ hx2)).trans hx2
      replace hx3 := (BW.out.cell (World.block_lt_of_cell? w _ hx3)).trans hx3
      have hcall := hp wr (l0.getD kk z39) BW.out hm
      have B : Aside0 (l0.getD kk z39 = l0.getD kk z39) := ⟨rfl⟩
      clear hp hr0
      generalize hy : l0.getD kk z39 = y at hx0 hx1 hx2 hx3 hcall
      replace B : Aside0 (l0.getD kk z39 = y) := ⟨hy⟩
      clear hy
      cases hq : p y with
      | true =>
        rw [hq] at hcall
        go_wp2_with (fail)
        refine hcall.mono ?_
        rintro e w' ⟨rfl, hb'⟩
        go_wp2
        go_ret
        refine ⟨?_, hb'⟩
        rw [Pol.idxF_hit p z39 l0 0 kk hlt A.out (by rw [B.out]; exact hq)]
        simp
      | false =>
        rw [hq] at hcall
        go_wp2_with (fail)
        refine hcall.mono ?_
        rintro e w' ⟨rfl, hb'⟩
        go_wp2
        go_roundg (l0.length - (kk + 1))
        case measure => omega
        case rel =>
          refine ⟨kk + 1, by omega, by omega, by go_num, ⟨hb'⟩, ⟨fun j hj => ?_⟩⟩
          by_cases e : j = kk
          · subst e
            rw [B.out]; exact hq
          · exact A.out j (by omega)
    · have hltz : decide ((kk : Int) < (l0.length : Int)) = false := decide_eq_false (by omega)
      have hke : kk = l0.length := by omega
      clear hlt hp hr0
      go_wp2
      go_ret
      refine ⟨?_, BW.out⟩
      rw [Pol.idxF_miss p z39 l0 0 (hke ▸ A.out)]
      rfl


set_option maxHeartbeats 4000000 in
theorem Pol.IndexFunc36 (A0 : Option Addr) (c0 : Nat) (l0 : List (S36)) (p : S36 → Bool) (g : Nat) (lb : Array Value) (w : World)
    (eg : ∀ args w, (callFunc g args).run Try.prog w = .ok (.enter g args) w) (hr0 : Kd.C (k36) w A0 l0.length l0) (hbig : l0.length ≤ 9223372036854775807)
    (hp : ∀ (W : World) (x : S36) (A8 : Option Addr) (c8 : Nat), Below w.heap.size w W → x ∈ l0 → x.f8.length ≤ c8 → Kd.C k64 W A8 x.f8.length x.f8 → Calls Try.prog g (#[.agg #[.int .u64 x.f0, .int .u64 x.f1, .int .u64 x.f2, .int .u64 x.f3, .string x.f4, .int .i64 x.f5, .int .i64 x.f6, .bool x.f7, .slice A8 x.f8.length c8, .int .u64 x.f9]] ++ lb) W fun e w' => e = .returned (.bool (p x)) ∧ Below w.heap.size w w') :
    Calls Try.prog 45 #[.slice A0 l0.length c0, .func (.func g) #[] lb] w fun e w' => e = .returned (.int .i64 (Pol.idxF p l0 0)) ∧ Below w.heap.size w w' := by
  go_enter Try.func45, Try.ntmps45
  go_wp2
  go_loopg [5, 8] l0.length (fun gg _ s8 wr => ∃ kk : Nat, kk ≤ l0.length ∧ l0.length - kk ≤ gg ∧ s8 = .int .i64 kk ∧ Aside0 (Below w.heap.size w wr) ∧ Aside0 (∀ j, j < kk → p (l0.getD j z36) = false))
  case atStart => exact ⟨0, Nat.zero_le _, by omega, rfl, ⟨Below.refl _ w⟩, ⟨fun j hj => absurd hj (Nat.not_lt_zero _)⟩⟩
  case round =>
    obtain ⟨kk, hkk, hg, rfl, BW, A⟩ := hrel
    by_cases hlt : kk < l0.length
    · have hltz : (kk : Int) < (l0.length : Int) := by omega
      have h0z : (0 : Int) ≤ (kk : Int) := by omega
      obtain ⟨ad, A8, c8, e0, hx0, hx1, hx2, hx3, hx4, hx5, hx6, hx7, hx8, hx9, l8, g8⟩ := at_T36 hr0 (kk : Int) h0z hltz
      simp only [Int.toNat_natCast, rd_T36] at hx0 hx1 hx2 hx3 hx4 hx5 hx6 hx7 hx8 hx9 l8 g8
      have hm : l0.getD kk z36 ∈ l0 := Pol.getD_mem l0 _ z36 hlt
      cases e0
      replace hx0 := (BW.out.cell (World.block_lt_of_cell? w _ hx0)).trans hx0
      replace hx1 := (BW.out.cell (World.block_lt_of_cell? w _ hx1)).trans hx1
      replace hx2 := (BW.out.cell (World.block_lt_of_cell? w _ hx2)).trans hx2
      replace hx3 := (BW.out.cell (World.block_lt_of_cell? w _ hx3)).trans hx3
      replace hx4 := (BW.out.cell (World.block_lt_of_cell? w _ hx4)).trans hx4
      replace hx5 := (BW.out.cell (World.block_lt_of_cell? w _ hx5)).trans hx5
      replace hx6 := (BW.out.cell (World.block_lt_of_cell? w _ hx6)).trans hx6
      replace hx7 := (BW.out.cell (World.block_lt_of_cell? w _ hx7)).trans hx7
      replace hx8 := (BW.out.cell (World.block_lt_of_cell? w _ hx8)).trans hx8
      replace hx9 := (BW.out.cell (World.block_lt_of_cell? w _ hx9)).trans hx9
      have hcall := hp wr (l0.getD kk z36) A8 c8 BW.out hm l8 (Kd.C_below g8 BW.out)
      have B : Aside0 (l0.getD kk z36 = l0.getD kk z36) := ⟨rfl⟩
      clear hp hr0 g8 l8 hm
      generalize hy : l0.getD kk z36 = y at hx0 hx1 hx2 hx3 hx4 hx5 hx6 hx7 hx8 hx9 hcall
      replace B : Aside0 (l0.getD kk z36 = y) := ⟨hy⟩
      clear hy
      cases hq : p y with
      | true =>
        rw [hq] at hcall
        go_wp2_with (fail)
        refine hcall.mono ?_
        rintro e w' ⟨rfl, hb'⟩
        go_wp2
        go_ret
        refine ⟨?_, hb'⟩
        rw [Pol.idxF_hit p z36 l0 0 kk hlt A.out (by rw [B.out]; exact hq)]
        simp
      | false =>
        rw [hq] at hcall
        go_wp2_with (fail)
        refine hcall.mono ?_
        rintro e w' ⟨rfl, hb'⟩
        go_wp2
        go_roundg (l0.length - (kk + 1))
        case measure => omega
        case rel =>
          refine ⟨kk + 1, by omega, by omega, by go_num, ⟨hb'⟩, ⟨fun j hj => ?_⟩⟩
          by_cases e : j = kk
          · subst e
            rw [B.out]; exact hq
          · exact A.out j (by omega)
    · have hltz : decide ((kk : Int) < (l0.length : Int)) = false := decide_eq_false (by omega)
      have hke : kk = l0.length := by omega
      clear hlt hp hr0
      go_wp2
      go_ret
      refine ⟨?_, BW.out⟩
      rw [Pol.idxF_miss p z36 l0 0 (hke ▸ A.out)]
      rfl


set_option maxHeartbeats 4000000 in
theorem Pol.IndexFunc30 (A0 : Option Addr) (c0 : Nat) (l0 : List (List S39)) (p : List S39 → Bool) (g : Nat) (lb : Array Value) (w : World)
    (eg : ∀ args w, (callFunc g args).run Try.prog w = .ok (.enter g args) w) (hr0 : Kd.C (Kd.slice 39 k39) w A0 l0.length l0) (hbig : l0.length ≤ 9223372036854775807)
    (hp : ∀ (W : World) (x : List S39) (A : Option Addr) (c : Nat), Below w.heap.size w W → x ∈ l0 → x.length ≤ c → Kd.C k39 W A x.length x → Calls Try.prog g (#[.slice A x.length c] ++ lb) W fun e w' => e = .returned (.bool (p x)) ∧ Below w.heap.size w w') :
    Calls Try.prog 23 #[.slice A0 l0.length c0, .func (.func g) #[] lb] w fun e w' => e = .returned (.int .i64 (Pol.idxF p l0 0)) ∧ Below w.heap.size w w' := by
  go_enter Try.func23, Try.ntmps23
  go_wp2
  go_loopg [5, 8] l0.length (fun gg _ s8 wr => ∃ kk : Nat, kk ≤ l0.length ∧ l0.length - kk ≤ gg ∧ s8 = .int .i64 kk ∧ Aside0 (Below w.heap.size w wr) ∧ Aside0 (∀ j, j < kk → p (l0.getD j []) = false))
  case atStart => exact ⟨0, Nat.zero_le _, by omega, rfl, ⟨Below.refl _ w⟩, ⟨fun j hj => absurd hj (Nat.not_lt_zero _)⟩⟩
  case round =>
    obtain ⟨kk, hkk, hg, rfl, BW, AA⟩ := hrel
    by_cases hlt : kk < l0.length
    · have hltz : (kk : Int) < (l0.length : Int) := by omega
      have h0z : (0 : Int) ≤ (kk : Int) := by omega
      obtain ⟨ad, A, c, e0, hx0, l8, g8⟩ := Pol.at_rows hr0 kk hlt
      have hm : l0.getD kk [] ∈ l0 := Pol.getD_mem l0 _ [] hlt
      cases e0
      replace hx0 := (BW.out.cell (World.block_lt_of_cell? w _ hx0)).trans hx0
      have hcall := hp wr (l0.getD kk []) A c BW.out hm l8 (Kd.C_below g8 BW.out)
      have B : Aside0 (l0.getD kk [] = l0.getD kk []) := ⟨rfl⟩
      clear hp hr0 g8 l8 hm
      generalize hy : l0.getD kk [] = y at hx0 hcall
      replace B : Aside0 (l0.getD kk [] = y) := ⟨hy⟩
      clear hy
      cases hq : p y with
      | true =>
        rw [hq] at hcall
        go_wp2_with (fail)
        refine hcall.mono ?_
        rintro e w' ⟨rfl, hb'⟩
        go_wp2
        go_ret
        refine ⟨?_, hb'⟩
        rw [Pol.idxF_hit p [] l0 0 kk hlt AA.out (by rw [B.out]; exact hq)]
        simp
      | false =>
        rw [hq] at hcall
        go_wp2_with (fail)
        refine hcall.mono ?_
        rintro e w' ⟨rfl, hb'⟩
        go_wp2
        go_roundg (l0.length - (kk + 1))
        case measure => omega
        case rel =>
          refine ⟨kk + 1, by omega, by omega, by go_num, ⟨hb'⟩, ⟨fun j hj => ?_⟩⟩
          by_cases e : j = kk
          · subst e
            rw [B.out]; exact hq
          · exact AA.out j (by omega)
    · have hltz : decide ((kk : Int) < (l0.length : Int)) = false := decide_eq_false (by omega)
      have hke : kk = l0.length := by omega
      clear hlt hp hr0
      go_wp2
      go_ret
      refine ⟨?_, BW.out⟩
      rw [Pol.idxF_miss p [] l0 0 (hke ▸ AA.out)]
      rfl


set_option maxHeartbeats 4000000 in
theorem Pol.ContainsFunc39 (A0 : Option Addr) (c0 : Nat) (l0 : List (S39)) (p : S39 → Bool) (g : Nat) (lb : Array Value) (w : World)
    (eg : ∀ args w, (callFunc g args).run Try.prog w = .ok (.enter g args) w) (hr0 : Kd.C (k39) w A0 l0.length l0) (hbig : l0.length ≤ 9223372036854775807)
    (hp : ∀ (W : World) (x : S39), Below w.heap.size w W → x ∈ l0 → Calls Try.prog g (#[.agg #[.int .u8 x.f0, .int .i64 x.f1, .string x.f2, .string x.f3]] ++ lb) W fun e w' => e = .returned (.bool (p x)) ∧ Below w.heap.size w w') :
    Calls Try.prog 21 #[.slice A0 l0.length c0, .func (.func g) #[] lb] w fun e w' => e = .returned (.bool (l0.any p)) ∧ Below w.heap.size w w' := by
  have hcall := Pol.IndexFunc39 A0 c0 l0 p g lb w eg hr0 hbig hp
  rw [← Pol.idxF_any p l0 0 (Int.le_refl _)]
  generalize Pol.idxF p l0 0 = r at hcall ⊢
  clear hp hr0 eg
  go_enter Try.func21, Try.ntmps21
  have e6 : ∀ args w, (callFunc 33 args).run Try.prog w = .ok (.enter 33 args) w := fun args w => enters_ Try.func33 (by kernel_rfl) rfl args w
  go_wp2_with (fail)
  refine hcall.mono ?_
  rintro e w' ⟨rfl, hb'⟩
  go_wp2
  go_ret
  exact ⟨rfl, hb'⟩


set_option maxHeartbeats 4000000 in
theorem Pol.ContainsFunc36 (A0 : Option Addr) (c0 : Nat) (l0 : List (S36)) (p : S36 → Bool) (g : Nat) (lb : Array Value) (w : World)
    (eg : ∀ args w, (callFunc g args).run Try.prog w = .ok (.enter g args) w) (hr0 : Kd.C (k36) w A0 l0.length l0) (hbig : l0.length ≤ 9223372036854775807)
    (hp : ∀ (W : World) (x : S36) (A8 : Option Addr) (c8 : Nat), Below w.heap.size w W → x ∈ l0 → x.f8.length ≤ c8 → Kd.C k64 W A8 x.f8.length x.f8 → Calls Try.prog g (#[.agg #[.int .u64 x.f0, .int .u64 x.f1, .int .u64 x.f2, .int .u64 x.f3, .string x.f4, .int .i64 x.f5, .int .i64 x.f6, .bool x.f7, .slice A8 x.f8.length c8, .int .u64 x.f9]] ++ lb) W fun e w' => e = .returned (.bool (p x)) ∧ Below w.heap.size w w') :
    Calls Try.prog 40 #[.slice A0 l0.length c0, .func (.func g) #[] lb] w fun e w' => e = .returned (.bool (l0.any p)) ∧ Below w.heap.size w w' := by
  have hcall := Pol.IndexFunc36 A0 c0 l0 p g lb w eg hr0 hbig hp
  rw [← Pol.idxF_any p l0 0 (Int.le_refl _)]
  generalize Pol.idxF p l0 0 = r at hcall ⊢
  clear hp hr0 eg
  go_enter Try.func40, Try.ntmps40
  have e6 : ∀ args w, (callFunc 45 args).run Try.prog w = .ok (.enter 45 args) w := fun args w => enters_ Try.func45 (by kernel_rfl) rfl args w
  go_wp2_with (fail)
  refine hcall.mono ?_
  rintro e w' ⟨rfl, hb'⟩
  go_wp2
  go_ret
  exact ⟨rfl, hb'⟩

end Go.Proofs.Ytbjoleelfihikaa.Px
