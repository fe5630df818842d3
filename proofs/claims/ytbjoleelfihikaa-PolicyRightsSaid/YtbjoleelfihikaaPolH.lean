/- policy.Holds, policy.All, policy.Which and policy.Right come to the plain functions of them: the walks. -/
import Derived.Test.YtbjoleelfihikaaPolP
import Derived.Test.YtbjoleelfihikaaPx35
import Derived.Test.YtbjoleelfihikaaPx36
import Derived.Test.YtbjoleelfihikaaPx37
import Derived.Deep.RegionWith
namespace Go.Proofs.Ytbjoleelfihikaa.Px
open Go.RowKit Go.Proofs.YtbjoleelfihikaaW.PrintWords Go.Proofs.YtbjoleelfihikaaW.PrintLast Go.Proofs.YtbjoleelfihikaaW.PrintMore
set_option linter.unusedVariables false
set_option linter.unusedSimpArgs false

theorem Pol.run_store_nilFunc {P : Program} {w : World} {a : Addr} {m : Mode} : (store a .nilFunc m).run P w = stored P w a .nilFunc m := run_store P w a _ m rfl
theorem Pol.run_store_func {P : Program} {w : World} {a : Addr} {m : Mode} (fn : Fn) (first captured : Array Value) : (store a (.func fn first captured) m).run P w = stored P w a (.func fn first captured) m := run_store P w a _ m rfl
attribute [local go_sem] Pol.run_store_nilFunc Pol.run_store_func
/-! ### what is asked of one span -/
set_option maxHeartbeats 4000000 in
theorem Pol.wrong1 (W : World) (x : S36) (A8 : Option Addr) (c8 : Nat) :
    Calls Try.prog 41 #[.agg #[.int .u64 x.f0, .int .u64 x.f1, .int .u64 x.f2, .int .u64 x.f3, .string x.f4, .int .i64 x.f5, .int .i64 x.f6, .bool x.f7, .slice A8 x.f8.length c8, .int .u64 x.f9]] W fun e w' => e = .returned (.bool x.f7) ∧ Below W.heap.size W w' := by
  go_enter Try.func41, Try.ntmps41
  go_wp2
  go_ret
  exact ⟨by simp_all, (Below.refl _ W).alloc (Nat.le_refl _) _⟩

set_option maxHeartbeats 4000000 in
theorem Pol.has1 (W : World) (x : S36) (A8 : Option Addr) (c8 : Nat) (B : Nat) (key val : ByteArray) (hl : x.f8.length ≤ 140737488355328) (hc8 : x.f8.length ≤ c8) (hr8 : Kd.C k64 W A8 x.f8.length x.f8)
    (hk : W.cell? ⟨B, 0, none⟩ = some (.string key)) (hv : W.cell? ⟨B, 1, none⟩ = some (.string val)) :
    Calls Try.prog 42 #[.agg #[.int .u64 x.f0, .int .u64 x.f1, .int .u64 x.f2, .int .u64 x.f3, .string x.f4, .int .i64 x.f5, .int .i64 x.f6, .bool x.f7, .slice A8 x.f8.length c8, .int .u64 x.f9], .pointer (some ⟨B, 0, none⟩)] W fun e w' => e = .returned (.bool (Pol.attrF x.f8 key val)) ∧ Below W.heap.size W w' := by
  have e6 : ∀ args w, (callFunc 43 args).run Try.prog w = .ok (.enter 43 args) w := fun args w => enters_ Try.func43 (by kernel_rfl) rfl args w
  have hB := World.block_lt_of_cell? W _ hk
  go_enter Try.func42, Try.ntmps42
  have hBW : ∀ o : Obj, Below W.heap.size W (W.alloc o) := fun o => (Below.refl _ W).alloc (Nat.le_refl _) o
  have hk' : ∀ o : Obj, (W.alloc o).cell? ⟨B, 0, none⟩ = some (.string key) := fun o => ((hBW o).cell hB).trans hk
  have hv' : ∀ o : Obj, (W.alloc o).cell? ⟨B, 1, none⟩ = some (.string val) := fun o => ((hBW o).cell (p := ⟨B, 1, none⟩) hB).trans hv
  have hne : B ≠ W.heap.size := Nat.ne_of_lt hB
  go_wp2_with (fail)
  refine (api_Attr_43.calls (x.f8.length + 1) A8 c8 x.f8 key val _ _ (Kd.C_below hr8 (hBW _)) hc8 (Pol.Attr_f x.f8 hl key val _ (Nat.lt_succ_self _))).mono ?_
  rintro e w' ⟨rfl, hb'⟩
  go_wp2
  go_ret
  exact ⟨rfl, below_step (hBW _) hb'⟩

set_option maxHeartbeats 4000000 in
theorem Pol.wrong (a0 a1 : Int) (a2 a3 : ByteArray) (A1 : Option Addr) (c1 : Nat) (l1 : List S36) (n : Int) (w : World) (hr1 : Kd.C k36 w A1 l1.length l1) (hok : Pol.okS l1 = true) :
    Calls Try.prog 35 #[.agg #[.int .u8 a0, .int .i64 a1, .string a2, .string a3], .agg #[.slice A1 l1.length c1, .int .u64 n]] w fun e w' => e = .returned (.bool (l1.any fun s => s.f7)) ∧ Below w.heap.size w w' := by
  have e6 : ∀ args w, (callFunc 40 args).run Try.prog w = .ok (.enter 40 args) w := fun args w => enters_ Try.func40 (by kernel_rfl) rfl args w
  have e7 : ∀ args w, (callFunc 41 args).run Try.prog w = .ok (.enter 41 args) w := fun args w => enters_ Try.func41 (by kernel_rfl) rfl args w
  have hl := Pol.okS_1 hok
  go_enter Try.func35, Try.ntmps35
  go_wp2_with (fail)
  refine (Pol.ContainsFunc36 A1 c1 l1 (fun s => s.f7) 41 #[] _ e7 (Kd.C_below hr1 (below_alloc (below_alloc (Below.refl _ w) _) _)) (by omega) ?hp).mono ?_
  case hp =>
    intro W x A8 c8 hW hx hl8 hr8
    refine calls_of_args (args' := #[.agg #[.int .u64 x.f0, .int .u64 x.f1, .int .u64 x.f2, .int .u64 x.f3, .string x.f4, .int .i64 x.f5, .int .i64 x.f6, .bool x.f7, .slice A8 x.f8.length c8, .int .u64 x.f9]]) rfl ((Pol.wrong1 W x A8 c8).mono ?_)
    rintro e w' ⟨rfl, hb'⟩
    exact ⟨rfl, below_step hW hb'⟩
  rintro e w' ⟨rfl, hb'⟩
  go_wp2
  go_ret
  exact ⟨rfl, below_step (below_alloc (below_alloc (Below.refl _ w) _) _) hb'⟩
set_option maxHeartbeats 4000000 in
theorem Pol.has (a0 a1 : Int) (a2 a3 : ByteArray) (A1 : Option Addr) (c1 : Nat) (l1 : List S36) (n : Int) (w : World) (hr1 : Kd.C k36 w A1 l1.length l1) (hok : Pol.okS l1 = true) :
    Calls Try.prog 36 #[.agg #[.int .u8 a0, .int .i64 a1, .string a2, .string a3], .agg #[.slice A1 l1.length c1, .int .u64 n]] w fun e w' => e = .returned (.bool (Pol.hasF l1 a2 a3)) ∧ Below w.heap.size w w' := by
  have e6 : ∀ args w, (callFunc 40 args).run Try.prog w = .ok (.enter 40 args) w := fun args w => enters_ Try.func40 (by kernel_rfl) rfl args w
  have e7 : ∀ args w, (callFunc 42 args).run Try.prog w = .ok (.enter 42 args) w := fun args w => enters_ Try.func42 (by kernel_rfl) rfl args w
  have hl := Pol.okS_1 hok
  go_enter Try.func36, Try.ntmps36
  go_wp2_with (fail)
  refine (Pol.ContainsFunc36 A1 c1 l1 (fun s => Pol.attrF s.f8 a2 a3) 42 _ _ e7 (Kd.C_below hr1 (below_alloc (below_alloc (below_alloc (Below.refl _ w) _) _) _)) (by omega) ?hp).mono ?_
  case hp =>
    intro W x A8 c8 hW hx hl8 hr8
    refine calls_of_args (args' := #[.agg #[.int .u64 x.f0, .int .u64 x.f1, .int .u64 x.f2, .int .u64 x.f3, .string x.f4, .int .i64 x.f5, .int .i64 x.f6, .bool x.f7, .slice A8 x.f8.length c8, .int .u64 x.f9], .pointer (some ⟨w.heap.size + 1 + 1, 0, none⟩)]) rfl ((Pol.has1 W x A8 c8 _ a2 a3 (Pol.okS_2 hok x hx) hl8 hr8 ?_ ?_).mono ?_)
    · exact (hW.cell (p := ⟨w.heap.size + 1 + 1, 0, none⟩) (by simp)).trans (by go_simp)
    · exact (hW.cell (p := ⟨w.heap.size + 1 + 1, 1, none⟩) (by simp)).trans (by go_simp)
    rintro e w' ⟨rfl, hb'⟩
    exact ⟨rfl, below_step hW hb'⟩
  rintro e w' ⟨rfl, hb'⟩
  go_wp2
  go_ret
  exact ⟨rfl, below_step (below_alloc (below_alloc (below_alloc (Below.refl _ w) _) _) _) hb'⟩

set_option maxHeartbeats 4000000 in
theorem Pol.asks (w : World) : Calls Try.prog 25 #[] w fun e w' => e = .returned (.agg #[.nilFunc, .func (.func 34) #[] #[], .func (.func 35) #[] #[], .func (.func 36) #[] #[], .func (.func 37) #[] #[], .func (.func 38) #[] #[]]) ∧ Below w.heap.size w w' := by
  go_enter Try.func25, Try.ntmps25
  go_wp2
  refine bodyPost_ret (v := .agg #[.nilFunc, .func (.func 34) #[] #[], .func (.func 35) #[] #[], .func (.func 36) #[] #[], .func (.func 37) #[] #[], .func (.func 38) #[] #[]]) ?_ rfl ⟨rfl, below_alloc (Below.refl _ w) _⟩
  have hres : Try.f25.results = #[.cell 0 55] := by kernel_rfl
  simp only [results, hres]
  go_simp

theorem Pol.slow_f (a1 : Int) (a2 a3 : ByteArray) (l : List S36) (n : Int) (hl : l.length ≤ 140737488355328) : policy_rule_slow.f (l.length + 1) 1 a1 a2 a3 l n = some (Pol.holdsF 1 a1 a2 a3 l n) := by
  unfold policy_rule_slow.f Pol.holdsF
  rw [if_pos rfl]
  by_cases h : (l.length : Int) > 0
  · rw [if_pos h, Pol.Length_f l hl _ (Nat.lt_succ_self _), Option.bind_some, decide_eq_true h, Bool.true_and]
  · rw [if_neg h, decide_eq_false h, Bool.false_and]
theorem Pol.many_f (a1 : Int) (a2 a3 : ByteArray) (l : List S36) (n : Int) : policy_rule_many.f 4 a1 a2 a3 l n = some (Pol.holdsF 4 a1 a2 a3 l n) := by
  unfold policy_rule_many.f Pol.holdsF
  rw [if_neg (by decide), if_neg (by decide), if_neg (by decide), if_pos rfl]
theorem Pol.share_f (a1 : Int) (a2 a3 : ByteArray) (l : List S36) (n : Int) : policy_rule_share.f 5 a1 a2 a3 l n = some (Pol.holdsF 5 a1 a2 a3 l n) := by
  unfold policy_rule_share.f Pol.holdsF prob_Keep.f Pol.keepF
  rw [if_neg (show ¬ (5 : Int) = 1 by decide), if_neg (show ¬ (5 : Int) = 2 by decide), if_neg (show ¬ (5 : Int) = 3 by decide), if_neg (show ¬ (5 : Int) = 4 by decide), if_pos (show (5 : Int) = 5 from rfl)]
  by_cases h : a1 ≥ 0
  · rw [if_pos h, decide_eq_true h, Bool.true_and]
    by_cases h2 : n ≥ IntKind.u64.wrap a1
    · rw [if_pos h2, decide_eq_true h2, Bool.true_and, Option.bind_some]
    · rw [if_neg h2, decide_eq_false h2, Bool.false_and, Option.bind_some]
  · rw [if_neg h, decide_eq_false h, Bool.false_and]

set_option maxHeartbeats 80000000 in
theorem Pol.Holds_calls (a0 a1 : Int) (a2 a3 : ByteArray) (A1 : Option Addr) (c1 : Nat) (l1 : List S36) (n : Int) (r : Bool) (w : World) (hr1 : Kd.C k36 w A1 l1.length l1) (hc1 : l1.length ≤ c1) (h : policy_Holds.f a0 a1 a2 a3 l1 n = some r) :
    Calls Try.prog 14 #[.agg #[.int .u8 a0, .int .i64 a1, .string a2, .string a3], .slice A1 l1.length c1, .int .u64 n] w fun e w' => e = .returned (.bool r) ∧ Below w.heap.size w w' := by
  unfold policy_Holds.f at h
  have hb : 0 ≤ a0 ∧ a0 ≤ 255 ∧ Pol.okS l1 = true := by
    by_cases hb : 0 ≤ a0 ∧ a0 ≤ 255 ∧ Pol.okS l1 = true
    · exact hb
    · rw [if_neg hb] at h; cases h
  rw [if_pos hb] at h
  obtain rfl := Option.some.inj h
  clear h
  obtain ⟨h0, h255, hok⟩ := hb
  have hl := Pol.okS_1 hok
  have e25 : ∀ args w, (callFunc 25 args).run Try.prog w = .ok (.enter 25 args) w := fun args w => enters_ Try.func25 (by kernel_rfl) rfl args w
  have e34 : ∀ args w, (callFunc 34 args).run Try.prog w = .ok (.enter 34 args) w := fun args w => enters_ Try.func34 (by kernel_rfl) rfl args w
  have e35 : ∀ args w, (callFunc 35 args).run Try.prog w = .ok (.enter 35 args) w := fun args w => enters_ Try.func35 (by kernel_rfl) rfl args w
  have e36 : ∀ args w, (callFunc 36 args).run Try.prog w = .ok (.enter 36 args) w := fun args w => enters_ Try.func36 (by kernel_rfl) rfl args w
  have e37 : ∀ args w, (callFunc 37 args).run Try.prog w = .ok (.enter 37 args) w := fun args w => enters_ Try.func37 (by kernel_rfl) rfl args w
  have e38 : ∀ args w, (callFunc 38 args).run Try.prog w = .ok (.enter 38 args) w := fun args w => enters_ Try.func38 (by kernel_rfl) rfl args w
  have hw1 := below_alloc (Below.refl _ w) (.cells #[.int .u8 a0, .int .i64 a1, .string a2, .string a3] 39 (0, 0))
  have hn1 : (w.alloc (.cells #[.int .u8 a0, .int .i64 a1, .string a2, .string a3] 39 (0, 0))).heap[w.heap.size]? = some (.cells #[.int .u8 a0, .int .i64 a1, .string a2, .string a3] 39 (0, 0)) := blk_new w _
  go_enter Try.func14, Try.ntmps14
  go_wp2_with (fail)
  refine (Pol.asks _).mono ?_
  rintro e w' ⟨rfl, hb'⟩
  replace hn1 : w'.heap[w.heap.size]? = some (.cells #[.int .u8 a0, .int .i64 a1, .string a2, .string a3] 39 (0, 0)) := (hb'.block _ (by simp)).trans hn1
  have HB : Below w.heap.size w w' := below_step hw1 hb'
  clear hb' hw1
  have hn2 : ∀ o : Obj, (w'.alloc o).heap[w.heap.size]? = some (.cells #[.int .u8 a0, .int .i64 a1, .string a2, .string a3] 39 (0, 0)) := fun o => ((below_alloc (Below.refl _ w') o).block _ (blk_lt hn1)).trans hn1
  have hx0 : ∀ o : Obj, (w'.alloc o).cell? ⟨w.heap.size, 0, none⟩ = some (.int .u8 a0) := fun o => (blk_cell (hn2 o) 0).trans rfl
  have hx1 : ∀ o : Obj, (w'.alloc o).cell? ⟨w.heap.size, 1, none⟩ = some (.int .i64 a1) := fun o => (blk_cell (hn2 o) 1).trans rfl
  have hx2 : ∀ o : Obj, (w'.alloc o).cell? ⟨w.heap.size, 2, none⟩ = some (.string a2) := fun o => (blk_cell (hn2 o) 2).trans rfl
  have hx3 : ∀ o : Obj, (w'.alloc o).cell? ⟨w.heap.size, 3, none⟩ = some (.string a3) := fun o => (blk_cell (hn2 o) 3).trans rfl
  have HBo : ∀ o : Obj, Below w.heap.size w (w'.alloc o) := fun o => below_alloc HB o
  clear hn1 hn2
  by_cases h6 : 6 ≤ a0
  · have h6b : decide (6 ≤ a0) = true := decide_eq_true h6
    have hne : ¬ a0 = 0 := by omega
    have hnb : (a0 == 0) = false := by simpa using hne
    have hw : wrap64 a0 = a0 := Pol.w64 _ (by omega) (by omega)
    go_wp2
    go_ret
    refine ⟨?_, HBo _⟩
    rw [Pol.holdsF, if_neg (by omega), if_neg (by omega), if_neg (by omega), if_neg (by omega), if_neg (by omega)]
    rfl
  have hc : a0 = 0 ∨ a0 = 1 ∨ a0 = 2 ∨ a0 = 3 ∨ a0 = 4 ∨ a0 = 5 := by omega
  clear h6 h0 h255
  have HBd : ∀ o : Obj, Below w.heap.size w ((w'.alloc o).drew) := fun o => below_drew (HBo o)
  rcases hc with rfl | rfl | rfl | rfl | rfl | rfl
  · go_wp2
    go_ret
    exact ⟨rfl, HBo _⟩
  · go_wp2_with (fail)
    go_region_with (go_at_call 34; refine (policy_rule_slow.calls (l1.length + 1) 1 a1 a2 a3 A1 c1 l1 n _ _ (Kd.C_below hr1 (HBd _)) hc1 (Pol.slow_f a1 a2 a3 l1 n hl)).mono ?_; rintro e w9 ⟨rfl, hb9⟩)
    all_goals go_wp2
    all_goals go_ret
    all_goals exact ⟨rfl, below_step (HBd _) hb9⟩
  · go_wp2_with (fail)
    go_region_with (go_at_call 35; refine (Pol.wrong 2 a1 a2 a3 A1 c1 l1 n _ (Kd.C_below hr1 (HBd _)) hok).mono ?_; rintro e w9 ⟨rfl, hb9⟩)
    all_goals go_wp2
    all_goals go_ret
    all_goals exact ⟨rfl, below_step (HBd _) hb9⟩
  · go_wp2_with (fail)
    go_region_with (go_at_call 36; refine (Pol.has 3 a1 a2 a3 A1 c1 l1 n _ (Kd.C_below hr1 (HBd _)) hok).mono ?_; rintro e w9 ⟨rfl, hb9⟩)
    all_goals go_wp2
    all_goals go_ret
    all_goals exact ⟨rfl, below_step (HBd _) hb9⟩
  · go_wp2_with (fail)
    go_region_with (go_at_call 37; refine (policy_rule_many.calls 4 a1 a2 a3 A1 c1 l1 n _ _ (Kd.C_below hr1 (HBd _)) hc1 (Pol.many_f a1 a2 a3 l1 n)).mono ?_; rintro e w9 ⟨rfl, hb9⟩)
    all_goals go_wp2
    all_goals go_ret
    all_goals exact ⟨rfl, below_step (HBd _) hb9⟩
  · go_wp2_with (fail)
    go_region_with (go_at_call 38; refine (policy_rule_share.calls 5 a1 a2 a3 A1 c1 l1 n _ _ (Kd.C_below hr1 (HBd _)) hc1 (Pol.share_f a1 a2 a3 l1 n)).mono ?_; rintro e w9 ⟨rfl, hb9⟩)
    all_goals go_wp2
    all_goals go_ret
    all_goals exact ⟨rfl, below_step (HBd _) hb9⟩
end Go.Proofs.Ytbjoleelfihikaa.Px
