/- A Gather behind its pointer: what its block holds; New, Len. -/
import Derived.Test.YtiheghnojmfmfaaFrmG
import Derived.Test.YtiheghnojmfmfaaPx27
import Derived.Deep.RegionWith
import Derived.WalkKit
import Derived.WalkSpells
import Derived.Lib.SliceRun
namespace Go.Proofs.Ytiheghnojmfmfaa.Px
open Go.RowKit Go.Proofs.YtiheghnojmfmfaaW.PrintWords Go.Proofs.YtiheghnojmfmfaaW.PrintLast Go.Proofs.YtiheghnojmfmfaaW.PrintMore
set_option linter.unusedVariables false
set_option linter.unusedSimpArgs false

/-- Gather's block, its row only read. -/
def Gth.F (w : World) (ok : Nat → Prop) (g : Nat) (L : List S73) (items age now : Int) : Prop :=
  ∃ A c, w.heap[g]? = some (.cells #[.slice A L.length c, .int .i64 items, .int .i64 age, .int .i64 now] 70 (0, 0)) ∧ L.length ≤ c ∧ ¬ ok g ∧ Kd.F k73 w ok A L.length L
/-- Gather's block, its row its own. -/
def Gth.N (w : World) (base : Nat) (ok : Nat → Prop) (g : Nat) (L : List S73) (items age now : Int) : Prop :=
  ∃ A c, w.heap[g]? = some (.cells #[.slice A L.length c, .int .i64 items, .int .i64 age, .int .i64 now] 70 (0, 0)) ∧ base ≤ g ∧ ¬ ok g ∧ Kd.N k73 73 w base ok (.slice A L.length c) L
theorem Gth.N_F {w : World} {base : Nat} {ok : Nat → Prop} {g : Nat} {L : List S73} {items age now : Int} (h : Gth.N w base ok g L items age now) : Gth.F w ok g L items age now := by
  obtain ⟨A, c, hh, hb, ho, hn⟩ := h
  exact ⟨A, c, hh, (Kd.N_reads' hn).2.1, ho, Kd.N_F hn⟩
theorem Gth.F_kept {w w1 : World} {ok S : Nat → Prop} {g : Nat} {L : List S73} {items age now : Int} (h : Gth.F w ok g L items age now) (hk : Kept w w1 S) (hg : ¬ S g) (hne : ∀ k, ok k → ¬ S k) : Gth.F w1 ok g L items age now := by
  obtain ⟨A, c, hh, hc, ho, hf⟩ := h
  exact ⟨A, c, blk_kept hh hk hg, hc, ho, Kd.F_kept hf hk hne⟩
theorem Gth.F_below {w w1 : World} {ok : Nat → Prop} {g : Nat} {L : List S73} {items age now : Int} (h : Gth.F w ok g L items age now) (hb : Below w.heap.size w w1) : Gth.F w1 ok g L items age now :=
  Gth.F_kept h (Kept.of_below hb (fun _ => False)) (fun x => x) (fun _ _ x => x)
theorem Gth.F_bound {w : World} {ok : Nat → Prop} {g : Nat} {L : List S73} {items age now : Int} (h : Gth.F w ok g L items age now) : Gth.F w (fun k => ok k ∧ k < w.heap.size) g L items age now := by
  obtain ⟨A, c, hh, hc, ho, hf⟩ := h
  exact ⟨A, c, hh, hc, fun x => ho x.1, Kd.F_bound hf⟩
theorem Gth.F_lt {w : World} {ok : Nat → Prop} {g : Nat} {L : List S73} {items age now : Int} (h : Gth.F w ok g L items age now) : g < w.heap.size := by
  obtain ⟨A, c, hh, _⟩ := h
  exact blk_lt hh
theorem Gth.N_kept {w w1 : World} {base : Nat} {ok S : Nat → Prop} {g : Nat} {L : List S73} {items age now : Int} (h : Gth.N w base ok g L items age now) (hk : Kept w w1 S) (hg : ¬ S g) (hne : ∀ k, ok k → ¬ S k) : Gth.N w1 base ok g L items age now := by
  obtain ⟨A, c, hh, hb, ho, hf⟩ := h
  exact ⟨A, c, blk_kept hh hk hg, hb, ho, Kd.N_kept hf hk hne⟩
theorem Gth.N_below {w w1 : World} {base : Nat} {ok : Nat → Prop} {g : Nat} {L : List S73} {items age now : Int} (h : Gth.N w base ok g L items age now) (hb : Below w.heap.size w w1) : Gth.N w1 base ok g L items age now :=
  Gth.N_kept h (Kept.of_below hb (fun _ => False)) (fun x => x) (fun _ _ x => x)
theorem Gth.N_bound {w : World} {base : Nat} {ok : Nat → Prop} {g : Nat} {L : List S73} {items age now : Int} (h : Gth.N w base ok g L items age now) : Gth.N w base (fun k => ok k ∧ k < w.heap.size) g L items age now := by
  obtain ⟨A, c, hh, hb, ho, hf⟩ := h
  exact ⟨A, c, hh, hb, fun x => ho x.1, Kd.N_bound hf⟩
theorem Gth.N_lt {w : World} {base : Nat} {ok : Nat → Prop} {g : Nat} {L : List S73} {items age now : Int} (h : Gth.N w base ok g L items age now) : g < w.heap.size := Gth.F_lt (Gth.N_F h)

set_option maxHeartbeats 4000000 in
theorem Gth.New_calls (items age : Int) (w : World) (h1 : 1 ≤ items) (h2 : items ≤ 100) (h3 : 0 ≤ age) (h4 : age ≤ 1099511627776) :
    Calls Try.prog 17 #[.int .i64 items, .int .i64 age] w fun e w' => ∃ g, e = .returned (.pointer (some ⟨g, 0, none⟩)) ∧ Gth.N w' w.heap.size (fun _ => False) g [] items age 0 ∧ Below w.heap.size w w' := by
  have b1 : decide (items < 1) = false := decide_eq_false (by omega)
  have b2 : decide (items > 100) = false := decide_eq_false (by omega)
  have b3 : decide (age < 0) = false := decide_eq_false (by omega)
  have b4 : decide (age > 1099511627776) = false := decide_eq_false (by omega)
  go_enter Try.func17, Try.ntmps17
  go_wp2
  go_ret
  exact ⟨_, rfl, ⟨none, 0, blk_new w _, Nat.le_refl _, fun h => h, Kd.N_nil _ _ _ _ _⟩, below_alloc (Below.refl _ w) _⟩
set_option maxHeartbeats 4000000 in
theorem Gth.New_nil (items age : Int) (w : World) (h : items < 1 ∨ items > 100) :
    Calls Try.prog 17 #[.int .i64 items, .int .i64 age] w fun e w' => e = .returned (.pointer none) ∧ Below w.heap.size w w' := by
  go_enter Try.func17, Try.ntmps17
  rcases h with h | h
  · have b1 : decide (items < 1) = true := decide_eq_true h
    go_wp2
    go_ret
    exact ⟨rfl, Below.refl _ w⟩
  · have b1 : decide (items < 1) = false := decide_eq_false (by omega)
    have b2 : decide (items > 100) = true := decide_eq_true h
    go_wp2
    go_ret
    exact ⟨rfl, Below.refl _ w⟩
set_option maxHeartbeats 4000000 in
theorem Gth.Len_calls (w : World) (ok : Nat → Prop) (g : Nat) (L : List S73) (items age now : Int) (h : Gth.F w ok g L items age now) :
    Calls Try.prog 21 #[.pointer (some ⟨g, 0, none⟩)] w fun e w' => e = .returned (.int .i64 L.length) ∧ Below w.heap.size w w' := by
  obtain ⟨A, c, hh, hc, ho, hf⟩ := h
  have c0 := (blk_cell hh 0).trans rfl
  clear hf hh
  go_enter Try.func21, Try.ntmps21
  go_wp2
  go_ret
  exact ⟨rfl, Below.refl _ w⟩
end Go.Proofs.Ytiheghnojmfmfaa.Px
