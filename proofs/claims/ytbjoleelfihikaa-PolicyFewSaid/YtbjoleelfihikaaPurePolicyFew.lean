/- The law PolicyFew holds of what the program computes. -/
import Derived.Test.YtbjoleelfihikaaPx19
import Derived.Test.YtbjoleelfihikaaPolK
namespace Go.Proofs.Ytbjoleelfihikaa.Pure
set_option linter.unusedVariables false
set_option linter.unusedSimpArgs false
open Go.RowKit Go.Proofs.Ytbjoleelfihikaa.Px Go.Proofs.YtbjoleelfihikaaW.PrintWords Go.Proofs.YtbjoleelfihikaaW.PrintLast Go.Proofs.YtbjoleelfihikaaW.PrintMore

def sp (i : Nat) : S36 := ⟨0, 0, 0, 0, (⟨#[]⟩ : ByteArray), 5, 5 + (i : Int), false, ([] : List (S64)), 0⟩
def mkF : Nat → Nat → List S36
  | _, 0 => []
  | i, d + 1 => sp i :: mkF (i + 1) d
theorem mkF_snoc : ∀ (d i : Nat), mkF i (d + 1) = mkF i d ++ [sp (i + d)]
  | 0, i => rfl
  | d + 1, i => by
    have := mkF_snoc d (i + 1)
    rw [mkF, this, mkF, List.cons_append, show i + 1 + d = i + (d + 1) from by omega]
theorem mkF_len : ∀ (d i : Nat), (mkF i d).length = d
  | 0, _ => rfl
  | d + 1, i => by rw [mkF, List.length_cons, mkF_len d]
theorem mkF_ok (d : Nat) (hd : d ≤ 9) (i : Nat) : Pol.okS (mkF i d) = true := by
  have h : ∀ (d i : Nat), (mkF i d).all (fun s => decide (s.f8.length ≤ 140737488355328)) = true := by
    intro d
    induction d with
    | zero => intro i; rfl
    | succ d ih => intro i; rw [mkF, List.all_cons, ih]; simp [sp]
  rw [Pol.okS, h, mkF_len, Bool.and_true, decide_eq_true (by omega)]
theorem mkF_hi : ∀ (d i : Nat) (m : Int), m ≤ 5 + (i : Int) → Pol.hi (mkF i d) m = if d = 0 then m else 5 + ((i + d - 1 : Nat) : Int)
  | 0, _, _, _ => rfl
  | d + 1, i, m, h => by
    have hm : mx m (5 + (i : Int)) = 5 + (i : Int) := by unfold mx; split <;> omega
    rw [mkF, Pol.hi, sp, hm, mkF_hi d (i + 1) _ (by omega)]
    by_cases hd : d = 0
    · subst hd
      simp
    · rw [if_neg hd, if_neg (by omega)]
      congr 2
      omega
theorem mkF_lo : ∀ (d i : Nat), Pol.lo (mkF i d) 5 = 5
  | 0, _ => rfl
  | d + 1, i => by
    have hm : mn 5 5 = 5 := by unfold mn; split <;> omega
    rw [mkF, Pol.lo, sp, hm, mkF_lo d]
theorem mkF_lenF (d : Nat) (h0 : 0 < d) (hd : d ≤ 9) : Pol.lenF (mkF 0 d) = (d : Int) - 1 := by
  obtain ⟨d, rfl⟩ : ∃ m, d = m + 1 := ⟨d - 1, by omega⟩
  have h1 := mkF_hi (d + 1) 0 5 (by omega)
  have h2 := mkF_lo (d + 1) 0
  rw [if_neg (by omega)] at h1
  rw [mkF] at h1 h2 ⊢
  rw [Pol.lenF]
  show wrap64 (Pol.hi (sp 0 :: mkF (0 + 1) d) 5 - Pol.lo (sp 0 :: mkF (0 + 1) d) 5) = _
  rw [h1, h2, Pol.w64 _ (by omega) (by omega)]
  omega

theorem few_loop (a0 a1 a2 : Int) (n : Nat) (hn : n ≤ 9) (h0 : wrap64 (Int.tmod a0 10) = (n : Int)) : ∀ (d i k : Nat), n - i = d → i ≤ n → telemeterlaw12_PolicyFew.l0 (k + d) a0 a1 a2 (mkF 0 i) (i : Int) = telemeterlaw12_PolicyFew.l0 k a0 a1 a2 (mkF 0 n) (n : Int) := by
  intro d
  induction d with
  | zero =>
    intro i k hd hi
    have : i = n := by omega
    subst this
    rfl
  | succ d ih =>
    intro i k hd hi
    rw [show k + (d + 1) = (k + d) + 1 from rfl, telemeterlaw12_PolicyFew.l0, h0, if_pos (by omega), if_pos (by rw [mkF_len]; omega)]
    rw [Pol.w64 (5 + (i : Int)) (by omega) (by omega), Pol.w64 ((i : Int) + 1) (by omega) (by omega)]
    have := ih (i + 1) k (by omega) (by omega)
    rw [mkF_snoc, Nat.zero_add] at this
    exact this

theorem PolicyFew : telemeterlaw12_PolicyFew.Pure := by
  intro a0 a1 a2 h0 h1 h2
  have h0 := u8_wf h0
  have h1 := u8_wf h1
  have h2 := u64_wf h2
  have t0 : Int.tmod a0 10 = a0 % 10 := Int.tmod_eq_emod_of_nonneg h0.1
  have t2 : Int.tmod a2 72057594037927936 = a2 % 72057594037927936 := Int.tmod_eq_emod_of_nonneg h2.1
  obtain ⟨n, hn⟩ : ∃ n : Nat, Int.tmod a0 10 = (n : Int) := ⟨(Int.tmod a0 10).toNat, by omega⟩
  have hn9 : n ≤ 9 := by omega
  have en : wrap64 (Int.tmod a0 10) = (n : Int) := by rw [hn, Pol.w64 _ (by omega) (by omega)]
  obtain ⟨a, ha⟩ : ∃ a : Int, wrap64 (Int.tmod a1 12) = a := ⟨_, rfl⟩
  obtain ⟨r, hr⟩ : ∃ r : Int, Int.tmod a2 72057594037927936 = r := ⟨_, rfl⟩
  have hr0 : 0 ≤ r ∧ r < 72057594037927936 := by rw [← hr, t2]; omega
  have er : wrap64 r = r := Pol.w64 _ (by omega) (by omega)
  have er1 : wrap64 (r + 1) = r + 1 := Pol.w64 _ (by omega) (by omega)
  refine ⟨5 + n + 1, ?_⟩
  unfold telemeterlaw12_PolicyFew.f
  rw [show 5 + n + 1 = 6 + n from by omega]
  rw [show telemeterlaw12_PolicyFew.l0 (6 + n) a0 a1 a2 [] 0 = telemeterlaw12_PolicyFew.l0 6 a0 a1 a2 (mkF 0 n) (n : Int) from few_loop a0 a1 a2 n hn9 en n 0 6 (by omega) (by omega)]
  have hl := mkF_len n 0
  have hok := mkF_ok n hn9 0
  have hL := mkF_lenF n
  generalize mkF 0 n = l at *
  rw [telemeterlaw12_PolicyFew.l0, en, if_neg (by omega), Pol.known_eq 5 (by omega), Option.bind_some, if_pos rfl, ha, hr, er, er1]
  have e4 : Pol.holdsF 4 a (⟨#[]⟩ : ByteArray) (⟨#[]⟩ : ByteArray) l 0 = decide ((l.length : Int) ≥ a) := by rw [Pol.holdsF, if_neg (by decide), if_neg (by decide), if_neg (by decide), if_pos rfl]
  have hwr : IntKind.u64.wrap r = r := wrap_u64_id (by omega) (by omega)
  have hwr1 : IntKind.u64.wrap (r + 1) = r + 1 := wrap_u64_id (by omega) (by omega)
  have e5 : Pol.holdsF 5 r (⟨#[]⟩ : ByteArray) (⟨#[]⟩ : ByteArray) l r = true := by
    rw [Pol.holdsF, if_neg (by decide), if_neg (by decide), if_neg (by decide), if_neg (by decide), if_pos rfl, hwr, Pol.keepF, decide_eq_true (by omega), decide_eq_true (by omega), decide_eq_true (by omega)]
    rfl
  have e6 : Pol.holdsF 5 (r + 1) (⟨#[]⟩ : ByteArray) (⟨#[]⟩ : ByteArray) l r = false := by
    rw [Pol.holdsF, if_neg (by decide), if_neg (by decide), if_neg (by decide), if_neg (by decide), if_pos rfl, hwr1, Pol.keepF, decide_eq_false (show ¬ r ≥ r + 1 by omega)]
    simp
  have e1 : Pol.holdsF 1 a (⟨#[]⟩ : ByteArray) (⟨#[]⟩ : ByteArray) l 0 = (decide ((l.length : Int) > 0) && decide (Pol.lenF l ≥ a)) := by rw [Pol.holdsF, if_pos rfl]
  rw [Pol.holds_eq ⟨by omega, by omega⟩ hok, Option.bind_some, e4, if_pos (by simp), Pol.holds_eq ⟨by omega, by omega⟩ hok, Option.bind_some, e1]
  by_cases h : (l.length : Int) > 0
  · have hm : mx (wrap64 ((l.length : Int) - 1)) 0 = (n : Int) - 1 := by
      rw [hl, Pol.w64 _ (by omega) (by omega)]
      unfold mx
      split <;> omega
    rw [if_pos h, decide_eq_true h, Bool.true_and, hL (by omega) hn9, hm, if_pos (by simp), Pol.holds_eq ⟨by omega, by omega⟩ hok, Option.bind_some, e5, if_pos rfl, Pol.holds_eq ⟨by omega, by omega⟩ hok, Option.bind_some, e6]
    rfl
  · rw [if_neg h, decide_eq_false h, Bool.false_and, if_pos (by decide), Pol.holds_eq ⟨by omega, by omega⟩ hok, Option.bind_some, e5, if_pos rfl, Pol.holds_eq ⟨by omega, by omega⟩ hok, Option.bind_some, e6]
    rfl
end Go.Proofs.Ytbjoleelfihikaa.Pure
