/- What Split tells of a batch; no program in sight. splits. -/
import Derived.Test.YtiheghnojmfmfaaGthS
import Derived.Test.YtiheghnojmfmfaaPx16
import Derived.Test.YtiheghnojmfmfaaPx15
namespace Go.Proofs.Ytiheghnojmfmfaa.Px
open Go.RowKit Go.Proofs.YtiheghnojmfmfaaW.PrintWords Go.Proofs.YtiheghnojmfmfaaW.PrintLast Go.Proofs.YtiheghnojmfmfaaW.PrintMore
set_option linter.unusedVariables false
set_option linter.unusedSimpArgs false

theorem Gth.bytesOf_nums (l : List Int) (h : bytesP l) : bytesOf (strOfNums l) = l := by
  unfold bytesOf strOfNums
  simp only [List.map_map]
  conv => rhs; rw [← List.map_id l]
  apply List.map_congr_left
  intro x hx
  have := h x hx
  simp only [Function.comp, id]
  have h1 : x.toNat < 256 := by omega
  simp
  omega
theorem Gth.getText_put (l hd rest : List Int) (hb : bytesP l) (hl15 : l.length ≤ 1500) (hh : bytesP hd) (hr : bytesP rest) (hl : (hd ++ (Gth.txt l ++ rest)).length ≤ 140737488355328) :
    num_GetText.f (hd ++ (Gth.txt l ++ rest)) (hd.length : Int) 1500 = some (strOfNums l, (hd.length : Int) + ((Gth.txt l).length : Int), 0) := by
  have e0 := Gth.bytesOf_nums l hb
  have es := Gth.strOfNums_size l
  unfold Gth.txt at hl ⊢
  rw [e0] at hl ⊢
  have hlen : (hd ++ ((putL l.length ++ l) ++ rest)).length = hd.length + ((putL l.length).length + l.length + rest.length) := by
    simp only [List.length_append]
  have hg := get_put (n := l.length) (by omega) hd (l ++ rest) hh (hb.append hr) (by rw [← List.append_assoc (putL l.length)]; exact hl)
  rw [← List.append_assoc (putL l.length)] at hg
  rw [Gth.getText_eq hg (by omega) (by omega) (by omega) (by rw [hlen]; omega) (by omega) hl]
  rw [if_neg (by omega), if_neg (by omega), if_neg (by rw [hlen]; omega)]
  have e : ((hd ++ ((putL l.length ++ l) ++ rest)).drop ((hd.length : Int) + ((putL l.length).length : Int)).toNat).take ((l.length : Int)).toNat = l := by
    rw [show ((hd.length : Int) + ((putL l.length).length : Int)).toNat = hd.length + (putL l.length).length from by omega, Int.toNat_natCast, ← List.drop_drop, List.drop_left, List.append_assoc, List.drop_left, List.take_left]
  rw [e]
  simp only [List.length_append, Option.some.injEq, Prod.mk.injEq, true_and, and_true]
  omega
theorem Gth.txt_bytes (l : List Int) (hb : bytesP l) : bytesP (Gth.txt l) := by
  unfold Gth.txt; rw [Gth.bytesOf_nums l hb]; exact (putL_bytes _).append hb
theorem Gth.flat_bytes (ls : List (List Int)) (h : ∀ l ∈ ls, bytesP l) : bytesP (ls.flatMap Gth.txt) := by
  induction ls with
  | nil => intro x hx; simp at hx
  | cons l r ih =>
    rw [List.flatMap_cons]
    exact (Gth.txt_bytes l (h l List.mem_cons_self)).append (ih (fun x hx => h x (List.mem_cons_of_mem _ hx)))
theorem Gth.getAll_flat (ls : List (List Int)) (h : ∀ l ∈ ls, 1 ≤ l.length ∧ l.length ≤ 1500 ∧ bytesP l) : ∀ hd : List Int, bytesP hd → (hd ++ ls.flatMap Gth.txt).length ≤ 140737488355328 →
    Gth.getAll (hd ++ ls.flatMap Gth.txt) ls.length (hd.length : Int) = some (ls, ((hd ++ ls.flatMap Gth.txt).length : Int)) := by
  induction ls with
  | nil => intro hd _ _; simp [Gth.getAll]
  | cons l r ih =>
    intro hd hb hlen
    obtain ⟨h1, h2, h3⟩ := h l List.mem_cons_self
    have hr : ∀ l ∈ r, 1 ≤ l.length ∧ l.length ≤ 1500 ∧ bytesP l := fun x hx => h x (List.mem_cons_of_mem _ hx)
    rw [List.flatMap_cons] at hlen ⊢
    rw [List.length_cons, Gth.getAll, Gth.getText_put l hd _ h3 h2 hb (Gth.flat_bytes r (fun x hx => (hr x hx).2.2)) hlen]
    simp only
    rw [if_pos ⟨trivial, by rw [Gth.strOfNums_size]; omega⟩, Gth.bytesOf_nums l h3]
    have hi := ih hr (hd ++ Gth.txt l) (hb.append (Gth.txt_bytes l h3)) (by rw [List.append_assoc]; exact hlen)
    rw [List.append_assoc, show (((hd ++ Gth.txt l).length : Nat) : Int) = (hd.length : Int) + ((Gth.txt l).length : Int) from by rw [List.length_append]; omega] at hi
    rw [hi]
    rfl
theorem Gth.split_batch (ls : List (List Int)) (h1 : 1 ≤ ls.length) (h2 : ls.length ≤ 100) (h : ∀ l ∈ ls, 1 ≤ l.length ∧ l.length ≤ 1500 ∧ bytesP l) (hlen : (Gth.batch ls).length ≤ 140737488355328) :
    Gth.split (Gth.batch ls) = (ls, 0) := by
  unfold Gth.split
  have hg := get_put (n := ls.length) (by omega) [] (ls.flatMap Gth.txt) (fun x hx => by simp at hx) (Gth.flat_bytes ls (fun l hl => (h l hl).2.2)) (by simpa [Gth.batch] using hlen)
  simp only [List.nil_append, List.length_nil] at hg
  unfold Gth.batch at hlen ⊢
  rw [show (0 : Int) = ((0 : Nat) : Int) from rfl, hg]
  simp only
  rw [if_neg (by rintro (hc | hc | hc) <;> first | exact hc rfl | omega), Int.toNat_natCast]
  have ha := Gth.getAll_flat ls h (putL ls.length) (putL_bytes _) hlen
  rw [show ((0 : Nat) : Int) + ((putL ls.length).length : Int) = ((putL ls.length).length : Int) from by omega, ha]
  simp [Gth.fin]
theorem Gth.split_nil : Gth.split [] = ([], 31) := by
  obtain ⟨n, q, e, hg, hc⟩ := get_total [] (fun x hx => by simp at hx) (by simp) 0
  unfold Gth.split
  rw [hg]
  rcases hc with ⟨rfl, h1, h2, h3, h4, h5, h6⟩ | ⟨_, _, h⟩
  · exfalso
    have h7 := congrArg List.length h6
    rw [List.length_append] at h7
    have h8 : 1 ≤ (putL n.toNat).length := by
      rw [putL]; split <;> simp
    simp at h7
    omega
  · simp only
    rw [if_pos (Or.inl (by omega))]
theorem Gth.split_length (l : List Int) : (Gth.split l).1.length ≤ 100 := by
  have hall : ∀ (n : Nat) (p : Int) X q, Gth.getAll l n p = some (X, q) → X.length = n := by
    intro n
    induction n with
    | zero => intro p X q h; simp [Gth.getAll] at h; simp [← h.1]
    | succ n ih =>
      intro p X q h
      rw [Gth.getAll] at h
      split at h
      · cases h
      · rename_i s q' e _
        split at h
        · rw [Option.map_eq_some_iff] at h
          obtain ⟨⟨Y, z⟩, h1, h2⟩ := h
          have := ih _ _ _ h1
          injection h2 with h3 h4
          rw [← h3, List.length_cons, this]
        · cases h
  unfold Gth.split
  split
  · simp
  · rename_i n p e _
    split
    · simp
    · rename_i hn
      cases ho : Gth.getAll l n.toNat p with
      | none => simp [Gth.fin]
      | some r =>
        obtain ⟨X, q⟩ := r
        have := hall _ _ _ _ ho
        unfold Gth.fin
        dsimp only
        split
        · dsimp only; omega
        · simp

theorem Gth.same_l0 (a : List (List Int)) (hl : a.length ≤ 140737488355328) (d : Nat) : ∀ (k i : Nat), i + d = a.length → d < k →
    telemeterref02_Same.l0 k a a (i : Int) = some true := by
  induction d with
  | zero =>
    intro k i hi hk
    obtain ⟨k, rfl⟩ : ∃ m, k = m + 1 := ⟨k - 1, by omega⟩
    rw [telemeterref02_Same.l0, if_neg (by omega)]
  | succ d ih =>
    intro k i hi hk
    obtain ⟨k, rfl⟩ : ∃ m, k = m + 1 := ⟨k - 1, by omega⟩
    rw [telemeterref02_Same.l0, if_pos (by omega), if_pos (by omega), if_pos (by omega), if_pos rfl, w64_succ i (by omega)]
    exact ih k (i + 1) (by omega) (by omega)
theorem Gth.same_eq (a : List (List Int)) (hl : a.length ≤ 140737488355328) (k : Nat) (hk : a.length < k) : telemeterref02_Same.f k a a = some true := by
  unfold telemeterref02_Same.f
  rw [if_pos rfl]
  exact Gth.same_l0 a hl a.length k 0 (by omega) hk
set_option maxHeartbeats 4000000 in
set_option maxRecDepth 100000 in
theorem Gth.splits_calls (A0 : Option Addr) (c0 : Nat) (l : List Int) (w : World) (hr : Kd.C (Kd.int .u8) w A0 l.length l) (hc0 : l.length ≤ c0) (hb : bytesP l) (hl : l.length ≤ 100000) :
    Calls Try.prog 16 #[.slice A0 l.length c0] w fun e w' => e = .returned (.bool true) ∧ Below w.heap.size w w' := by
  have h1 := Gth.Split_calls A0 c0 l w hr hc0 hb hl
  have h2 := Aside0.mk (fun w1 => fun hr1 => Gth.refSplit_calls A0 c0 l w1 hr1 hc0 hb hl)
  have hX := Gth.split_length l
  have he : IntKind.i64.wrap (Gth.split l).2 = (Gth.split l).2 := by
    have : (Gth.split l).2 = 0 ∨ (Gth.split l).2 = 31 := by
      unfold Gth.split Gth.fin
      repeat' split
      all_goals simp
    rcases this with h | h <;> rw [h] <;> decide
  generalize Gth.split l = R at *
  obtain ⟨X, er⟩ := R
  dsimp only at *
  replace hr := Aside0.mk hr
  go_enter Try.func16, Try.ntmps16
  go_wp2_with (fail)
  refine h1.mono ?_
  clear h1
  rintro e w1 ⟨v1, rfl, hN1, hb1⟩
  obtain ⟨A1, c1, rfl⟩ := Kd.N_slice hN1
  replace hN1 := Aside0.mk hN1; replace hb1 := Aside0.mk hb1
  go_wp2_with (fail)
  refine (h2.out _ (Kd.C_below hr.out hb1.out)).mono ?_
  clear h2
  rintro e w2 ⟨v2, rfl, hN2, hb2⟩
  obtain ⟨A2, c2, rfl⟩ := Kd.N_slice hN2
  obtain ⟨_, hc1, hC1⟩ := Kd.N_reads' (Kd.N_below hN1.out hb2)
  obtain ⟨_, hc2, hC2⟩ := Kd.N_reads' hN2
  have hS := telemeterref02_Same.calls 200 A1 c1 X A2 c2 X true w2 hC1 hc1 hC2 hc2 (Gth.same_eq X (by omega) 200 (by omega))
  have hb12 := Aside0.mk (below_step hb1.out hb2)
  clear hN1 hN2 hb1 hb2 hC1 hC2
  go_wp2_with (fail)
  refine hS.mono ?_
  clear hS
  rintro e w3 ⟨rfl, ⟨m3, hm3⟩⟩
  subst hm3
  go_wp2
  go_ret
  exact ⟨rfl, pw_below_drewN hb12.out m3⟩
end Go.Proofs.Ytiheghnojmfmfaa.Px
