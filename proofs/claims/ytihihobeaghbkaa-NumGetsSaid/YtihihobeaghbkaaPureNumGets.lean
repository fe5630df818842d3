/- The law NumGets holds of what the program computes: Get and GetText of any bytes, from any place on, are what the chapter says. No condition beyond the row's own. -/
import Derived.Test.YtihihobeaghbkaaNumG
import Derived.Test.YtihihobeaghbkaaPx19
namespace Go.Proofs.Ytihihobeaghbkaa.Pure
open Go.RowKit Go.Proofs.Ytihihobeaghbkaa.Px Go.Proofs.YtihihobeaghbkaaW.PrintWords Go.Proofs.YtihihobeaghbkaaW.PrintLast Go.Proofs.YtihihobeaghbkaaW.PrintMore

theorem tells_true (l : List Int) (hb : bytesP l) (hl : l.length ≤ 140737488355328) (p m : Int) (hm : -9223372036854775808 ≤ m ∧ m < 9223372036854775808) (k : Nat) (hk : 23 ≤ k) : telemeterlaw01_tells.f k l p m = some true := by
  unfold telemeterlaw01_tells.f
  obtain ⟨n, q, e, hg, hc⟩ := get_total l hb hl p
  have he : 0 ≤ e ∧ e ≤ 31 := by rcases hc with ⟨h, _⟩ | ⟨_, _, h⟩ <;> omega
  have hs : ∃ s up c, num_GetText.f l p m = some (s, up, c) ∧ 0 ≤ c ∧ c ≤ 31 := by
    rcases hc with ⟨rfl, h1, h2, h3, h4, h5, h6⟩ | ⟨_, _, h⟩
    · rw [getText_eq hg h1 h2 (by omega) h5 hm.2 hl]
      split
      · exact ⟨_, _, _, rfl, by omega, by omega⟩
      · split
        · exact ⟨_, _, _, rfl, by omega, by omega⟩
        · split
          · exact ⟨_, _, _, rfl, by omega, by omega⟩
          · exact ⟨_, _, _, rfl, by omega, by omega⟩
    · rw [getText_err hg (by omega)]; exact ⟨_, _, _, rfl, by omega, by omega⟩
  have hr : telemeterref01_GetText.f k l p m = num_GetText.f l p m := by
    unfold telemeterref01_GetText.f
    rw [refGet_eq l hb hl p k (by omega), hg, Option.bind_some]
    dsimp only
    obtain ⟨k, rfl⟩ : ∃ j, k = j + 1 := ⟨k - 1, by omega⟩
    rcases hc with ⟨rfl, h1, h2, h3, h4, h5, h6⟩ | ⟨_, _, h⟩
    · rw [if_pos rfl, getText_eq hg h1 h2 (by omega) h5 hm.2 hl]
      by_cases c1 : m < 0
      · rw [if_pos c1, if_pos c1, telemeterref01_GetText.j0, if_pos rfl]
      · have ew : IntKind.u64.wrap m = m := wrap_u64_id (by omega) (by omega)
        rw [if_neg c1, if_neg c1, ew]
        by_cases c2 : m < n
        · rw [if_pos c2, show decide (n > m) = true from decide_eq_true c2, telemeterref01_GetText.j0, if_pos rfl]
        · have e1 : IntKind.u64.wrap (wrap64 ((l.length : Int) - q)) = (l.length : Int) - q := by rw [wrap64_id (by omega) (by omega), wrap_u64_id (by omega) (by omega)]
          rw [if_neg c2, show decide (n > m) = false from decide_eq_false c2, telemeterref01_GetText.j0, if_neg (by decide), e1]
          by_cases c3 : (l.length : Int) - q < n
          · rw [if_pos c3, if_pos c3]
          · have e2 : wrap64 (q + wrap64 n) = q + n := by rw [wrap64_id (n := n) (by omega) (by omega), wrap64_id (by omega) (by omega)]
            rw [if_neg c3, if_neg c3, e2, if_pos (by omega), if_pos (by omega), if_pos (by omega), List.drop_take, show (q + n).toNat - q.toNat = n.toNat from by omega]
    · rw [if_neg (by omega), getText_err hg (by omega)]
  obtain ⟨s, up, c, hs, hc0⟩ := hs
  rw [hg, Option.bind_some, refGet_eq l hb hl p k (by omega), hg, Option.bind_some, hs, Option.bind_some, hr, hs, Option.bind_some]
  dsimp only
  rw [if_pos rfl, if_pos rfl, if_pos (wrap64_id (by omega) (by omega)), if_pos rfl, if_pos rfl]
  show some (wrap64 c == c) = some true
  rw [wrap64_id (by omega) (by omega), beq_self_eq_true]

theorem numGets_l0 (b : List Int) (hb : bytesP b) (hl : b.length ≤ 140737488355328) (p m : Int) (hm : -9223372036854775808 ≤ m ∧ m < 9223372036854775808) (c : List Int) (hc : bytesP c) (hcl : c.length ≤ 300) (kk : Int) (hk : 0 ≤ kk ∧ kk ≤ 255) (d : Nat) :
    ∀ (k i : Nat) (x : List Int), i + d = c.length → x.length = i → bytesP x → d + 23 < k → telemeterlaw01_NumGets.l0 k b p m c kk x (i : Int) = some true := by
  induction d with
  | zero =>
    intro k i x h hx hxb hkk
    obtain ⟨k, rfl⟩ : ∃ m, k = m + 1 := ⟨k - 1, by omega⟩
    have e1 : wrap64 ((x.length : Int) + 2) = (x.length : Int) + 2 := wrap64_id (by omega) (by omega)
    rw [telemeterlaw01_NumGets.l0, if_neg (by omega), tells_true b hb hl p m hm k (by omega), Option.bind_some, if_pos rfl, e1, if_neg (by omega)]
    have e2 : wrap64 (wrap64 (Int.tmod kk 20) - 1) = kk % 20 - 1 := by rw [Int.tmod_eq_emod_of_nonneg hk.1]; unfold wrap64; omega
    rw [e2, tells_true x hxb (by omega) _ _ (by omega) k (by omega), Option.bind_some]
  | succ d ih =>
    intro k i x h hx hxb hkk
    obtain ⟨k, rfl⟩ : ∃ m, k = m + 1 := ⟨k - 1, by omega⟩
    have hi := bytes_getElem hc i
    have e1 : wrap64 ((i : Int) + 1) = ((i + 1 : Nat) : Int) := by unfold wrap64; omega
    have e2 : Int.tmod (rd c (i : Int)) 8 = rd c (i : Int) % 8 := Int.tmod_eq_emod_of_nonneg hi.1
    rw [telemeterlaw01_NumGets.l0, if_pos (by omega), if_pos (by omega), Option.bind_some, e2, if_pos (by omega), if_pos (by simp only [List.length_cons, List.length_nil]; omega), if_pos (by omega), e1]
    refine ih k (i + 1) _ (by omega) (by rw [List.length_append, hx]; rfl) (hxb.append (bytesP_cons ?_ bytesP_nil)) (by omega)
    have hy : bytesP [0, 1, 127, 128, 129, 255, 2, rd c (i : Int)] := by
      intro z hz
      simp only [List.mem_cons, List.not_mem_nil, or_false] at hz
      omega
    obtain ⟨j, hj⟩ : ∃ j : Nat, rd c (i : Int) % 8 = (j : Int) := ⟨(rd c (i : Int) % 8).toNat, by omega⟩
    rw [hj]
    exact bytes_getElem hy j

theorem NumGets : telemeterlaw01_NumGets.Pure := by
  intro b p m c kk hl hl1 hb hp hm hcl hcl1 hc hk
  have hb := bytesP_of_wf hb
  have hc := bytesP_of_wf hc
  have hm := i64_wf hm
  have hk := u8_wf hk
  refine ⟨400, ?_⟩
  unfold telemeterlaw01_NumGets.f
  by_cases h : (b.length : Int) > 300
  · rw [if_pos h, telemeterlaw01_NumGets.j0, if_pos rfl, known_true]; rfl
  · rw [if_neg h]
    by_cases h2 : (c.length : Int) > 300
    · rw [if_pos h2, telemeterlaw01_NumGets.j0, if_pos rfl, known_true]; rfl
    · rw [if_neg h2, known_true, Option.bind_some, telemeterlaw01_NumGets.j0, if_neg (by decide)]
      exact numGets_l0 b hb (by omega) p m hm c hc (by omega) kk hk c.length 399 0 [] (by omega) rfl bytesP_nil (by omega)

end Go.Proofs.Ytihihobeaghbkaa.Pure
