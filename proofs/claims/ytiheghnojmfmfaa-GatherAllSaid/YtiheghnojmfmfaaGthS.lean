/- Split, of the program and of the document: both tell what Gth.split tells. -/
import Derived.Test.YtiheghnojmfmfaaGthA
import Derived.Test.YtiheghnojmfmfaaPx18
import Derived.Test.YtiheghnojmfmfaaPx10
import Derived.Lib.ConvBytes
import Derived.Laws.Strings
namespace Go.Proofs.Ytiheghnojmfmfaa.Px
open Go.RowKit Go.Proofs.YtiheghnojmfmfaaW.PrintWords Go.Proofs.YtiheghnojmfmfaaW.PrintLast Go.Proofs.YtiheghnojmfmfaaW.PrintMore
set_option linter.unusedVariables false
set_option linter.unusedSimpArgs false

theorem Gth.getText_eq {l : List Int} {p n q m : Int} (hg : num_Get.f l p = some (n, q, 0)) (h0 : 0 ≤ n) (h1 : n < 18446744073709551616) (h2 : 0 ≤ q) (h3 : q ≤ (l.length : Int)) (h4 : m < 9223372036854775808) (h5 : l.length ≤ 140737488355328) :
    num_GetText.f l p m = (if m < 0 then some (⟨#[]⟩, 0, 3) else if m < n then some (⟨#[]⟩, 0, 3) else if (l.length : Int) - q < n then some (⟨#[]⟩, 0, 10)
      else some (strOfNums ((l.drop q.toNat).take n.toNat), q + n, 0)) := by
  unfold num_GetText.f
  rw [hg]
  simp only [Option.bind_some, if_true]
  rw [if_pos ⟨h0, h1, h2, h3, h4, h5⟩]
theorem Gth.getText_err {l : List Int} {p n q m e : Int} (hg : num_Get.f l p = some (n, q, e)) (he : e ≠ 0) : num_GetText.f l p m = some (⟨#[]⟩, 0, e) := by
  unfold num_GetText.f
  rw [hg]
  simp only [Option.bind_some]
  rw [if_neg he]
/-- GetText of bytes, up to 1500. -/
theorem Gth.text_total (l : List Int) (hb : bytesP l) (hl : l.length ≤ 100000) (p : Int) : ∃ s q e, num_GetText.f l p 1500 = some (s, q, e) ∧ s.size ≤ 1500 ∧ 0 ≤ q ∧ q ≤ 100000 ∧ 0 ≤ e ∧ e ≤ 31 := by
  obtain ⟨n, q, e, hg, hc⟩ := get_total l hb (by omega) p
  rcases hc with ⟨rfl, h1, h2, h3, h4, h5, h6⟩ | ⟨_, _, h⟩
  · rw [Gth.getText_eq hg h1 h2 (by omega) h5 (by omega) (by omega)]
    rw [if_neg (by omega)]
    split
    · exact ⟨_, _, _, rfl, by decide, by omega, by omega, by omega, by omega⟩
    · split
      · exact ⟨_, _, _, rfl, by decide, by omega, by omega, by omega, by omega⟩
      · refine ⟨_, _, _, rfl, ?_, by omega, by omega, by omega, by omega⟩
        rw [Gth.strOfNums_size, List.length_take]; omega
  · rw [Gth.getText_err hg (by omega)]; exact ⟨_, _, _, rfl, by decide, by omega, by omega, by omega, by omega⟩
theorem Gth.refText_eq (l : List Int) (hb : bytesP l) (hl : l.length ≤ 140737488355328) (p m : Int) (hm : -9223372036854775808 ≤ m ∧ m < 9223372036854775808) (k : Nat) (hk : 23 ≤ k) : telemeterref01_GetText.f k l p m = num_GetText.f l p m := by
  obtain ⟨n, q, e, hg, hc⟩ := get_total l hb hl p
  unfold telemeterref01_GetText.f
  rw [refGet_eq l hb hl p k (by omega), hg, Option.bind_some]
  dsimp only
  obtain ⟨k, rfl⟩ : ∃ j, k = j + 1 := ⟨k - 1, by omega⟩
  rcases hc with ⟨rfl, h1, h2, h3, h4, h5, h6⟩ | ⟨_, _, h⟩
  · rw [if_pos rfl, Gth.getText_eq hg h1 h2 (by omega) h5 hm.2 hl]
    by_cases c1 : m < 0
    · rw [if_pos c1, if_pos c1, telemeterref01_GetText.j0, if_pos rfl]
    · have ew : IntKind.u64.wrap m = m := wrap_u64_id (by omega) (by omega)
      rw [if_neg c1, if_neg c1, ew]
      by_cases c2 : m < n
      · rw [if_pos c2, show decide (n > m) = true from decide_eq_true c2, telemeterref01_GetText.j0, if_pos rfl]
      · have e1 : IntKind.u64.wrap (wrap64 ((l.length : Int) - q)) = (l.length : Int) - q := by rw [wrap64_id (by omega) (by omega), wrap_u64_id (by omega) (by omega)]
        rw [if_neg c2, show decide (n > m) = false from decide_eq_false c2, telemeterref01_GetText.j0, if_neg (by decide), e1]
        by_cases c3 : (l.length : Int) - q < n
        · rw [if_pos c3, if_pos c3]
        · have e2 : wrap64 (q + wrap64 n) = q + n := by rw [wrap64_id (n := n) (by omega) (by omega), wrap64_id (by omega) (by omega)]
          rw [if_neg c3, if_neg c3, e2, if_pos (by omega), if_pos (by omega), if_pos (by omega), List.drop_take, show (q + n).toNat - q.toNat = n.toNat from by omega]
  · rw [if_neg (by omega), Gth.getText_err hg (by omega)]

/-- So many items from a place on. -/
def Gth.getAll (l : List Int) : Nat → Int → Option (List (List Int) × Int)
  | 0, p => some ([], p)
  | n + 1, p => match num_GetText.f l p 1500 with
    | none => none
    | some (s, q, e) => if e = 0 ∧ s.size ≠ 0 then (Gth.getAll l n q).map (fun r => (bytesOf s :: r.1, r.2)) else none
def Gth.fin (len : Int) : Option (List (List Int) × Int) → List (List Int) × Int
  | none => ([], 31)
  | some (X, q) => if q = len then (X, 0) else ([], 31)
def Gth.split (l : List Int) : List (List Int) × Int :=
  match num_Get.f l 0 with
  | none => ([], 31)
  | some (n, p, e) => if e ≠ 0 ∨ n = 0 ∨ n > 100 then ([], 31) else Gth.fin l.length (Gth.getAll l n.toNat p)
/-- A row of new bytes. -/
theorem Gth.bytes_F (W : World) (s : ByteArray) (hs : s.size ≤ 9223372036854775807) : Kd.F (Kd.int .u8) (Lib.bytesWorld W 5 s) (fun k => k = W.heap.size) (some ⟨W.heap.size, 0, none⟩) (bytesOf s).length (bytesOf s) := by
  intro W' hW
  have h := bytes_reads W 5 s hs
  rw [bytesOf_length]
  refine Kd.C_of_reads (enc := Value.int .u8) (d := (0 : Int)) (h1 := fun _ => rfl) ⟨h.1, h.2.1, fun hp => ?_⟩
  obtain ⟨ad, e, hc⟩ := h.2.2 hp
  refine ⟨ad, e, fun j hj => ?_⟩
  cases e
  have h1 := hc j hj
  have h2 : W'.heap[W.heap.size]? = (Lib.bytesWorld W 5 s).heap[W.heap.size]? := hW _ rfl (by rw [Lib.bytesWorld_size]; omega)
  rw [← h1, add_plain]
  unfold World.cell?
  rw [h2]
theorem Gth.empty_eq (s : ByteArray) : s.toList.isEmpty = decide (s.size = 0) := by
  rw [ByteArray.toList_eq]
  have h : s.data.toList.length = s.size := data_length s
  cases hh : s.data.toList with
  | nil => rw [hh] at h; simp only [List.length_nil] at h; simp [← h]
  | cons a r => rw [hh] at h; simp only [List.length_cons] at h; simp [← h]
theorem Gth.info22 : (Try.prog.info? 22).map (fun i => (i.zero, i.size, i.bytes)) = some (some (.slice none 0 0), 1, 24) := by kernel_rfl
theorem Gth.grown_ge (W : World) (s : ByteArray) : (bytesOf s).length ≤ grownCap W s.size 0 5 := by
  rw [bytesOf_length]
  exact grownCap_ge _ _ _ _
set_option maxHeartbeats 4000000 in
set_option maxRecDepth 100000 in
theorem Gth.Split_calls (A0 : Option Addr) (c0 : Nat) (l : List Int) (w : World) (hr : Kd.C (Kd.int .u8) w A0 l.length l) (hc0 : l.length ≤ c0) (hb : bytesP l) (hl : l.length ≤ 100000) :
    Calls Try.prog 20 #[.slice A0 l.length c0] w fun e w' => ∃ v, e = .returned (.tuple #[v, .int .u16 (Gth.split l).2]) ∧ Kd.N (Kd.slice 5 (Kd.int .u8)) 22 w' w.heap.size (fun k => w.heap.size ≤ k) v (Gth.split l).1 ∧ Below w.heap.size w w' := by
  obtain ⟨n, p, e, hg, hc⟩ := get_total l hb (by omega) 0
  have hsp : Gth.split l = (if e ≠ 0 ∨ n = 0 ∨ n > 100 then ([], 31) else Gth.fin l.length (Gth.getAll l n.toNat p)) := by
    unfold Gth.split; rw [hg]
  generalize Gth.split l = R at hsp ⊢
  have hG := Num.Get_same A0 c0 l 0 n p e w hr hc0 hg
  have he := Aside0.mk hc
  clear hg
  go_enter Try.func20, Try.ntmps20
  go_wp2_with (fail)
  refine hG.mono ?_
  clear hG
  rintro e1 w' ⟨rfl, rfl⟩
  by_cases c1 : e = 0
  · subst c1
    have he1 := True.intro
    by_cases c2 : n = 0
    · subst c2
      rw [if_pos (Or.inr (Or.inl rfl))] at hsp
      subst hsp
      go_wp2_with (fail)
      go_ret2
      exact ⟨_, rfl, Kd.N_nil _ _ _ _ _, Below.refl _ _⟩
    · by_cases c3 : n > 100
      · rw [if_pos (Or.inr (Or.inr c3))] at hsp
        subst hsp
        have b2 : (n == 0) = false := beq_eq_false_iff_ne.mpr c2
        have b3 : decide (n > 100) = true := decide_eq_true c3
        clear c2 c3
        go_wp2_with (fail)
        go_ret2
        exact ⟨_, rfl, Kd.N_nil _ _ _ _ _, Below.refl _ _⟩
      · rw [if_neg (by omega)] at hsp
        have hn0 : 0 ≤ n := by rcases hc with ⟨_, h, _⟩ | ⟨h, _⟩ <;> omega
        obtain ⟨M, rfl⟩ : ∃ M : Nat, n = (M : Int) := ⟨n.toNat, by omega⟩
        rw [Int.toNat_natCast] at hsp
        have b2 : ((M : Int) == 0) = false := beq_eq_false_iff_ne.mpr c2
        have b3 : decide ((M : Int) > 100) = false := decide_eq_false c3
        have hsz := Nat.le_refl w.heap.size
        clear he he1 hc
        replace hr := Aside0.mk hr
        have hspa := Aside0.mk hsp
        clear hsp
        go_wp2_with (fail)
        go_loopg [5, 7, 28] M (fun gg s5 s7 s28 wr => ∃ (j : Nat) (X : List (List Int)) (q : Int), s5 = .int .i64 q ∧ s28 = .int .u64 j ∧ j ≤ M ∧ M - j ≤ gg ∧ X.length = j ∧ Aside0 (R = Gth.fin l.length ((Gth.getAll l (M - j) q).map (fun r => (X ++ r.1, r.2)))) ∧ Aside0 (Kd.N (Kd.slice 5 (Kd.int .u8)) 22 wr w.heap.size (fun k => w.heap.size ≤ k) s7 X) ∧ Aside0 (Below w.heap.size w wr))
        case atStart => exact ⟨0, [], p, rfl, rfl, by omega, by omega, rfl, ⟨by rw [hspa.out, Nat.sub_zero]; simp⟩, ⟨Kd.N_nil _ _ _ _ _⟩, ⟨Below.refl _ _⟩⟩
        case round =>
          clear hspa
          obtain ⟨j, X, q, rfl, rfl, hjM, hgg, hX, hR, hN, HB⟩ := hrel
          by_cases hj : j < M
          · have hjz : decide ((j : Int) < (M : Int)) = true := decide_eq_true (by omega)
            obtain ⟨s, q2, e2, hT, hs15, hq0, hq1, he0, he1⟩ := Gth.text_total l hb hl q
            have hcall := Num.GetText_same A0 c0 l q 1500 s q2 e2 wr (Kd.C_below hr.out HB.out) hc0 hT
            have hG1 : Gth.getAll l (M - j) q = if e2 = 0 ∧ s.size ≠ 0 then (Gth.getAll l (M - (j + 1)) q2).map (fun r => (bytesOf s :: r.1, r.2)) else none := by
              rw [show M - j = (M - (j + 1)) + 1 from by omega, Gth.getAll, hT]
            have hRa := Aside0.mk (hR.out.trans (by rw [hG1]))
            clear hT hG1 hR b2 b3
            go_wp2_with (fail)
            refine hcall.mono ?_
            clear hcall
            rintro e1 w' ⟨rfl, rfl⟩
            by_cases d1 : e2 = 0
            · subst d1
              by_cases d2 : s.size = 0
              · skip
                have hRb := hRa.out
                rw [if_neg (fun h => h.2 d2)] at hRb
                have hRe : R = ([], 31) := hRb
                subst hRe
                have hne : s.toList.isEmpty = true := by rw [Gth.empty_eq]; exact decide_eq_true d2
                clear d2
                go_wp2_with (fail)
                go_ret2
                exact ⟨_, rfl, Kd.N_nil _ _ _ _ _, HB.out⟩
              · have hRb := hRa.out
                rw [if_pos ⟨rfl, d2⟩] at hRb
                have hRc := Aside0.mk hRb
                have hne : s.toList.isEmpty = false := by rw [Gth.empty_eq]; exact decide_eq_false d2
                clear hRb hRa
                have kb := fun W => print_bytes (P := Try.prog) 9 22 5 Try.underlying9 Try.underlying22 Try.underlying5 s W
                have hX110 : (X.length + 1) * 24 ≤ 140737488355328 := by omega
                have hsB := below_size HB.out
                have hlt := Aside0.mk (Kd.N_lt hN.out)
                have hbW := Aside0.mk (bytes_below (Below.refl wr.heap.size wr) (Nat.le_refl _) 5 s)
                have hFK := Aside0.mk (Kd.FK_slice_mk (e := 5) (Gth.grown_ge wr s) (Gth.bytes_F wr s (by omega)))
                go_wp2_with (first
                  | ((with_reducible refine gate_builtin (b := .append) (xs := #[.tmp 43, .tmp 46]) rfl ?_); at_builtin; refine Kd.N_append (Kd.slice 5 (Kd.int .u8)) (w0 := w) w.heap.size rfl (.tmp 43) (.tmp 46) 23 22 (.slice none 0 0) 24 rfl Try.underlying23 Gth.info22 rfl (by decide) (by omega) u7 X (bytesOf s) [.slice (some ⟨wr.heap.size, 0, none⟩) s.size (grownCap wr s.size 0 5)] (fun k => w.heap.size ≤ k) (fun k => k = wr.heap.size) rfl rfl ?aP ?aK ?aF ?aO ?aB ?aS ?aL ?_; (case aP => have h_ := hFK.out; rw [bytesOf_length] at h_; exact h_); (case aK => exact (fun k_ hk_ => ⟨by omega, fun he_ => by have := hlt.out k_ he_.symm; omega⟩)); (case aF => exact (fun k_ hk_ => by have := below_size hbW.out; omega)); (case aO => exact Kd.N_below hN.out hbW.out); (case aB => exact bytes_below HB.out hsB _ _); (case aS => exact below_size (bytes_below HB.out hsB _ _)); (case aL => omega); intro v10 w10 ho hb_ hg hat; have hNn := Aside0.mk ho; have HBn := Aside0.mk hb_; clear ho hb_ hg hat hN HB hFK hbW))
                go_roundg (M - (j + 1))
                case measure => omega
                case rel =>
                  refine ⟨j + 1, X ++ [bytesOf s], q2, rfl, by go_num, by omega, by omega, by rw [List.length_append, List.length_singleton, hX], ⟨?_⟩, hNn, HBn⟩
                  rw [hRc.out, Option.map_map]
                  congr 2
                  funext r
                  simp
            · have hRb := hRa.out
              rw [if_neg (fun h => d1 h.1)] at hRb
              have hRe : R = ([], 31) := hRb
              subst hRe
              have b1 : (e2 != 0) = true := by simp [d1]
              clear d1
              go_wp2_with (fail)
              go_ret2
              exact ⟨_, rfl, Kd.N_nil _ _ _ _ _, HB.out⟩
          · have hjz : decide ((j : Int) < (M : Int)) = false := decide_eq_false (by omega)
            have hjM' : j = M := by omega
            subst hjM'
            have hRb := hR.out
            rw [Nat.sub_self, Gth.getAll, Option.map_some, Gth.fin] at hRb
            by_cases d3 : q = l.length
            · rw [if_pos d3] at hRb
              subst hRb
              have b4 : (q != (l.length : Int)) = false := by simp [d3]
              clear d3 hR
              go_wp2_with (fail)
              go_ret2
              exact ⟨_, rfl, hN.out, HB.out⟩
            · rw [if_neg d3] at hRb
              subst hRb
              have b4 : (q != (l.length : Int)) = true := by simp [d3]
              clear d3 hR
              go_wp2_with (fail)
              go_ret2
              exact ⟨_, rfl, Kd.N_nil _ _ _ _ _, HB.out⟩
  · rw [if_pos (Or.inl c1)] at hsp
    subst hsp
    have b1 : (e != 0) = true := by simp [c1]
    clear c1
    go_wp2_with (fail)
    go_ret2
    exact ⟨_, rfl, Kd.N_nil _ _ _ _ _, Below.refl _ _⟩
set_option maxHeartbeats 4000000 in
set_option maxRecDepth 100000 in
theorem Gth.refSplit_calls (A0 : Option Addr) (c0 : Nat) (l : List Int) (w : World) (hr : Kd.C (Kd.int .u8) w A0 l.length l) (hc0 : l.length ≤ c0) (hb : bytesP l) (hl : l.length ≤ 100000) :
    Calls Try.prog 34 #[.slice A0 l.length c0] w fun e w' => ∃ v, e = .returned (.tuple #[v, .int .i64 (Gth.split l).2]) ∧ Kd.N (Kd.slice 5 (Kd.int .u8)) 22 w' w.heap.size (fun k => w.heap.size ≤ k) v (Gth.split l).1 ∧ Below w.heap.size w w' := by
  obtain ⟨n, p, e, hg, hc⟩ := get_total l hb (by omega) 0
  have hsp : Gth.split l = (if e ≠ 0 ∨ n = 0 ∨ n > 100 then ([], 31) else Gth.fin l.length (Gth.getAll l n.toNat p)) := by
    unfold Gth.split; rw [hg]
  generalize Gth.split l = R at hsp ⊢
  have hG := telemeterref01_Get.calls 30 A0 c0 l 0 n p e w hr hc0 ((refGet_eq l hb (by omega) 0 30 (by omega)).trans hg)
  have he := Aside0.mk hc
  clear hg
  go_enter Try.func34, Try.ntmps34
  go_wp2_with (fail)
  refine hG.mono ?_
  clear hG
  rintro e1 w1 ⟨rfl, hb1⟩
  by_cases c1 : e = 0
  · subst c1
    have he1 := True.intro
    by_cases c2 : n = 0
    · subst c2
      rw [if_pos (Or.inr (Or.inl rfl))] at hsp
      subst hsp
      go_wp2_with (fail)
      go_ret2
      exact ⟨_, rfl, Kd.N_nil _ _ _ _ _, hb1⟩
    · by_cases c3 : n > 100
      · rw [if_pos (Or.inr (Or.inr c3))] at hsp
        subst hsp
        have b2 : decide (n < 1) = false := decide_eq_false (by rcases hc with ⟨_, h, _⟩ | ⟨h, _⟩ <;> omega)
        have b3 : decide (n > 100) = true := decide_eq_true c3
        clear c2 c3
        go_wp2_with (fail)
        go_ret2
        exact ⟨_, rfl, Kd.N_nil _ _ _ _ _, hb1⟩
      · rw [if_neg (by omega)] at hsp
        have hn0 : 0 ≤ n := by rcases hc with ⟨_, h, _⟩ | ⟨h, _⟩ <;> omega
        obtain ⟨M, rfl⟩ : ∃ M : Nat, n = (M : Int) := ⟨n.toNat, by omega⟩
        rw [Int.toNat_natCast] at hsp
        have b2 : decide ((M : Int) < 1) = false := decide_eq_false (by omega)
        have hMw : IntKind.i64.wrap (M : Int) = (M : Int) := by rw [Gth.i64w]; unfold wrap64; omega
        have b3 : decide ((M : Int) > 100) = false := decide_eq_false c3
        have hsz := Nat.le_refl w.heap.size
        clear he he1 hc
        replace hr := Aside0.mk hr
        have hspa := Aside0.mk hsp
        clear hsp
        go_wp2_with (fail)
        go_loopg [5, 7, 8] M (fun gg s5 s7 s8 wr => ∃ (j : Nat) (X : List (List Int)) (q : Int), s5 = .int .i64 q ∧ s8 = .int .i64 j ∧ j ≤ M ∧ M - j ≤ gg ∧ X.length = j ∧ Aside0 (R = Gth.fin l.length ((Gth.getAll l (M - j) q).map (fun r => (X ++ r.1, r.2)))) ∧ Aside0 (Kd.N (Kd.slice 5 (Kd.int .u8)) 22 wr w.heap.size (fun k => w.heap.size ≤ k) s7 X) ∧ Aside0 (Below w.heap.size w wr))
        case atStart => exact ⟨0, [], p, rfl, rfl, by omega, by omega, rfl, ⟨by rw [hspa.out, Nat.sub_zero]; simp⟩, ⟨Kd.N_nil _ _ _ _ _⟩, ⟨hb1⟩⟩
        case round =>
          clear hspa
          obtain ⟨j, X, q, rfl, rfl, hjM, hgg, hX, hR, hN, HB⟩ := hrel
          by_cases hj : j < M
          · have hjz : decide ((j : Int) < (M : Int)) = true := decide_eq_true (by omega)
            obtain ⟨s, q2, e2, hT, hs15, hq0, hq1, he0, he1⟩ := Gth.text_total l hb hl q
            have hcall := telemeterref01_GetText.calls 30 A0 c0 l q 1500 s q2 e2 wr (Kd.C_below hr.out HB.out) hc0 ((Gth.refText_eq l hb (by omega) q 1500 (by omega) 30 (by omega)).trans hT)
            have hG1 : Gth.getAll l (M - j) q = if e2 = 0 ∧ s.size ≠ 0 then (Gth.getAll l (M - (j + 1)) q2).map (fun r => (bytesOf s :: r.1, r.2)) else none := by
              rw [show M - j = (M - (j + 1)) + 1 from by omega, Gth.getAll, hT]
            have hRa := Aside0.mk (hR.out.trans (by rw [hG1]))
            clear hT hG1 hR b2 b3
            go_wp2_with (fail)
            refine hcall.mono ?_
            clear hcall
            rintro e1 wq ⟨rfl, hbq⟩
            replace hN := Aside0.mk (Kd.N_below hN.out hbq)
            replace HB := Aside0.mk (below_step HB.out hbq)
            clear hbq
            by_cases d1 : e2 = 0
            · subst d1
              by_cases d2 : s.size = 0
              · skip
                have hRb := hRa.out
                rw [if_neg (fun h => h.2 d2)] at hRb
                have hRe : R = ([], 31) := hRb
                subst hRe
                have hne : s.toList.isEmpty = true := by rw [Gth.empty_eq]; exact decide_eq_true d2
                clear d2
                go_wp2_with (fail)
                go_ret2
                exact ⟨_, rfl, Kd.N_nil _ _ _ _ _, HB.out⟩
              · have hRb := hRa.out
                rw [if_pos ⟨rfl, d2⟩] at hRb
                have hRc := Aside0.mk hRb
                have hne : s.toList.isEmpty = false := by rw [Gth.empty_eq]; exact decide_eq_false d2
                clear hRb hRa
                have kb := fun W => print_bytes (P := Try.prog) 9 22 5 Try.underlying9 Try.underlying22 Try.underlying5 s W
                have hX110 : (X.length + 1) * 24 ≤ 140737488355328 := by omega
                have hsB := below_size HB.out
                have hlt := Aside0.mk (Kd.N_lt hN.out)
                have hbW := Aside0.mk (bytes_below (Below.refl wq.heap.size wq) (Nat.le_refl _) 5 s)
                have hFK := Aside0.mk (Kd.FK_slice_mk (e := 5) (Gth.grown_ge wq s) (Gth.bytes_F wq s (by omega)))
                go_wp2_with (first
                  | ((with_reducible refine gate_builtin (b := .append) (xs := #[.tmp 47, .tmp 50]) rfl ?_); at_builtin; refine Kd.N_append (Kd.slice 5 (Kd.int .u8)) (w0 := w) w.heap.size rfl (.tmp 47) (.tmp 50) 23 22 (.slice none 0 0) 24 rfl Try.underlying23 Gth.info22 rfl (by decide) (by omega) u7 X (bytesOf s) [.slice (some ⟨wq.heap.size, 0, none⟩) s.size (grownCap wq s.size 0 5)] (fun k => w.heap.size ≤ k) (fun k => k = wq.heap.size) rfl rfl ?aP ?aK ?aF ?aO ?aB ?aS ?aL ?_; (case aP => have h_ := hFK.out; rw [bytesOf_length] at h_; exact h_); (case aK => exact (fun k_ hk_ => ⟨by omega, fun he_ => by have := hlt.out k_ he_.symm; omega⟩)); (case aF => exact (fun k_ hk_ => by have := below_size hbW.out; omega)); (case aO => exact Kd.N_below hN.out hbW.out); (case aB => exact bytes_below HB.out hsB _ _); (case aS => exact below_size (bytes_below HB.out hsB _ _)); (case aL => omega); intro v10 w10 ho hb_ hg hat; have hNn := Aside0.mk ho; have HBn := Aside0.mk hb_; clear ho hb_ hg hat hN HB hFK hbW))
                go_roundg (M - (j + 1))
                case measure => omega
                case rel =>
                  refine ⟨j + 1, X ++ [bytesOf s], q2, rfl, by go_num, by omega, by omega, by rw [List.length_append, List.length_singleton, hX], ⟨?_⟩, hNn, HBn⟩
                  rw [hRc.out, Option.map_map]
                  congr 2
                  funext r
                  simp
            · have hRb := hRa.out
              rw [if_neg (fun h => d1 h.1)] at hRb
              have hRe : R = ([], 31) := hRb
              subst hRe
              have b1 : (e2 != 0) = true := by simp [d1]
              clear d1
              go_wp2_with (fail)
              go_ret2
              exact ⟨_, rfl, Kd.N_nil _ _ _ _ _, HB.out⟩
          · have hjz : decide ((j : Int) < (M : Int)) = false := decide_eq_false (by omega)
            have hjM' : j = M := by omega
            subst hjM'
            have hRb := hR.out
            rw [Nat.sub_self, Gth.getAll, Option.map_some, Gth.fin] at hRb
            by_cases d3 : q = l.length
            · rw [if_pos d3] at hRb
              subst hRb
              have b4 : (q != (l.length : Int)) = false := by simp [d3]
              clear d3 hR
              go_wp2_with (fail)
              go_ret2
              exact ⟨_, rfl, hN.out, HB.out⟩
            · rw [if_neg d3] at hRb
              subst hRb
              have b4 : (q != (l.length : Int)) = true := by simp [d3]
              clear d3 hR
              go_wp2_with (fail)
              go_ret2
              exact ⟨_, rfl, Kd.N_nil _ _ _ _ _, HB.out⟩
  · rw [if_pos (Or.inl c1)] at hsp
    subst hsp
    have b1 : (e != 0) = true := by simp [c1]
    clear c1
    go_wp2_with (fail)
    go_ret2
    exact ⟨_, rfl, Kd.N_nil _ _ _ _ _, hb1⟩
end Go.Proofs.Ytiheghnojmfmfaa.Px
