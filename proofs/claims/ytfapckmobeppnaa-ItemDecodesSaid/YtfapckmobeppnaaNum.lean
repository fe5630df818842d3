/- num.Put by hand: a range over the iterator num.digits, which keeps its own number in a captured variable. -/
import Derived.RangeFuncNested
import Derived.RangeFuncBound
import Derived.RangeFuncCalls
import Derived.RangeFuncLeaves
import Derived.RangeFuncBox
import Derived.Shelf.Abstract
import Derived.Shelf.RegionOpen
import Derived.WalkKit
import Derived.OwnWalkIn
import Derived.TacticsInMore
import Derived.LoopNIn
import Derived.LoopIn
import Derived.Maps.AppendAt
import Derived.KernelRfl
import Derived.Test.YtfapckmobeppnaaProg
import Derived.Test.YtfapckmobeppnaaWWords
import Derived.Test.YtfapckmobeppnaaWLast
import Derived.Test.YtfapckmobeppnaaWArr
namespace Go.Proofs.Ytfapckmobeppnaa.Px
open Go.RowKit Go.Shelf Go.Proofs.YtfapckmobeppnaaW.PrintWords Go.Proofs.YtfapckmobeppnaaW.PrintLast Go.Proofs.YtfapckmobeppnaaW.PrintMore

attribute [local go_sem] Oper.semAt_some
set_option linter.unusedVariables false

/-- what a region's step has put: for simp -/
theorem ps_ : (∀ (a : Act) (t : Tmp) (v : Value), Act.put a (some t) v = { a with tmps := a.tmps.setIfInBounds t v }) ∧ (∀ (xs : List Value) (i : Nat) (v : Value), xs.toArray.setIfInBounds i v = (xs.set i v).toArray) ∧ (∀ (x : Value) (xs : List Value) (y : Value), (x :: xs).set 0 y = y :: xs) ∧ (∀ (x : Value) (xs : List Value) (i : Nat) (y : Value), (x :: xs).set (i + 1) y = x :: xs.set i y) ∧ (∀ n : Int, IntKind.i64.wrap n = wrap64 n) ∧ (∀ n : Int, IntKind.i32.wrap n = wrap32 n) :=
 ⟨fun _ _ _ => rfl, fun _ _ _ => List.setIfInBounds_toArray .., fun _ _ _ => rfl, fun _ _ _ _ => rfl, i64_w, i32_w⟩

/-- seven digits a byte -/
def putL (n : Nat) : List Int := if n < 128 then [(n : Int)] else ((n % 128 + 128 : Nat) : Int) :: putL (n / 128)
termination_by n
decreasing_by omega

def num_Put.f (a0 : Int) : Option (List Int) := if 0 ≤ a0 ∧ a0 < 18446744073709551616 then some (putL a0.toNat) else none

theorem putL_small {n : Nat} (h : n < 128) : putL n = [(n : Int)] := by rw [putL, if_pos h]
theorem putL_great {n : Nat} (h : ¬ n < 128) : putL n = ((n % 128 + 128 : Nat) : Int) :: putL (n / 128) := by rw [putL, if_neg h]
theorem putL_length (n : Nat) : ∀ k : Nat, n < 128 ^ (k + 1) → (putL n).length ≤ k + 1 := by
 induction n using Nat.strongRecOn with
 | _ n ih =>
  intro k hk
  by_cases h : n < 128
  ·rw [putL_small h]; simp
  ·rw [putL_great h]
   cases k with
   | zero => simp at hk; omega
   | succ k =>
    have : (putL (n / 128)).length ≤ k + 1 := ih (n / 128) (by omega) k (by rw [Nat.pow_succ] at hk; omega)
    simp only [List.length_cons]; omega
theorem putL_ten {n : Nat} (h : n < 18446744073709551616) : (putL n).length ≤ 10 := putL_length n 9 (by simp; omega)

/-! ### an iterator that keeps a number of its own in a variable -/

/-- the iterator's own step: its variable (a box of type t) is written -/
def StT (B t : Nat) (W W' : World) : Prop := ∃ u v, Boxed W B t u ∧ W' = W.setCell ⟨B, 0, none⟩ v

def SeqT (F : Fence) (n : Nat) (P : Program) (g : Nat) (lb : Array Value) (encs : Int → Array Value) (B t : Nat) (xs : List Int) (w : World) : Prop :=
 ∀ (l : Nat) (J : List Int → World → Prop) (W : World), Below w.heap.size w W → (∀ s W W', J s W → StT B t W W' → J s W') →
  (∀ pre x W1, J pre W1 → pre.length < xs.length → YieldAt F (n - 1) P l (encs x) W1 fun e W' => e = .returned (.bool true) ∧ J (pre ++ [x]) W' ∧ W'.heap[B]? = W1.heap[B]?) →
  J [] W → CallsIn F n P g (#[.func (.yield l) #[] #[]] ++ lb) W fun e W' => (∃ v, e = .returned v) ∧ J xs W'

/-- how the body of a round ends: it goes on -/
def postT (B0 B : Nat) (I : List Int → World → Prop) (xs : List Int) (W : World) : Exit → Act → World → Prop
 | .normal, _, W' => KeepsFrom B0 W W' ∧ W'.heap[B]? = W.heap[B]? ∧ I xs W'
 | _, _, _ => False

section
variable {F : Fence} {n : Nat} {P : Program}

theorem wpIn_rangeFunc_T {g : Operand} {ps : Array Tmp} {assign body : Code} {Q : Exit → Act → World → Prop} {a : Act} {w : World}
  (hro : F.round = none) (h1 : 1 ≤ n) {gf : Nat} {lb : Array Value} (hg : a.eval g = .func (.func gf) #[] lb) (hFg : F.fn gf) (eg : ∀ args w, (callFunc gf args).run P w = .ok (.enter gf args) w)
  {encs : Int → Array Value} {B t : Nat} {xs : List Int} (hseq : SeqT F (n - 1) P gf lb encs B t xs w) (hBw : B < w.heap.size) (hps : ∀ x, (encs x).size = ps.size)
  (I : List Int → World → Prop) (hI : OwnFrom w.heap.size I) (hIT : ∀ s W W', I s W → StT B t W W' → I s W') (h0 : I [] w) (a₁ : Int → Act)
  (hassign : ∀ (l : Nat) (x : Int) (W : World) (K : Act → World → Prop), K (a₁ x) W →
   assign.wpIn (F.inRound l) (n - 1 - 1) P (Exit.then K (fun _ _ _ => False)) { tmps := (ps.zip (encs x)).foldl (fun t (p, v) => t.setIfInBounds p v) a.tmps, defers := [] } W)
  (hbody : ∀ (l : Nat) (pre : List Int) (x : Int) (W : World), I pre W → pre.length < xs.length → body.wpIn (F.inRound l) (n - 1 - 1) P (postT w.heap.size B I (pre ++ [x]) W) (a₁ x) W)
  (hdone : ∀ (D : Nat) (W : World), w.heap.size ≤ D → I xs W → W.heap[D]? = some (.deferred (some [])) → Q .normal { a with defers := { target := .collected D, args := #[] } :: a.defers } W) :
  (Code.rangeFunc g ps assign body).wpIn F n P Q a w := by
 refine wpIn_rangeFunc ?_
 intro fn hfn
 rw [hro]
 obtain ⟨rec, hrec⟩ : ∃ rec : LoopState → Option Code → Loop, rec = fun st pe => { state := st, pending := pe, fn, tmps := a.tmps, params := ps, assign, body, defers := w.heap.size } := ⟨_, rfl⟩
 obtain ⟨W1, hW1⟩ : ∃ W1, (w.alloc (.deferred (some []))).alloc (.loop (rec .ready none)) = W1 := ⟨_, rfl⟩
 have hL1 : W1.heap[w.heap.size + 1]? = some (.loop (rec .ready none)) := by
  rw [← hW1]; have := World.alloc_heap_new (w.alloc (.deferred (some []))) (.loop (rec .ready none)); rwa [World.size_alloc] at this
 have hK1 : W1.heap[w.heap.size]? = some (.deferred (some [])) := by
  rw [← hW1]; exact (Below.heap_alloc _ _ _ (by simp)).trans (World.alloc_heap_new w _)
 have hI1 : I [] W1 := by rw [← hW1]; exact hI.alloc _ (hI.alloc _ h0)
 have hb1 : Below w.heap.size w W1 := by
  rw [← hW1]; exact ((Below.refl _ w).alloc (Nat.le_refl _) _).alloc (by simp) _
 refine ⟨w.heap.size + 1, [{ target := .collected w.heap.size, args := #[] }], W1, { target := .fn (.func gf) lb, args := #[.func (.yield (w.heap.size + 1)) #[] #[]] }, W1, gf,
  #[.func (.yield (w.heap.size + 1)) #[] #[]] ++ lb, W1, ?_, ?_, ?_, ?_, fun _ => h1, ?_⟩
 ·rw [← hW1, hrec]; exact run_enterLoop_outer _ _ _ _ _
 ·simp only [resolve, hg]
  simp [go_sem]
 ·intro f' hf'; simp [Target.leads] at hf'; subst hf'; exact hFg
 ·simp [invoke, go_sem, eg]
 ·refine (hseq (w.heap.size + 1)
   (fun pre W => I pre W ∧ W.heap[w.heap.size + 1]? = some (.loop (rec .ready none)) ∧ W.heap[w.heap.size]? = some (.deferred (some [])))
   W1 hb1
   (fun s A A' hs hT => by
    refine ⟨hIT s A A' hs.1 hT, ?_, ?_⟩
    ·obtain ⟨u, v, _, rfl⟩ := hT
     exact (KeepsOthers.setCell A ⟨B, 0, none⟩ v).same _ _ hs.2.1 rfl
    ·obtain ⟨u, v, _, rfl⟩ := hT
     exact (KeepsOthers.setCell A ⟨B, 0, none⟩ v).same _ _ hs.2.2 rfl)
   ?_ ⟨hI1, hL1, hK1⟩).mono ?_
  ·rintro pre x W ⟨hi, hl, hk⟩ hlen
   have hlt : w.heap.size + 1 < W.heap.size := (Array.getElem?_eq_some_iff.1 hl).1
   have hy := run_yield (P := P) (args := encs x) hl (by rw [hrec]; exact hps x)
   rw [hrec] at hy
   refine ⟨fn, _, assign, body, hy, roundIn_of_wpIn hfn (hassign _ x W _ ⟨_, run_beginRound hl (by rw [hrec]), ?_⟩)⟩
   have hl2 : (W.putObj (w.heap.size + 1) (.loop { rec .ready none with state := .busy })).heap[w.heap.size + 1]? = some (.loop { rec .ready none with state := .busy }) := World.putObj_heap_same hlt
   have hk2 : (W.putObj (w.heap.size + 1) (.loop { rec .ready none with state := .busy })).heap[w.heap.size]? = some (.deferred (some [])) := (World.putObj_heap_other (by omega)).trans hk
   have hw2 : (W.putObj (w.heap.size + 1) (.loop { rec .ready none with state := .busy })).heap[B]? = W.heap[B]? := World.putObj_heap_other (by omega)
   refine wpIn_mono (hbody _ pre x _ (hI.putObj _ hi (by omega) hl rfl) hlen) ?_
   rintro e a3 W3 hp
   cases e with
   | normal =>
    obtain ⟨hk3, hkp3, hi3⟩ := hp
    have hl3 := hk3.same _ _ (by omega) hl2 rfl
    have hr := run_endRound (P := P) none hl3
    rw [hrec] at hr
    refine ⟨_, _, hr, ⟨rfl, ⟨hI.putObj _ hi3 (by omega) hl3 rfl, ?_, (World.putObj_heap_other (by omega)).trans (hk3.same _ _ (Nat.le_refl _) hk2 rfl)⟩, (World.putObj_heap_other (by omega)).trans (hkp3.trans hw2)⟩⟩
    rw [hrec]; exact World.putObj_heap_same (Array.getElem?_eq_some_iff.1 hl3).1
   | ret => exact hp.elim
   | exit id => exact hp.elim
   | goto t => exact hp.elim
   | panic ch => exact hp.elim
   | outgrown => exact hp.elim
  ·rintro e W2 ⟨⟨v, rfl⟩, hi, hl, hk⟩
   exact ⟨none, _, by have := run_endLoop (P := P) hl (by rw [hrec]; simp); rw [hrec] at this; exact this, hdone _ _ (Nat.le_refl _) (hI.putObj _ hi (by omega) hl rfl) ((World.putObj_heap_other (by omega)).trans hk)⟩
end

theorem or128 (v : Nat) (h : v < 256) : Go.bits .or .u8 (v : Int) 128 = ((v % 128 + 128 : Nat) : Int) := by
 have : ∀ x : Fin 256, Go.bits .or .u8 ((x.val : Nat) : Int) 128 = ((x.val % 128 + 128 : Nat) : Int) := by decide +kernel
 exact this ⟨v, h⟩

set_option maxHeartbeats 1000000 in
theorem Num.digits_in (F : Fence) (n : Nat) (h5 : F.fn 58) (hro : F.round = none) (a0 : Int) (w : World) :
  CallsIn F n Try.prog 58 #[.int .u64 a0] w fun e w' => e = .returned (.func (.func 59) #[] #[.pointer (some ⟨w.heap.size, 0, none⟩)]) ∧ w' = w.alloc (.cells #[.int .u64 a0] 23) := by
 refine callsIn_of_wp Try.func58 rfl h5 ?_ hro
 simp only [Try.ntmps58, List.size_toArray, List.length_cons, List.length_nil, Nat.reduceAdd, Nat.reduceSub, Array.replicate_succ, Array.replicate_zero, List.push_toArray, List.append_toArray, List.nil_append, List.cons_append]
 gi_wp2
 go_ret
 exact ⟨rfl, rfl⟩

set_option maxRecDepth 100000 in
set_option maxHeartbeats 2000000 in
theorem Num.digits1_in (F : Fence) (n : Nat) (h6 : F.fn 59) (hro : F.round = none) (hn : 1 ≤ n) (l B m : Nat) (hm : m < 18446744073709551616) (J : List Int → World → Prop)
  (hJ : ∀ s W W', J s W → StT B 23 W W' → J s W')
  (hY : ∀ pre x W1, J pre W1 → pre.length < (putL m).length → YieldAt F (n - 1) Try.prog l #[.int .u8 x] W1 fun e W' => e = .returned (.bool true) ∧ J (pre ++ [x]) W' ∧ W'.heap[B]? = W1.heap[B]?)
  (W : World) (hB : Boxed W B 23 (.int .u64 (m : Int))) (h0 : J [] W) :
  CallsIn F n Try.prog 59 #[.func (.yield l) #[] #[], .pointer (some ⟨B, 0, none⟩)] W fun e W' => (∃ v, e = .returned v) ∧ J (putL m) W' := by
 refine callsIn_of_wp Try.func59 rfl h6 ?_ hro
 simp only [Try.ntmps59, List.size_toArray, List.length_cons, List.length_nil, Nat.reduceAdd, Nat.reduceSub, Array.replicate_succ, Array.replicate_zero, List.push_toArray, List.append_toArray, List.nil_append, List.cons_append]
 gi_wp2
 gi_loopw [3] (fun _ wr => ∃ (pre : List Int) (m1 : Nat), Aside0 (putL m = pre ++ putL m1) ∧ m1 < 18446744073709551616 ∧ Boxed wr B 23 (.int .u64 (m1 : Int)) ∧ J pre wr)
  (fun _ wr => (intOf ((wr.cell? ⟨B, 0, none⟩).getD undef)).toNat)
 case atStart => exact ⟨[], m, ⟨rfl⟩, hm, hB, h0⟩
 case round =>
  obtain ⟨pre, m1, hx, hm1, hb, hj⟩ := hrel
  have hc := hb.cell
  have hf := hb.frozen
  by_cases h8 : m1 < 128
  ·have b1 : decide ((128 : Int) ≤ (m1 : Int)) = false := decide_eq_false (by omega)
   obtain ⟨fn, tmps, assign, body, hy, hR⟩ := hY pre (m1 : Int) wr hj (by rw [hx.out, putL_small h8]; simp)
   have e1 : (m1 : Int) % 256 = (m1 : Int) := by omega
   have hfin : putL m = pre ++ [(m1 : Int)] := by rw [hx.out, putL_small h8]
   have HF := Aside0.mk hfin
   clear hfin
   gi_wp2
   refine hR.mono ?_
   rintro e W3 ⟨rfl, hJ3, hk3⟩
   gi_wp2
   go_end0
   exact ⟨⟨_, rfl⟩, by rw [HF.out]; exact hJ3⟩
  ·have b1 : decide ((128 : Int) ≤ (m1 : Int)) = true := decide_eq_true (by omega)
   obtain ⟨fn, tmps, assign, body, hy, hR⟩ := hY pre (Go.bits .or .u8 ((m1 : Int) % 256) 128) wr hj (by rw [hx.out]; rw [putL_great h8]; simp)
   have HF : Aside0 (putL m = (pre ++ [Go.bits .or .u8 ((m1 : Int) % 256) 128]) ++ putL (m1 / 128)) := ⟨by
    rw [hx.out, putL_great h8, show ((m1 : Int) % 256) = ((m1 % 256 : Nat) : Int) from by omega, or128 _ (by omega), show m1 % 256 % 128 = m1 % 128 from by omega]; simp⟩
   gi_wp2
   refine hR.mono ?_
   rintro e W3 ⟨rfl, hJ3, hk3⟩
   have hb3 : Boxed W3 B 23 (.int .u64 (m1 : Int)) := hk3.trans hb
   have hc3 := hb3.cell
   have hf3 := hb3.frozen
   have hlt3 := hb3.lt
   gi_wp2
   have hd : (m1 : Int) / 128 = ((m1 / 128 : Nat) : Int) := by omega
   have hbs := hb3.set (.int .u64 ((m1 : Int) / 128))
   have hj3 := hJ _ _ _ hJ3 ⟨_, .int .u64 ((m1 : Int) / 128), hb3, rfl⟩
   have hcs := hbs.cell
   refine ⟨⟨_, m1 / 128, HF, by omega, ?_, hj3⟩, ?_⟩
   ·rw [hd] at hbs ⊢; exact hbs
   ·rw [hcs, hc]; simp only [Option.getD_some, intOf]; omega

set_option maxRecDepth 100000 in
set_option maxHeartbeats 2000000 in
theorem Num.Put_in (F : Fence) (n : Nat) (h3 : F.fn 57) (h4 : F.fn 58) (h5 : F.fn 59) (hro : F.round = none) (hn : 3 ≤ n) (m : Nat) (hm : m < 18446744073709551616) (w : World) :
  CallsIn F n Try.prog 57 #[.int .u64 (m : Int)] w fun e W' => ∃ v, e = .returned v ∧ W'.ownsRow w.heap.size 5 1 v (putL m).length ((putL m).map (Value.int .u8)) ∧ Below w.heap.size w W' := by
 have h1 : 1 ≤ n := by omega
 have hp10 := putL_ten hm
 obtain ⟨i0, hi, hz0, hz1, hz2⟩ := info_parts (show (Try.prog.info? 5).map (fun i => (i.zero, i.size, i.bytes)) = some (some (.int .u8 0), 1, 1) by kernel_rfl)
 refine callsIn_of_wp_marks Try.func57 rfl h3 ?_ hro
 simp only [Try.ntmps57, List.size_toArray, List.length_cons, List.length_nil, Nat.reduceAdd, Nat.reduceSub, Array.replicate_succ, Array.replicate_zero, List.push_toArray, List.append_toArray, List.nil_append, List.cons_append]
 gi_wp2_with (gi_at_call 58; refine (Num.digits_in F (n - 1) h4 hro _ _).mono ?_; rintro e w' ⟨rfl, rfl⟩)
 have bO := Boxed.new w 22 (.slice none 0 0)
 have bN := Boxed.new (w.alloc (.cells #[.slice none 0 0] 22)) 23 (.int .u64 (m : Int))
 rw [World.size_alloc] at bN
 have hB0 : Below w.heap.size w ((w.alloc (.cells #[.slice none 0 0] 22)).alloc (.cells #[.int .u64 (m : Int)] 23)) := ((Below.refl _ w).alloc (Nat.le_refl _) _).alloc (by simp) _
 refine wpIn_rangeFunc_T hro h1 (gf := 59) (lb := #[.pointer (some ⟨w.heap.size + 1, 0, none⟩)]) rfl h5 (enters_of Try.func59 (by kernel_rfl) rfl)
  (encs := fun x => #[.int .u8 x]) (B := w.heap.size + 1) (t := 23) (xs := putL m)
  (fun l J W hW hJ hY h0 => Num.digits1_in F (n - 1) h5 hro (by omega) l (w.heap.size + 1) m hm J hJ hY W ((hW.block (w.heap.size + 1) (by simp)).trans bN) h0) (by simp) (fun _ => rfl)
  (fun pre W => (∃ v, Boxed W w.heap.size 22 v ∧ W.ownsRow w.heap.size 5 1 v pre.length (pre.map (Value.int .u8))) ∧ (∃ x : Value, Boxed W (w.heap.size + 1) 23 x) ∧ Below w.heap.size w W)
  ?hI ?hIT ?h0
  (fun x => { tmps := #[.int .u64 (m : Int), undef, .slice none 0 0, .pointer (some ⟨w.heap.size, 0, none⟩), .int .u8 x, .int .u64 (m : Int), .func (.func 59) #[] #[.pointer (some ⟨w.heap.size + 1, 0, none⟩)], .int .u8 x, undef, undef, undef, undef, undef], defers := [] }) ?assign ?body ?done
 case hI =>
  refine OwnFrom.and (Own.from (fun s A A' row hs hg hr => ?_) _) (OwnFrom.and (Own.from (fun s A A' row hs hg hr => ?_) _) (ownFrom_below (Nat.le_refl _) (by simp; omega)))
  ·obtain ⟨v, h1, h2, _⟩ := holdsRow_own w.heap.size w.heap.size 22 5 1 (fun pre : List Int => pre.length) (fun pre => pre.map (Value.int .u8)) (fun _ _ => True) s A A' row (by obtain ⟨v, h1, h2⟩ := hs; exact ⟨v, h1, h2, trivial⟩) hg hr
   exact ⟨v, h1, h2⟩
  ·obtain ⟨x, hx⟩ := hs
   refine ⟨x, hx.kept hg (fun e => ?_)⟩
   obtain ⟨o, ho, hc⟩ := hr _ e.symm
   rw [show A.heap[w.heap.size + 1]? = _ from hx] at ho
   cases ho
   cases hc
 case hIT =>
  rintro s A A' ⟨⟨v, hv, hrow⟩, ⟨x, hx⟩, hB⟩ ⟨u, y, hb, rfl⟩
  exact ⟨⟨v, (Below.heap_setCell _ _ _ _ (by simp)).trans hv, hrow.kept (grownBy_setCell' A _ y) (.inr (hx.not_row (by decide) hrow).symm)⟩, ⟨y, hx.set y⟩, hB.setCell (p := ⟨w.heap.size + 1, 0, none⟩) (by simp) _⟩
 case h0 => exact ⟨⟨_, bO.alloc _, World.ownsRow_nil _ _ _ _⟩, ⟨_, bN⟩, hB0⟩
 case assign =>
  intro l x W K hK
  gi_wp2
  exact hK
 case body =>
  rintro l pre x W ⟨⟨v, hv, hrow⟩, ⟨y, hN⟩, hB⟩ hlt
  have hc := hv.cell
  have hpl : pre.length < 10 := by omega
  gi_wp2_with (gi_at_builtin; refine wpListIn_append_own _ rfl _ _ 22 rfl w.heap.size 5 i0 (.int .u8 0) 1 1 Try.underlying22 hi hz0 hz1 hz2 rfl (by decide) _ _ _ rfl (hrow.alloc _) ⟨W.heap.size, 0, none⟩ 1 1 [.int .u8 x] rfl rfl (cell_one_new _ _ _) (by simp [Value.oneCell']) (by unfold maxLen; omega) (by omega) (by have := hB.size; simp; omega) ?_; intro v' w1 hown' hgrow _; obtain ⟨g', cap', rfl⟩ := ownsRow_succ hown'; obtain ⟨hv1, hv2, hr2, hk2, hb2⟩ := hv.appended (by decide) hrow hB.size (Nat.le_refl _) hown' hgrow; have hc1 := hv1.cell; have hf1 := hv1.frozen)
  have hNk : (w1.setCell ⟨w.heap.size, 0, none⟩ (.slice (some ⟨g', 0, none⟩) (pre.length + 1) cap')).heap[w.heap.size + 1]? = W.heap[w.heap.size + 1]? := by
   rw [Below.heap_setCell _ _ _ _ (by simp)]
   refine (hgrow.block _ (by have := hN.lt; simp; omega) (hN.not_row (by decide) hrow)).trans ?_
   exact Below.heap_alloc _ _ _ hN.lt
  refine ⟨hk2.from _, hNk, ⟨_, hv2, by simpa using hr2⟩, ⟨y, hNk.trans hN⟩, hB.trans hb2⟩
 case done =>
  rintro D W hD ⟨⟨v, hv, hrow⟩, _, hB⟩ hK
  have hc := hv.cell
  gi_wp2
  refine ⟨by simp, .inl ⟨_, _, rfl, run_takeDeferred hK, ?_⟩⟩
  exact ⟨_, results_tmp rfl _ _ _, v, rfl, ownsRow_putObj hrow _ hK rfl, hB.trans (belowK_b (w := w) (Nat.le_refl _) W D _ _ (by simp at hD; omega) hK rfl rfl)⟩

theorem Num.Put_calls (a0 : Int) (r : List Int) (w : World) (h : num_Put.f a0 = some r) :
  Calls Try.prog 57 #[.int .u64 a0] w fun e w' => ∃ v0_ : Value, e = .returned (v0_) ∧ Kd.R (Kd.int .u8) 5 w' w.heap.size (fun _ => True) v0_ r ∧ Below w.heap.size w w' := by
 unfold num_Put.f at h
 by_cases hd : 0 ≤ a0 ∧ a0 < 18446744073709551616
 ·rw [if_pos hd] at h
  simp only [Option.some.injEq] at h
  subst h
  obtain ⟨m, rfl⟩ : ∃ m : Nat, a0 = (m : Int) := ⟨a0.toNat, by omega⟩
  rw [Int.toNat_natCast]
  refine ((callsIn_wide (n := 3)).1 (Num.Put_in Fence.wide 3 trivial trivial trivial rfl (by omega) m (by omega) w)).mono ?_
  rintro e w' ⟨v, rfl, ho, hb⟩
  exact ⟨v, rfl, Kd.R_of_own ho (fun _ _ => trivial), hb⟩
 ·rw [if_neg hd] at h
  cases h
end Go.Proofs.Ytfapckmobeppnaa.Px
