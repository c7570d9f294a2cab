import Derived.Test.YtbpobnlkfpjijaaPr0
import Derived.RangeFuncNested
import Derived.RangeFuncBound
import Derived.RangeFuncCalls
import Derived.RangeFuncLeaves
import Derived.RangeFuncBox
import Derived.Shelf.Abstract
import Derived.Shelf.RegionOpen
import Derived.WalkKit
import Derived.OwnWalkIn
import Derived.TacticsInMore
import Derived.LoopNIn
import Derived.LoopIn
import Derived.Laws.Cover1
import Derived.Lib.Hide
import Derived.Maps.AppendAt
/-! series.Split of the terms from 0 on, eight a piece. -/
namespace Go.Proofs.Ytbpobnlkfpjijaa.Pr
open Go.RowKit Go.Shelf Go.Proofs.YtbpobnlkfpjijaaW.PrintWords Go.Proofs.YtbpobnlkfpjijaaW.PrintLast Go.Proofs.YtbpobnlkfpjijaaW.PrintMore
set_option linter.unusedVariables false
set_option linter.unusedSimpArgs false
theorem maxInt3 (k k' : IntKind) : Builtin.max2 (.int k 8) (.int k' 1) = pure (.int k 8) := by rw [max2_int]; rfl
attribute [local go_sem] Oper.semAt_some maxInt3 max_two
set_option maxHeartbeats 1000000 in
theorem pieces_calls (a b s : Int) (w : World) : Calls Try.prog 57 #[.agg #[.int .i64 a, .int .i64 b], .int .i64 s] w fun e w' => e = .returned (.func (.func 78) #[] #[.pointer (some ⟨w.heap.size, 0, none⟩), .pointer (some ⟨w.heap.size + 1, 0, none⟩)]) ∧ w' = (w.alloc (.cells #[.int .i64 a, .int .i64 b] 29)).alloc (.cells #[.int .i64 s] 3) := by
  go_enter Try.func57, Try.ntmps57
  go_wp2
  go_ret
  exact ⟨rfl, rfl⟩
/-- What a round that goes on keeps: what lay below n, and two blocks more. -/
def KeepsP2 (n A B : Nat) (W W' : World) : Prop := Below n W W' ∧ W'.heap[A]? = W.heap[A]? ∧ W'.heap[B]? = W.heap[B]?
/-- The piece from 8 j on. -/
def splitElt (N : Int) (j : Nat) : S29 := ⟨8 * (j : Int), if N - 8 * (j : Int) > 8 then 8 * (j : Int) + 8 else N⟩
def splitUpto (N : Int) (k : Nat) : List S29 := (List.range k).map (splitElt N)
theorem splitUpto_succ (N : Int) (k : Nat) : splitUpto N (k + 1) = splitUpto N k ++ [splitElt N k] := by simp [splitUpto, List.range_succ]
theorem splitUpto_length (N : Int) (k : Nat) : (splitUpto N k).length = k := by simp [splitUpto]
/-- How many pieces. -/
def splitLen (N : Int) : Nat := ((N + 7) / 8).toNat
set_option maxRecDepth 100000 in
set_option maxHeartbeats 2000000 in
/-- series.pieces' closure, from 0 on, eight a piece. -/
theorem pieces1_in (n : Nat) (hn : 2 ≤ n) (B l Ba Bb n₀ : Nat) (N : Int) (hN : 1 ≤ N) (hN2 : N ≤ 1000) (J Jx : List S29 → World → Prop) (hJ : AbidesFrom B J)
    (hY : ∀ pre x W, J pre W → pre.length < splitLen N → YieldAt Fence.wide (n - 1) Try.prog l #[.agg #[.int .i64 x.f0, .int .i64 x.f1]] W fun e W' =>
      (e = .returned (.bool true) ∧ J (pre ++ [x]) W' ∧ KeepsP2 n₀ Ba Bb W W') ∨ (e = .returned (.bool false) ∧ Jx (pre ++ [x]) W'))
    (W : World) (hBa : W.heap[Ba]? = some (.cells #[.int .i64 0, .int .i64 N] 29 (0, 0))) (hBb : W.heap[Bb]? = some (.cells #[.int .i64 8] 3 (0, 0))) (h0 : J [] W) :
    CallsIn Fence.wide n Try.prog 78 #[.func (.yield l) #[] #[], .pointer (some ⟨Ba, 0, none⟩), .pointer (some ⟨Bb, 0, none⟩)] W fun e W' => (∃ v, e = .returned v) ∧
      ((∃ zs, zs = splitUpto N (splitLen N) ∧ J zs W') ∨ (∃ pre, True ∧ Jx pre W')) := by
  refine callsIn_of_wp Try.func78 rfl trivial ?_ rfl
  simp only [Try.ntmps78, List.size_toArray, List.length_cons, List.length_nil, Nat.reduceAdd, Nat.reduceSub, Array.replicate_succ, Array.replicate_zero, List.push_toArray, List.append_toArray, List.nil_append, List.cons_append]
  have ha0 : W.cell? ⟨Ba, 0, none⟩ = some (.int .i64 0) := by simp [World.cell?, hBa]
  have HBa := Lib.hid hBa
  have HBb := Lib.hid hBb
  have HY := Lib.hid hY
  clear hBa hBb hY
  gi_wp2
  gi_loopw [4] (fun i wr => ∃ k : Nat, 8 * (k : Int) < N ∧ i = .int .i64 (8 * (k : Int)) ∧ Hid (J (splitUpto N k) wr) ∧ Hid (KeepsP2 n₀ Ba Bb W wr))
    (fun i _ => N.toNat - (intOf i).toNat)
  case atStart => exact ⟨0, by omega, by simp, h0, Below.refl _ _, rfl, rfl⟩
  case round =>
    obtain ⟨k, hk, rfl, hJs, HKP⟩ := hrel
    have hca : wr.cell? ⟨Ba, 1, none⟩ = some (.int .i64 N) := by simp [World.cell?, HKP.out.2.1, HBa.out]
    have hcb : wr.cell? ⟨Bb, 0, none⟩ = some (.int .i64 8) := by simp [World.cell?, HKP.out.2.2, HBb.out]
    have hlen : (splitUpto N k).length < splitLen N := by rw [splitUpto_length]; unfold splitLen; omega
    by_cases hlast : N - 8 * (k : Int) > 8
    · have hel : splitElt N k = ⟨8 * (k : Int), 8 * (k : Int) + 8⟩ := by unfold splitElt; rw [if_pos hlast]
      obtain ⟨fn, tmps, assign, body, hy, hR⟩ := HY.out _ (splitElt N k) wr hJs.out hlen
      rw [← splitUpto_succ] at hR
      rw [hel] at hy
      dsimp only at hy
      have HL := Lib.hid hlen
      have HE := Lib.hid hel
      have HR := Lib.hid hR
      clear hlen hel hR
      gi_wp2
      refine ⟨fun _ => by omega, HR.out.mono ?_⟩
      rintro e W3 (⟨rfl, hJ3, hk3⟩ | ⟨rfl, hJx3⟩)
      · have hcc : W3.cell? ⟨Ba, 1, none⟩ = some (.int .i64 N) := by simp [World.cell?, hk3.2.1, HKP.out.2.1, HBa.out]
        have hcd : W3.cell? ⟨Bb, 0, none⟩ = some (.int .i64 8) := by simp [World.cell?, hk3.2.2, HKP.out.2.2, HBb.out]
        have HJ := Lib.hid hJ3
        have HK := Lib.hid hk3
        clear hJ3 hk3
        gi_wp2
        go_roundw
        case rel => exact ⟨k + 1, by omega, by go_num, HJ.out, HKP.out.1.trans HK.out.1, HK.out.2.1.trans HKP.out.2.1, HK.out.2.2.trans HKP.out.2.2⟩
        case measure => simp [intOf]; omega
      · gi_wp2
        refine bodyPost_ret (results_none rfl _ _ _) rfl ?_
        exact ⟨⟨_, rfl⟩, .inr ⟨_, trivial, hJx3⟩⟩
    · have hel : splitElt N k = ⟨8 * (k : Int), N⟩ := by unfold splitElt; rw [if_neg hlast]
      obtain ⟨fn, tmps, assign, body, hy, hR⟩ := HY.out _ (splitElt N k) wr hJs.out hlen
      rw [← splitUpto_succ] at hR
      rw [hel] at hy
      dsimp only at hy
      have hM : splitLen N = k + 1 := by unfold splitLen; omega
      have HL := Lib.hid hlen
      have HE := Lib.hid hel
      have HR := Lib.hid hR
      have HM := Lib.hid hM
      clear hlen hel hR hM
      gi_wp2
      refine ⟨fun _ => by omega, HR.out.mono ?_⟩
      rintro e W3 (⟨rfl, hJ3, hk3⟩ | ⟨rfl, hJx3⟩)
      · have hcc : W3.cell? ⟨Ba, 1, none⟩ = some (.int .i64 N) := by simp [World.cell?, hk3.2.1, HKP.out.2.1, HBa.out]
        have HJ := Lib.hid hJ3
        have HK := Lib.hid hk3
        clear hJ3 hk3
        gi_wp2
        refine bodyPost_ret (results_none rfl _ _ _) rfl ?_
        exact ⟨⟨_, rfl⟩, .inl ⟨_, by rw [HM.out], HJ.out⟩⟩
      · gi_wp2
        refine bodyPost_ret (results_none rfl _ _ _) rfl ?_
        exact ⟨⟨_, rfl⟩, .inr ⟨_, trivial, hJx3⟩⟩
theorem pieces_stops (n : Nat) (hn : 2 ≤ n) (Ba Bb n₀ : Nat) (N : Int) (hN : 1 ≤ N) (hN2 : N ≤ 1000) (w : World) (hn₀ : n₀ ≤ w.heap.size) (ha : Ba < n₀) (hb : Bb < n₀)
    (hBa : w.heap[Ba]? = some (.cells #[.int .i64 0, .int .i64 N] 29 (0, 0))) (hBb : w.heap[Bb]? = some (.cells #[.int .i64 8] 3 (0, 0))) :
    SeqStopsK Fence.wide n Try.prog 78 #[.pointer (some ⟨Ba, 0, none⟩), .pointer (some ⟨Bb, 0, none⟩)] (fun x : S29 => #[Value.agg #[.int .i64 x.f0, .int .i64 x.f1]]) (Below n₀) (fun zs => zs = splitUpto N (splitLen N)) (fun _ => True) (splitLen N) w := fun l J Jx W hW hJ _ hY h0 => by
  have h1 := (hW.block Ba (by omega)).trans hBa
  have h2 := (hW.block Bb (by omega)).trans hBb
  refine pieces1_in n hn W.heap.size l Ba Bb n₀ N hN hN2 J Jx hJ (fun pre x W hj hl => (hY pre x W hj hl).mono ?_) W h1 h2 h0
  rintro e W' (⟨h, hj, hk⟩ | h)
  · exact .inl ⟨h, hj, hk, hk.block Ba ha, hk.block Bb hb⟩
  · exact .inr h
def enc29 (x : S29) : List Value := [.int .i64 x.f0, .int .i64 x.f1]
def encs29 (l : List S29) : List Value := l.flatMap enc29
theorem encs29_snoc (l : List S29) (x : S29) : encs29 (l ++ [x]) = encs29 l ++ enc29 x := by simp [encs29]
theorem encs29_reps {R : S29 → List Value → Prop} (hR : ∀ x, R x (enc29 x)) : ∀ (l : List S29), Reps R 2 l (encs29 l)
  | [] => Reps.none _ _
  | x :: l => Reps.c2 (hR x) (encs29_reps hR l)
theorem R_ranges {W : World} {base : Nat} {v : Value} {xs : List S29} (h : W.ownsRow base 29 2 v xs.length (encs29 xs)) : Kd.R k29 29 W base (fun _ => True) v xs :=
  ⟨fun _ _ => trivial, encs29 xs, h, encs29_reps (fun x => k29_mkM _ _ _ x) xs⟩
theorem info29 : (Try.prog.info? 29).map (fun i => (i.zero, i.size, i.bytes)) = some (some (.agg #[.int .i64 0, .int .i64 0]), 2, 16) := by kernel_rfl
theorem cell_two_new (w : World) (x y : Value) (t : TypeId) : ∀ j u, [x, y][j]? = some u → (w.alloc (.cells #[x, y] t)).cell? ((⟨w.heap.size, 0, none⟩ : Addr).add j) = some u := by
  intro j u hj
  match j, hj with
  | 0, hj => simp at hj; subst hj; simp [Addr.add]
  | 1, hj => simp at hj; subst hj; simp [Addr.add]
theorem block_own {β : Type} (B : Nat) (o : Obj) (ho : o.isCells = true) : Own (fun (_ : β) W => W.heap[B]? = some o) := fun s X Y row hs hg hrow =>
  (hg.block B (Array.getElem?_eq_some_iff.1 hs).1 (fun e' => by obtain ⟨o', ho', hc⟩ := hrow B e'.symm; rw [show X.heap[B]? = _ from hs] at ho'; cases ho'; rw [ho] at hc; cases hc)).trans hs
set_option maxRecDepth 100000 in
set_option maxHeartbeats 4000000 in
theorem appendSeq_in (n : Nat) (hn : 5 ≤ n) (Ba Bb : Nat) (N : Int) (hN : 1 ≤ N) (hN2 : N ≤ 1000) (w : World) (hBa : w.heap[Ba]? = some (.cells #[.int .i64 0, .int .i64 N] 29 (0, 0))) (hBb : w.heap[Bb]? = some (.cells #[.int .i64 8] 3 (0, 0))) :
    CallsIn Fence.wide n Try.prog 77 #[.slice none 0 0, .func (.func 78) #[] #[.pointer (some ⟨Ba, 0, none⟩), .pointer (some ⟨Bb, 0, none⟩)]] w fun e W' => ∃ v, e = .returned v ∧ Kd.R k29 29 W' w.heap.size (fun _ => True) v (splitUpto N (splitLen N)) ∧ Below w.heap.size w W' := by
  have h1 : 1 ≤ n := by omega
  have ha := (Array.getElem?_eq_some_iff.1 hBa).1
  have hb := (Array.getElem?_eq_some_iff.1 hBb).1
  have hlen : splitLen N ≤ 1000 := by unfold splitLen; omega
  refine callsIn_of_wp_marks Try.func77 rfl trivial ?_ rfl
  simp only [Try.ntmps77, List.size_toArray, List.length_cons, List.length_nil, Nat.reduceAdd, Nat.reduceSub, Array.replicate_succ, Array.replicate_zero, List.push_toArray, List.append_toArray, List.nil_append, List.cons_append]
  have HBa := Lib.hid hBa
  have HBb := Lib.hid hBb
  clear hBa hBb
  gi_wp2_with fail
  obtain ⟨i0, hi, hz0, hz1, hz2⟩ := info_parts info29
  have bO0 := Boxed.new w 26 (.slice none 0 0)
  obtain ⟨W0, hW0⟩ : ∃ W0, w.alloc (.cells #[.slice none 0 0] 26) = W0 := ⟨_, rfl⟩
  have hs0 : W0.heap.size = w.heap.size + 1 := by rw [← hW0]; simp
  have hb0 : Below w.heap.size w W0 := by rw [← hW0]; exact below_alloc (Below.refl _ _) _
  rw [hW0] at bO0 ⊢
  clear hW0
  refine wpIn_rangeFunc_ownH rfl h1 (gf := 78) (lb := #[.pointer (some ⟨Ba, 0, none⟩), .pointer (some ⟨Bb, 0, none⟩)]) rfl trivial (enters_of Try.func78 (by kernel_rfl) rfl)
    (pieces_stops (n - 1) (by omega) Ba Bb w.heap.size N hN hN2 W0 (by omega) ha hb ((hb0.block Ba ha).trans HBa.out) ((hb0.block Bb hb).trans HBb.out)) belowK_t (belowK_b (by omega)) (Below.refl _ _) (fun _ => rfl)
    (fun pre W => (∃ v, Boxed W w.heap.size 26 v ∧ W.ownsRow (w.heap.size + 1) 29 2 v pre.length (encs29 pre) ∧ True) ∧ (Below w.heap.size w W ∧ w.heap.size + 1 ≤ W.heap.size))
    (fun _ _ _ => False)
    (OwnFrom.and (Own.from (holdsRow_own (w.heap.size + 1) w.heap.size 26 29 2 (fun pre : List S29 => pre.length) (fun pre => encs29 pre) (fun _ _ => True)) _) (OwnFrom.and (ownFrom_below (Nat.le_refl _) (by omega)) (fun _ _ _ _ hs hg _ => Nat.le_trans hs hg.size)))
    (fun _ _ _ _ _ hs _ _ => hs)
    ⟨⟨_, bO0, World.ownsRow_nil _ _ _ _, trivial⟩, hb0, by omega⟩
    (fun x a' W => ∃ Bx, w.heap.size + 1 ≤ Bx ∧ W.heap[Bx]? = some (.cells #[.int .i64 x.f0, .int .i64 x.f1] 29 (0, 0)) ∧ a' = { tmps := #[.slice none 0 0, .func (.func 78) #[] #[.pointer (some ⟨Ba, 0, none⟩), .pointer (some ⟨Bb, 0, none⟩)], .pointer (some ⟨w.heap.size, 0, none⟩), undef, .slice none 0 0, .pointer (some ⟨Bx, 0, none⟩), .func (.func 78) #[] #[.pointer (some ⟨Ba, 0, none⟩), .pointer (some ⟨Bb, 0, none⟩)], .agg #[.int .i64 x.f0, .int .i64 x.f1], undef, undef, undef, undef, undef], defers := [] })
    (fun x a' _ X Y row hs hg hr => by obtain ⟨Bx, h1, h2, h3⟩ := hs; exact ⟨Bx, h1, block_own (β := Unit) Bx _ rfl () X Y row h2 hg (fun r e => (hr r e).2), h3⟩)
    ?assign ?body ?done ?stop
  case assign =>
    rintro l pre x W K ⟨⟨v, hv, hrow, _⟩, hB, hsz⟩ hK
    gi_wp2
    exact hK _ _ ((KeepsOthers.alloc _ _).from _) ((Below.refl _ W).alloc (by omega) _) ⟨⟨v, hv.alloc _, hrow.alloc _, trivial⟩, hB.alloc (by omega) _, by simp; omega⟩ ⟨W.heap.size, by omega, heap_alloc_new W _, rfl⟩
  case body =>
    rintro l pre x a' W hl ⟨r, hr⟩ ⟨⟨v, hv, hrow, _⟩, hB, hsz⟩ ⟨Bx, hBx, bX, rfl⟩ hlt
    have hc0 := hv.cell
    have hx0 : W.cell? ⟨Bx, 0, none⟩ = some (.int .i64 x.f0) := by simp [World.cell?, bX]
    have hx1 : W.cell? ⟨Bx, 1, none⟩ = some (.int .i64 x.f1) := by simp [World.cell?, bX]
    have hown0 : W.ownsRow w.heap.size 29 2 v pre.length (encs29 pre) := own_weaken hrow (by omega)
    have hm1 : pre.length + 1 ≤ maxLen := by unfold maxLen; omega
    have hfin : ∀ v' w1, w1.ownsRow (w.heap.size + 1) 29 2 v' (pre.length + 1) (encs29 pre ++ [.int .i64 x.f0, .int .i64 x.f1]) → (W.alloc (.cells #[.int .i64 x.f0, .int .i64 x.f1] 29)).grownBy w1 v.ownBlock →
        Boxed w1 w.heap.size 26 v ∧ KeepsFrom W0.heap.size W (w1.setCell ⟨w.heap.size, 0, none⟩ v') ∧ Below w.heap.size W (w1.setCell ⟨w.heap.size, 0, none⟩ v') ∧
        (∃ v2, Boxed (w1.setCell ⟨w.heap.size, 0, none⟩ v') w.heap.size 26 v2 ∧ (w1.setCell ⟨w.heap.size, 0, none⟩ v').ownsRow (w.heap.size + 1) 29 2 v2 (pre ++ [x]).length (encs29 (pre ++ [x])) ∧ True) ∧ Below w.heap.size w (w1.setCell ⟨w.heap.size, 0, none⟩ v') ∧ w.heap.size + 1 ≤ (w1.setCell ⟨w.heap.size, 0, none⟩ v').heap.size := by
      intro v' w1 hown' hgrow
      have hown1 : w1.ownsRow w.heap.size 29 2 v' (pre.length + 1) (encs29 pre ++ [.int .i64 x.f0, .int .i64 x.f1]) := own_weaken hown' (by omega)
      obtain ⟨hv1, hv2, _, hk2, hb2⟩ := hv.appended (by decide) hown0 (by omega) (by omega) hown1 hgrow
      have hsz2 : (w1.setCell ⟨w.heap.size, 0, none⟩ v').heap.size = w1.heap.size := by simp
      have hsz3 : W.heap.size + 1 ≤ w1.heap.size := by have := hgrow.size; simpa using this
      refine ⟨hv1, hk2.from _, hb2, ⟨v', hv2, ?_, trivial⟩, hB.trans hb2, by omega⟩
      rw [List.length_append, encs29_snoc]
      exact hown'.kept (grownBy_setCell' w1 _ v') (.inr (hv1.not_row (by decide) hown').symm)
    have HF := Lib.hid hfin
    have HRW := Lib.hid hrow
    have HB := Lib.hid hB
    have HX := Lib.hid bX
    clear hfin hrow hown0 hB bX
    gi_wp2_with (gi_at_builtin; refine wpListIn_append_own _ rfl _ _ 26 rfl (w.heap.size + 1) 29 i0 (.agg #[.int .i64 0, .int .i64 0]) 2 16 Try.underlying26 hi hz0 hz1 hz2 rfl (by decide) _ _ _ rfl (HRW.out.alloc _) ⟨W.heap.size, 0, none⟩ 1 1 [.int .i64 x.f0, .int .i64 x.f1] rfl rfl (cell_two_new _ _ _ _) (by simp [Value.oneCell']) (by omega) (by omega) (by simp; omega) ?_; intro v' w1 hown' hgrow _; obtain ⟨g', cap', rfl⟩ := ownsRow_succ hown'; have hc1 := (HF.out _ _ hown' hgrow).1.cell; have hf1 := (HF.out _ _ hown' hgrow).1.frozen)
    exact (HF.out _ _ hown' hgrow).2
  case done =>
    rintro D ys W hD rfl ⟨⟨v, hv, hrow, _⟩, hB, hsz⟩ hK
    have hc0 := hv.cell
    have hR : Kd.R k29 29 (W.putObj D (.deferred none)) w.heap.size (fun _ => True) v (splitUpto N (splitLen N)) := R_ranges (own_weaken (ownsRow_putObj hrow _ hK rfl) (by omega))
    have hBel : Below w.heap.size w (W.putObj D (.deferred none)) := hB.trans (belowK_b (w := w) (Nat.le_refl _) W D _ _ (by omega) hK rfl rfl)
    obtain ⟨A1, c1, rfl⟩ := Kd.R_slice hR
    have HR := Lib.hid hR
    clear hR hrow
    gi_wp2
    refine ⟨by simp, .inl ⟨_, _, rfl, run_takeDeferred hK, ?_⟩⟩
    exact ⟨_, by simp [results, Try.results77, go_sem], _, rfl, HR.out, hBel⟩
  case stop =>
    rintro D c pre W _ _ h _
    exact h.elim
set_option maxHeartbeats 1000000 in
theorem collect_calls (Ba Bb : Nat) (N : Int) (hN : 1 ≤ N) (hN2 : N ≤ 1000) (w : World) (hBa : w.heap[Ba]? = some (.cells #[.int .i64 0, .int .i64 N] 29 (0, 0))) (hBb : w.heap[Bb]? = some (.cells #[.int .i64 8] 3 (0, 0))) :
    Calls Try.prog 56 #[.func (.func 78) #[] #[.pointer (some ⟨Ba, 0, none⟩), .pointer (some ⟨Bb, 0, none⟩)]] w fun e W' => ∃ v, e = .returned v ∧ Kd.R k29 29 W' w.heap.size (fun _ => True) v (splitUpto N (splitLen N)) ∧ Below w.heap.size w W' := by
  have H := Lib.hid (callsIn_wide.1 (appendSeq_in 5 (Nat.le_refl _) Ba Bb N hN hN2 w hBa hBb))
  clear hBa hBb
  go_enter Try.func56, Try.ntmps56
  go_wp2_with fail
  refine H.out.mono ?_
  rintro e w1 ⟨v, rfl, hR, hb⟩
  obtain ⟨A, c, rfl⟩ := Kd.R_slice hR
  have HR := Lib.hid hR
  have HB := Lib.hid hb
  clear hR hb
  go_wp2
  go_ret
  exact ⟨_, rfl, HR.out, HB.out⟩
/-- series.Split of the terms from 0 on, eight a piece. -/
def series_Split.f (a0_0 : Int) (a0_1 : Int) (a1 : Int) : Option ((List (S29))) := if a0_0 = 0 ∧ a1 = 8 ∧ 1 ≤ a0_1 ∧ a0_1 ≤ 1000 then some (splitUpto a0_1 (splitLen a0_1)) else none
set_option maxHeartbeats 2000000 in
theorem split_calls (N : Int) (hN : 1 ≤ N) (hN2 : N ≤ 1000) (w : World) :
    Calls Try.prog 37 #[.agg #[.int .i64 0, .int .i64 N], .int .i64 8] w fun e w' => ∃ v : Value, e = .returned v ∧ Kd.R k29 29 w' w.heap.size (fun _ => True) v (splitUpto N (splitLen N)) ∧ Below w.heap.size w w' := by
  have hq0 : (N - 1) / 8 < 10000 := by omega
  have hq : (N - 1).tdiv 8 < 10000 := by rw [Int.tdiv_eq_ediv_of_nonneg (by omega)]; omega
  go_enter Try.func37, Try.ntmps37
  go_wp2_with fail
  refine (pieces_calls 0 N 8 _).mono ?_
  rintro e w1 ⟨rfl, rfl⟩
  go_wp2_with fail
  obtain ⟨Wa, hWa⟩ : ∃ Wa, w.alloc (.cells #[.int .i64 0, .int .i64 N] 29) = Wa := ⟨_, rfl⟩
  have hsa : Wa.heap.size = w.heap.size + 1 := by rw [← hWa]; simp
  have hba : Below w.heap.size w Wa := by rw [← hWa]; exact below_alloc (Below.refl _ _) _
  rw [hWa]
  clear hWa
  have bA0 := heap_alloc_new Wa (.cells #[.int .i64 0, .int .i64 N] 29)
  obtain ⟨Wb, hWb⟩ : ∃ Wb, Wa.alloc (.cells #[.int .i64 0, .int .i64 N] 29) = Wb := ⟨_, rfl⟩
  have hsb : Wb.heap.size = w.heap.size + 2 := by rw [← hWb]; simp [hsa]
  have hbb : Below w.heap.size w Wb := by rw [← hWb]; exact hba.alloc (by omega) _
  rw [hWb] at bA0 ⊢
  clear hWb
  rw [hsa] at bA0
  have bB0 := heap_alloc_new Wb (.cells #[.int .i64 8] 3)
  have bA : (Wb.alloc (.cells #[.int .i64 8] 3)).heap[w.heap.size + 1]? = some (.cells #[.int .i64 0, .int .i64 N] 29 (0, 0)) := by rw [heap_alloc_old _ _ (by omega)]; exact bA0
  obtain ⟨Wc, hWc⟩ : ∃ Wc, Wb.alloc (.cells #[.int .i64 8] 3) = Wc := ⟨_, rfl⟩
  have hsc : Wc.heap.size = w.heap.size + 3 := by rw [← hWc]; simp [hsb]
  have hbc : Below w.heap.size w Wc := by rw [← hWc]; exact hbb.alloc (by omega) _
  rw [hWc] at bA bB0 ⊢
  clear hWc bA0
  rw [hsb] at bB0
  refine (collect_calls (w.heap.size + 1) (w.heap.size + 2) N hN hN2 Wc bA bB0).mono ?_
  rintro e w4 ⟨v, rfl, hR, hb4⟩
  obtain ⟨A, c, rfl⟩ := Kd.R_slice hR
  have HR := Lib.hid hR
  have HB := Lib.hid (below_then hbc hbc.size hb4)
  clear hR hb4 bA bB0
  go_wp2
  go_ret
  exact ⟨_, rfl, Kd.R_lower HR.out (by omega), HB.out⟩
theorem series_Split.calls (a0_0 : Int) (a0_1 : Int) (a1 : Int) (r : List (S29)) (w : World) (h : series_Split.f a0_0 a0_1 a1 = some r) :
    Calls Try.prog 37 #[.agg #[.int .i64 a0_0, .int .i64 a0_1], .int .i64 a1] w fun e w' => ∃ v0_ : Value, e = .returned (v0_) ∧ Kd.V k29 29 w' w.heap.size (fun k_ => (w.heap.size ≤ k_)) v0_ r ∧ Below w.heap.size w w' := by
  unfold series_Split.f at h
  split at h
  · rename_i hh
    obtain ⟨rfl, rfl, hN, hN2⟩ := hh
    simp only [Option.some.injEq] at h
    subst h
    refine (split_calls a0_1 hN hN2 w).mono ?_
    rintro e w' ⟨v, rfl, hR, hb⟩
    refine ⟨v, rfl, ?_, hb⟩
    obtain ⟨A, c, rfl, hc, _⟩ := Kd.R_reads hR
    exact ⟨A, c, rfl, hc, Kd.F_mono (Kd.R_F (Kd.R_bound hR)) (fun k hk => hk.2.1)⟩
  · cases h
end Go.Proofs.Ytbpobnlkfpjijaa.Pr
