import Derived.Test.YtbpobnlkfpjijaaPr0
import Derived.RangeFuncNested
import Derived.RangeFuncBound
import Derived.RangeFuncCalls
import Derived.RangeFuncLeaves
import Derived.RangeFuncBox
import Derived.Shelf.Abstract
import Derived.Shelf.RegionOpen
import Derived.WalkKit
import Derived.OwnWalkIn
import Derived.TacticsInMore
import Derived.LoopNIn
import Derived.LoopIn
import Derived.Laws.Cover1
import Derived.Lib.Hide
/-! nat.Cmp. -/
namespace Go.Proofs.Ytbpobnlkfpjijaa.Pr
open Go.RowKit Go.Shelf Go.Proofs.YtbpobnlkfpjijaaW.PrintWords Go.Proofs.YtbpobnlkfpjijaaW.PrintLast Go.Proofs.YtbpobnlkfpjijaaW.PrintMore
set_option linter.unusedVariables false
set_option linter.unusedSimpArgs false
theorem max2_nat (k k' : IntKind) (x y : Nat) : Builtin.max2 (.int k (x : Int)) (.int k' (y : Int)) = pure (.int k ((max x y : Nat) : Int)) := by
  rw [max2_int]
  congr 2
  split <;> omega
attribute [local go_sem] Oper.semAt_some max2_nat max_two
theorem rd_over (l : List Int) (k : Nat) (h : l.length ≤ k) : rd l (k : Int) = 0 := by
  simp [rd, List.getD_eq_getElem?_getD, List.getElem?_eq_none h]
set_option maxHeartbeats 1000000 in
theorem at98_calls (A : Option Addr) (c : Nat) (l : List Int) (k : Nat) (w : World) (hC : Kd.C (Kd.int .u64) w A l.length l) : Calls Try.prog 98 #[.slice A l.length c, .int .i64 k] w fun e w' => e = .returned (.int .u64 (rd l k)) ∧ w' = w := by
  by_cases hlt : k < l.length
  · obtain ⟨ad, rfl, hx⟩ := Kd.at_int hC (k : Int) (by omega) (by omega)
    rw [Int.toNat_natCast] at hx
    obtain ⟨x, hx2⟩ : ∃ x, rd l (k : Int) = x := ⟨_, rfl⟩
    rw [hx2] at hx ⊢
    go_enter Try.func98, Try.ntmps98
    go_wp2
    go_ret
    exact ⟨rfl, rfl⟩
  · have h0 := rd_over l k (by omega)
    rw [h0]
    go_enter Try.func98, Try.ntmps98
    go_wp2
    go_ret
    exact ⟨rfl, rfl⟩
set_option maxHeartbeats 1000000 in
theorem pairs_calls (A : Option Addr) (n c : Nat) (A' : Option Addr) (n' c' : Nat) (w : World) : Calls Try.prog 73 #[.slice A n c, .slice A' n' c'] w fun e w' => e = .returned (.func (.func 97) #[] #[.pointer (some ⟨w.heap.size, 0, none⟩), .pointer (some ⟨w.heap.size + 1, 0, none⟩)]) ∧ w' = (w.alloc (.cells #[.slice A n c] 39)).alloc (.cells #[.slice A' n' c'] 39) := by
  go_enter Try.func73, Try.ntmps73
  go_wp2
  go_ret
  exact ⟨rfl, rfl⟩
/-- What a round that goes on keeps: what lay below n, and two blocks more. -/
def KeepsB2 (n A B : Nat) (W W' : World) : Prop := Below n W W' ∧ W'.heap[A]? = W.heap[A]? ∧ W'.heap[B]? = W.heap[B]?
/-- The first k pairs of words. -/
def pairsUpto (l m : List Int) (k : Nat) : List (Int × Int) := (List.range k).map fun (j : Nat) => (rd l (j : Int), rd m (j : Int))
theorem pairsUpto_succ (l m : List Int) (k : Nat) : pairsUpto l m (k + 1) = pairsUpto l m k ++ [(rd l (k : Int), rd m (k : Int))] := by simp [pairsUpto, List.range_succ]
theorem pairsUpto_length (l m : List Int) (k : Nat) : (pairsUpto l m k).length = k := by simp [pairsUpto]
set_option maxRecDepth 100000 in
set_option maxHeartbeats 2000000 in
/-- nat.pairs' closure. -/
theorem pairs1_in (n : Nat) (hn : 2 ≤ n) (B l Ba Bb n₀ : Nat) (A A' : Option Addr) (c c' : Nat) (xs ys : List Int) (hl : xs.length ≤ 17592186044416) (hl' : ys.length ≤ 17592186044416) (w0 : World) (hn₀ : n₀ = w0.heap.size) (hC : Kd.C (Kd.int .u64) w0 A xs.length xs) (hC' : Kd.C (Kd.int .u64) w0 A' ys.length ys) (J Jx : List (Int × Int) → World → Prop) (hJ : AbidesFrom B J)
    (hY : ∀ pre x W, J pre W → pre.length < max xs.length ys.length → YieldAt Fence.wide (n - 1) Try.prog l #[.int .u64 x.1, .int .u64 x.2] W fun e W' =>
      (e = .returned (.bool true) ∧ J (pre ++ [x]) W' ∧ KeepsB2 n₀ Ba Bb W W') ∨ (e = .returned (.bool false) ∧ Jx (pre ++ [x]) W'))
    (W : World) (hW : Below n₀ w0 W) (hBa : W.heap[Ba]? = some (.cells #[.slice A xs.length c] 39 (0, 0))) (hBb : W.heap[Bb]? = some (.cells #[.slice A' ys.length c'] 39 (0, 0))) (h0 : J [] W) :
    CallsIn Fence.wide n Try.prog 97 #[.func (.yield l) #[] #[], .pointer (some ⟨Ba, 0, none⟩), .pointer (some ⟨Bb, 0, none⟩)] W fun e W' => (∃ v, e = .returned v) ∧
      ((∃ zs, zs = pairsUpto xs ys (max xs.length ys.length) ∧ J zs W') ∨ (∃ pre, True ∧ Jx pre W')) := by
  refine callsIn_of_wp Try.func97 rfl trivial ?_ rfl
  simp only [Try.ntmps97, List.size_toArray, List.length_cons, List.length_nil, Nat.reduceAdd, Nat.reduceSub, Array.replicate_succ, Array.replicate_zero, List.push_toArray, List.append_toArray, List.nil_append, List.cons_append]
  have ha0 : W.cell? ⟨Ba, 0, none⟩ = some (.slice A xs.length c) := by simp [World.cell?, hBa]
  have hb0 : W.cell? ⟨Bb, 0, none⟩ = some (.slice A' ys.length c') := by simp [World.cell?, hBb]
  have HC := Lib.hid hC
  have HC' := Lib.hid hC'
  have HBa := Lib.hid hBa
  have HBb := Lib.hid hBb
  clear hC hC' hBa hBb
  gi_wp2
  obtain ⟨m, hm⟩ : ∃ m, max xs.length ys.length = m := ⟨_, rfl⟩
  simp only [hm]
  have hm1 : xs.length ≤ m := by omega
  have hm2 : ys.length ≤ m := by omega
  have hm3 : m ≤ 17592186044416 := by omega
  rw [hm] at hY
  have HM := Lib.hid hm
  clear hm
  gi_loopw [10] (fun i wr => ∃ k : Nat, k ≤ m ∧ i = .int .i64 k ∧ J (pairsUpto xs ys k) wr ∧ KeepsB2 n₀ Ba Bb W wr)
    (fun i _ => m - (intOf i).toNat)
  case atStart => exact ⟨0, Nat.zero_le _, rfl, h0, Below.refl _ _, rfl, rfl⟩
  case round =>
    obtain ⟨k, hk, rfl, hJs, hnx, hba, hbb⟩ := hrel
    have hca : wr.cell? ⟨Ba, 0, none⟩ = some (.slice A xs.length c) := by simp [World.cell?, hba, HBa.out]
    have hcb : wr.cell? ⟨Bb, 0, none⟩ = some (.slice A' ys.length c') := by simp [World.cell?, hbb, HBb.out]
    have HBA := Lib.hid hba
    have HBB := Lib.hid hbb
    clear hba hbb
    by_cases hlt : k < m
    · have hWr : Below n₀ w0 wr.drew := hW.trans (hnx.trans ⟨rfl, rfl, rfl, Nat.le_refl _, fun _ _ => rfl⟩)
      have HX := Lib.hid (Kd.C_below HC.out (hn₀ ▸ hWr))
      have HX' := Lib.hid (Kd.C_below HC'.out (hn₀ ▸ hWr))
      obtain ⟨fn, tmps, assign, body, hy, hR⟩ := hY _ (rd xs (k : Int), rd ys (k : Int)) wr.drew (hJ _ _ _ none hJs ⟨rfl, rfl, rfl, Nat.le_refl _, fun _ _ _ => rfl⟩ (by simp)) (by rw [pairsUpto_length]; exact hlt)
      dsimp only at hy
      have HR := Lib.hid (hR.mono (R' := fun e W' => ∃ b, e = .returned (.bool b) ∧ Hid ((b = true ∧ J (pairsUpto xs ys (k + 1)) W' ∧ KeepsB2 n₀ Ba Bb wr W') ∨ (b = false ∧ Jx (pairsUpto xs ys (k + 1)) W'))) (by
        rintro e W' (⟨rfl, h1, h2⟩ | ⟨rfl, h1⟩)
        · exact ⟨true, rfl, .inl ⟨rfl, by rw [pairsUpto_succ]; exact h1, ⟨h2.1.os, h2.1.tape, h2.1.output, h2.1.size, h2.1.block⟩, h2.2⟩⟩
        · exact ⟨false, rfl, .inr ⟨rfl, by rw [pairsUpto_succ]; exact h1⟩⟩))
      have HN := Lib.hid hnx
      clear hnx hWr hJs hR
      gi_wp2_with fail
      gi_region_with (first
        | (refine ⟨trivial, fun _ => by omega, (callsIn_wide.2 (at98_calls A c xs k _ HX.out)).mono ?_⟩; clear HX; rintro e w' ⟨rfl, rfl⟩)
        | (refine ⟨trivial, fun _ => by omega, (callsIn_wide.2 (at98_calls A' c' ys k _ HX'.out)).mono ?_⟩; clear HX'; rintro e w' ⟨rfl, rfl⟩)
        | (refine ⟨fun _ => by omega, HR.out.mono ?_⟩; rintro e w3 ⟨bb, rfl, hbb⟩))
      all_goals
        rcases hbb with ⟨rfl, hJ3, hk3⟩ | ⟨rfl, hJx3⟩
        · have HJ := Lib.hid hJ3
          have HK := Lib.hid hk3
          clear hJ3 hk3
          gi_wp2
          go_roundw
          case rel => exact ⟨k + 1, by omega, by simp, HJ.out, HN.out.trans HK.out.1, HK.out.2.1.trans HBA.out, HK.out.2.2.trans HBB.out⟩
          case measure => simp [intOf]; omega
        · gi_wp2
          refine bodyPost_ret (results_none rfl _ _ _) rfl ?_
          exact ⟨⟨_, rfl⟩, .inr ⟨_, trivial, hJx3⟩⟩
    · obtain rfl : k = m := by omega
      gi_wp2
      go_end0
      exact ⟨⟨_, rfl⟩, .inl ⟨_, by rw [HM.out], hJs⟩⟩
theorem keepsB2_t {n A B : Nat} {X Y Z : World} (h : KeepsB2 n A B X Y) (k : KeepsB2 n A B Y Z) : KeepsB2 n A B X Z := ⟨h.1.trans k.1, k.2.1.trans h.2.1, k.2.2.trans h.2.2⟩
theorem keepsB2_b {n A B : Nat} {w : World} (hn : n ≤ w.heap.size) (hA : A < w.heap.size) (hB : B < w.heap.size) (W : World) (l : Nat) (o o' : Obj) (hl : w.heap.size ≤ l) (h : W.heap[l]? = some o) (h1 : o.isCells = false) (h2 : o.isWalk = false) : KeepsB2 n A B W (W.putObj l o') :=
  have hlt := (Array.getElem?_eq_some_iff.1 h).1
  ⟨belowK_b hn W l o o' hl h h1 h2, (grownBy_putObj' W l o').block A (by omega) (fun e => by injection e with e; omega), (grownBy_putObj' W l o').block B (by omega) (fun e => by injection e with e; omega)⟩
theorem pairs_stops (n : Nat) (hn : 2 ≤ n) (Ba Bb n₀ : Nat) (A A' : Option Addr) (c c' : Nat) (xs ys : List Int) (hl : xs.length ≤ 17592186044416) (hl' : ys.length ≤ 17592186044416) (w0 : World) (hn₀ : n₀ = w0.heap.size) (hC : Kd.C (Kd.int .u64) w0 A xs.length xs) (hC' : Kd.C (Kd.int .u64) w0 A' ys.length ys) (w : World) (hw : Below n₀ w0 w)
    (hBa : w.heap[Ba]? = some (.cells #[.slice A xs.length c] 39 (0, 0))) (hBb : w.heap[Bb]? = some (.cells #[.slice A' ys.length c'] 39 (0, 0))) :
    SeqStopsK Fence.wide n Try.prog 97 #[.pointer (some ⟨Ba, 0, none⟩), .pointer (some ⟨Bb, 0, none⟩)] (fun x : Int × Int => #[Value.int .u64 x.1, Value.int .u64 x.2]) (KeepsB2 n₀ Ba Bb) (fun zs => zs = pairsUpto xs ys (max xs.length ys.length)) (fun _ => True) (max xs.length ys.length) w := fun l J Jx W hW hJ _ hY h0 => by
  have h1 := (hW.block Ba (Array.getElem?_eq_some_iff.1 hBa).1).trans hBa
  have h2 := (hW.block Bb (Array.getElem?_eq_some_iff.1 hBb).1).trans hBb
  exact pairs1_in n hn W.heap.size l Ba Bb n₀ A A' c c' xs ys hl hl' w0 hn₀ hC hC' J Jx hJ hY W (hw.trans (hW.mono (by rw [hn₀]; exact hw.size))) h1 h2 h0
/-- What the pairs come to: the last one that differs decides. -/
def cmpOf (zs : List (Int × Int)) : Int := zs.foldl (fun o p => if p.1 < p.2 then -1 else if p.2 < p.1 then 1 else o) 0
theorem cmpOf_snoc (zs : List (Int × Int)) (p : Int × Int) : cmpOf (zs ++ [p]) = if p.1 < p.2 then -1 else if p.2 < p.1 then 1 else cmpOf zs := by simp [cmpOf]
set_option maxRecDepth 100000 in
set_option maxHeartbeats 4000000 in
theorem cmp_in (n : Nat) (hn : 5 ≤ n) (A A' : Option Addr) (c c' : Nat) (xs ys : List Int) (hl : xs.length ≤ 17592186044416) (hl' : ys.length ≤ 17592186044416) (w : World) (hC : Kd.C (Kd.int .u64) w A xs.length xs) (hC' : Kd.C (Kd.int .u64) w A' ys.length ys) :
    CallsIn Fence.wide n Try.prog 54 #[.slice A xs.length c, .slice A' ys.length c'] w fun e W' => e = .returned (.int .i64 (cmpOf (pairsUpto xs ys (max xs.length ys.length)))) ∧ Below w.heap.size w W' := by
  have h1 : 1 ≤ n := by omega
  refine callsIn_of_wp_marks Try.func54 rfl trivial ?_ rfl
  simp only [Try.ntmps54, List.size_toArray, List.length_cons, List.length_nil, Nat.reduceAdd, Nat.reduceSub, Array.replicate_succ, Array.replicate_zero, List.push_toArray, List.append_toArray, List.nil_append, List.cons_append]
  have HC := Lib.hid hC
  have HC' := Lib.hid hC'
  clear hC hC'
  gi_wp2_with fail
  refine ⟨trivial, (callsIn_wide.2 (pairs_calls _ _ _ _ _ _ _)).mono ?_⟩
  rintro e w' ⟨rfl, rfl⟩
  gi_wp2_with fail
  have bO0 := Boxed.new w 3 (.int .i64 0)
  obtain ⟨Wa, hWa⟩ : ∃ Wa, w.alloc (.cells #[.int .i64 0] 3) = Wa := ⟨_, rfl⟩
  have hsa : Wa.heap.size = w.heap.size + 1 := by rw [← hWa]; simp
  have hba : Below w.heap.size w Wa := by rw [← hWa]; exact below_alloc (Below.refl _ _) _
  rw [hWa] at bO0 ⊢
  clear hWa
  have bA0 := Boxed.new Wa 39 (.slice A xs.length c)
  rw [hsa] at bA0
  obtain ⟨Wb, hWb⟩ : ∃ Wb, Wa.alloc (.cells #[.slice A xs.length c] 39) = Wb := ⟨_, rfl⟩
  have hsb : Wb.heap.size = w.heap.size + 2 := by rw [← hWb]; simp [hsa]
  have hbb : Below w.heap.size w Wb := by rw [← hWb]; exact hba.alloc (by omega) _
  have bO1 : Boxed Wb w.heap.size 3 (.int .i64 0) := by rw [← hWb]; exact bO0.alloc _
  rw [hWb] at bA0 ⊢
  clear hWb bO0
  have bB0 := Boxed.new Wb 39 (.slice A' ys.length c')
  rw [hsb] at bB0
  obtain ⟨W0, hW0⟩ : ∃ W0, Wb.alloc (.cells #[.slice A' ys.length c'] 39) = W0 := ⟨_, rfl⟩
  have hs0 : W0.heap.size = w.heap.size + 3 := by rw [← hW0]; simp [hsb]
  have hb0 : Below w.heap.size w W0 := by rw [← hW0]; exact hbb.alloc (by omega) _
  have bO : Boxed W0 w.heap.size 3 (.int .i64 0) := by rw [← hW0]; exact bO1.alloc _
  have bA : Boxed W0 (w.heap.size + 1) 39 (.slice A xs.length c) := by rw [← hW0]; exact bA0.alloc _
  rw [hW0] at bB0 ⊢
  rw [show w.heap.size + 1 + 1 = w.heap.size + 2 from rfl]
  clear hW0 bA0 bO1
  refine wpIn_rangeFunc_ownG rfl h1 (gf := 97) (lb := #[.pointer (some ⟨w.heap.size + 1, 0, none⟩), .pointer (some ⟨w.heap.size + 2, 0, none⟩)]) rfl trivial (enters_of Try.func97 (by kernel_rfl) rfl)
    (pairs_stops (n - 1) (by omega) (w.heap.size + 1) (w.heap.size + 2) w.heap.size A A' c c' xs ys hl hl' w rfl HC.out HC'.out W0 hb0 bA bB0) keepsB2_t (keepsB2_b (by omega) (by omega) (by omega)) (Below.refl _ _) (fun _ => rfl)
    (fun pre W => Boxed W w.heap.size 3 (.int .i64 (cmpOf pre)) ∧ (Below w.heap.size w W ∧ w.heap.size + 3 ≤ W.heap.size))
    (fun _ _ _ => False)
    (OwnFrom.and (Own.from (boxed_own w.heap.size 3 (fun pre => .int .i64 (cmpOf pre))) _) (OwnFrom.and (ownFrom_below (Nat.le_refl _) (by omega)) (fun _ _ _ _ hs hg _ => Nat.le_trans hs hg.size)))
    (fun _ _ _ _ _ hs _ _ => hs)
    ⟨bO, hb0, by omega⟩
    (fun x => { tmps := #[.slice A xs.length c, .slice A' ys.length c', undef, undef, .int .i64 0, .pointer (some ⟨w.heap.size, 0, none⟩), .int .u64 x.1, .int .u64 x.2, .slice A xs.length c, .slice A' ys.length c', .func (.func 97) #[] #[.pointer (some ⟨w.heap.size + 1, 0, none⟩), .pointer (some ⟨w.heap.size + 2, 0, none⟩)], .int .u64 x.1, .int .u64 x.2, undef, undef, undef, undef, undef, undef, undef, undef, undef], defers := [] }) ?assign ?body ?done ?stop
  case assign =>
    intro l x W K hK
    gi_wp2
    exact hK
  case body =>
    rintro l pre x W ⟨hv, hB, hsz⟩ hlen
    have hc0 := hv.cell
    have hf0 := hv.frozen
    have hfin : ∀ v, Boxed (W.setCell ⟨w.heap.size, 0, none⟩ v) w.heap.size 3 v ∧ KeepsFrom W0.heap.size W (W.setCell ⟨w.heap.size, 0, none⟩ v) ∧ KeepsB2 w.heap.size (w.heap.size + 1) (w.heap.size + 2) W (W.setCell ⟨w.heap.size, 0, none⟩ v) ∧ Below w.heap.size w (W.setCell ⟨w.heap.size, 0, none⟩ v) ∧ w.heap.size + 3 ≤ (W.setCell ⟨w.heap.size, 0, none⟩ v).heap.size := fun v =>
      ⟨hv.set v, (KeepsOthers.setCell _ _ _).from _, ⟨(Below.refl w.heap.size W).setCell (p := ⟨w.heap.size, 0, none⟩) (Nat.le_refl _) _, Below.heap_setCell _ _ _ _ (by show w.heap.size + 1 ≠ w.heap.size; omega), Below.heap_setCell _ _ _ _ (by show w.heap.size + 2 ≠ w.heap.size; omega)⟩, hB.setCell (p := ⟨w.heap.size, 0, none⟩) (Nat.le_refl _) _, by simpa using hsz⟩
    have HF := Lib.hid hfin
    have HV := Lib.hid hv
    have HB := Lib.hid hB
    clear hfin hv hB
    rcases Int.lt_trichotomy x.1 x.2 with hx | hx | hx
    · have e : cmpOf (pre ++ [x]) = -1 := by rw [cmpOf_snoc, if_pos hx]
      gi_wp2
      obtain ⟨g1, g2, g3, g4, g5⟩ := HF.out (.int .i64 (-1))
      exact ⟨g2, g3, by rw [e]; exact g1, g4, g5⟩
    · have e : cmpOf (pre ++ [x]) = cmpOf pre := by rw [cmpOf_snoc, if_neg (by omega), if_neg (by omega)]
      gi_wp2
      exact ⟨KeepsFrom.refl _ _, ⟨Below.refl _ _, rfl, rfl⟩, by rw [e]; exact HV.out, HB.out, hsz⟩
    · have e : cmpOf (pre ++ [x]) = 1 := by rw [cmpOf_snoc, if_neg (by omega), if_pos hx]
      gi_wp2
      obtain ⟨g1, g2, g3, g4, g5⟩ := HF.out (.int .i64 1)
      exact ⟨g2, g3, by rw [e]; exact g1, g4, g5⟩
  case done =>
    rintro D zs W hD rfl ⟨hv, hB, hsz⟩ hK
    have hc0 := hv.cell
    have hBel : Below w.heap.size w (W.putObj D (.deferred none)) := hB.trans (belowK_b (w := w) (Nat.le_refl _) W D _ _ (by omega) hK rfl rfl)
    gi_wp2
    refine ⟨by simp, .inl ⟨_, _, rfl, run_takeDeferred hK, ?_⟩⟩
    exact ⟨_, results_tmp rfl _ _ _, rfl, hBel⟩
  case stop =>
    rintro D c pre W _ _ h _
    exact h.elim
/-- nat.Cmp. -/
def nat_Cmp.f (l0 : List Int) (l1 : List Int) : Option (Int) := if l0.length ≤ 17592186044416 ∧ l1.length ≤ 17592186044416 then some (cmpOf (pairsUpto l0 l1 (max l0.length l1.length))) else none
theorem nat_Cmp.calls (A0 : Option Addr) (c0 : Nat) (l0 : List Int) (A1 : Option Addr) (c1 : Nat) (l1 : List Int) (r : Int) (w : World) (hr0 : Kd.C (Kd.int .u64) w A0 l0.length l0) (hc0 : l0.length ≤ c0) (hr1 : Kd.C (Kd.int .u64) w A1 l1.length l1) (hc1 : l1.length ≤ c1) (h : nat_Cmp.f l0 l1 = some r) :
    Calls Try.prog 54 #[.slice A0 l0.length c0, .slice A1 l1.length c1] w fun e w' => e = .returned (.int .i64 r) ∧ Below w.heap.size w w' := by
  unfold nat_Cmp.f at h
  split at h
  · rename_i hh
    obtain ⟨hl, hl'⟩ := hh
    simp only [Option.some.injEq] at h
    subst h
    exact callsIn_wide.1 (cmp_in 5 (Nat.le_refl _) A0 A1 c0 c1 l0 l1 hl hl' w hr0 hr1)
  · cases h
end Go.Proofs.Ytbpobnlkfpjijaa.Pr
