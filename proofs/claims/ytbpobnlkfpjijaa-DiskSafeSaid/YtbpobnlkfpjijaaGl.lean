import Derived.Test.YtbpobnlkfpjijaaPr0
import Derived.RangeFuncNested
import Derived.RangeFuncBound
import Derived.RangeFuncCalls
import Derived.RangeFuncLeaves
import Derived.RangeFuncBox
import Derived.Maps.AppendAt
import Derived.Shelf.Abstract
import Derived.Shelf.RegionOpen
import Derived.WalkKit
import Derived.OwnWalkIn
import Derived.TacticsInMore
import Derived.LoopNIn
import Derived.LoopIn
import Derived.Laws.Cover1
import Derived.Lib.Hide
/-! disk.List of all names. -/
namespace Go.Proofs.Ytbpobnlkfpjijaa.Pr
open Go.RowKit Go.Shelf Go.Proofs.YtbpobnlkfpjijaaW.PrintWords Go.Proofs.YtbpobnlkfpjijaaW.PrintLast Go.Proofs.YtbpobnlkfpjijaaW.PrintMore
set_option linter.unusedVariables false
set_option linter.unusedSimpArgs false
attribute [local go_sem] Oper.semAt_some
set_option maxHeartbeats 1000000 in
theorem prefix89_calls (s : ByteArray) (w : World) : Calls Try.prog 89 #[.string s, .string ⟨#[]⟩] w fun e w' => e = .returned (.bool true) ∧ w' = w := by
  have h0 : (⟨#[]⟩ : ByteArray).size = 0 := rfl
  have h1 : (0 : Int) ≤ (s.size : Int) := by omega
  go_enter Try.func89, Try.ntmps89
  go_wp2
  go_ret
  exact ⟨by simp [ByteArray.toList_eq], rfl⟩
set_option maxHeartbeats 1000000 in
theorem prefix_calls (s : ByteArray) (w : World) : Calls Try.prog 69 #[.string s, .string ⟨#[]⟩] w fun e w' => e = .returned (.bool true) ∧ w' = w := by
  go_enter Try.func69, Try.ntmps69
  go_wp2_with (go_at_call 89; refine (prefix89_calls _ _).mono ?_; rintro e w' ⟨rfl, rfl⟩)
  go_ret
  exact ⟨rfl, rfl⟩
set_option maxHeartbeats 1000000 in
theorem names_calls (a : Int) (A : Option Addr) (n c : Nat) (b : ByteArray) (w : World) : Calls Try.prog 51 #[.agg #[.int .i64 a, .slice A n c], .string b] w fun e w' => e = .returned (.func (.func 68) #[] #[.pointer (some ⟨w.heap.size, 0, none⟩), .pointer (some ⟨w.heap.size + 1, 0, none⟩)]) ∧ w' = (w.alloc (.cells #[.int .i64 a, .slice A n c] 46)).alloc (.cells #[.string b] 9) := by
  go_enter Try.func51, Try.ntmps51
  go_wp2
  go_ret
  exact ⟨rfl, rfl⟩
/-- What a round that goes on keeps: what lay below n, and one block more. -/
def KeepsB (n B : Nat) (W W' : World) : Prop := Below n W W' ∧ W'.heap[B]? = W.heap[B]?
theorem take_map_succ (l0 : List S55) (k : Nat) (h : k < l0.length) : (l0.map (·.f0)).take (k + 1) = (l0.map (·.f0)).take k ++ [(rd_T55 l0 (k : Int)).f0] := by
  rw [List.take_succ_eq_append_getElem (by simpa using h)]
  simp [rd_T55, List.getD_eq_getElem?_getD, List.getElem?_eq_getElem h]
set_option maxRecDepth 100000 in
set_option maxHeartbeats 2000000 in
/-- disk.names' closure, where all names begin so. -/
theorem names1_in (n : Nat) (hn : 2 ≤ n) (l Bd Bb n₀ B : Nat) (a : Int) (A : Option Addr) (c : Nat) (l0 : List S55) (hl : l0.length ≤ 1048576) (w0 : World) (hn₀ : n₀ = w0.heap.size) (hC : Kd.C k55 w0 A l0.length l0) (J Jx : List ByteArray → World → Prop) (hJ : AbidesFrom B J)
    (hY : ∀ pre x W, J pre W → pre.length < l0.length → YieldAt Fence.wide (n - 1) Try.prog l #[.string x] W fun e W' =>
      (e = .returned (.bool true) ∧ J (pre ++ [x]) W' ∧ KeepsB n₀ Bb W W') ∨ (e = .returned (.bool false) ∧ Jx (pre ++ [x]) W'))
    (W : World) (hW : Below n₀ w0 W) (hBd : W.cell? ⟨Bd, 1, none⟩ = some (.slice A l0.length c)) (hBb : W.heap[Bb]? = some (.cells #[.string ⟨#[]⟩] 9 (0, 0))) (h0 : J [] W) :
    CallsIn Fence.wide n Try.prog 68 #[.func (.yield l) #[] #[], .pointer (some ⟨Bd, 0, none⟩), .pointer (some ⟨Bb, 0, none⟩)] W fun e W' => (∃ v, e = .returned v) ∧
      ((∃ ys, ys = l0.map (·.f0) ∧ J ys W') ∨ (∃ pre, True ∧ Jx pre W')) := by
  refine callsIn_of_wp Try.func68 rfl trivial ?_ rfl
  simp only [Try.ntmps68, List.size_toArray, List.length_cons, List.length_nil, Nat.reduceAdd, Nat.reduceSub, Array.replicate_succ, Array.replicate_zero, List.push_toArray, List.append_toArray, List.nil_append, List.cons_append]
  have HC := Lib.hid hC
  have HBb := Lib.hid hBb
  clear hC hBb
  gi_wp2
  gi_loopw [9] (fun i wr => ∃ k : Nat, k ≤ l0.length ∧ i = .int .i64 k ∧ J ((l0.map (·.f0)).take k) wr ∧ Below n₀ W wr ∧ wr.heap[Bb]? = W.heap[Bb]?)
    (fun i _ => l0.length - (intOf i).toNat)
  case atStart => exact ⟨0, Nat.zero_le _, rfl, h0, Below.refl _ _, rfl⟩
  case round =>
    obtain ⟨k, hk, rfl, hJs, hnx, hbb⟩ := hrel
    have hcb : wr.cell? ⟨Bb, 0, none⟩ = some (.string ⟨#[]⟩) := by simp [World.cell?, hbb, HBb.out]
    have HBB := Lib.hid hbb
    clear hbb
    by_cases hlt : k < l0.length
    · obtain ⟨ad, rfl, hx0, hx1, hx2⟩ := at_T55 HC.out (k : Int) (by omega) (by omega)
      rw [Int.toNat_natCast] at hx0 hx1 hx2
      have hbl : ∀ (p : Addr) (v : Value), w0.cell? p = some v → wr.cell? p = some v := fun p v h => by
        have hlt0 : p.block < n₀ := by rw [hn₀]; exact World.block_lt_of_cell? w0 _ h
        exact (hnx.cell hlt0).trans ((hW.cell hlt0).trans h)
      replace hx0 := hbl _ _ hx0
      replace hx1 := hbl _ _ hx1
      replace hx2 := hbl _ _ hx2
      clear hbl
      obtain ⟨x, hx⟩ : ∃ x, rd_T55 l0 (k : Int) = x := ⟨_, rfl⟩
      rw [hx] at hx0 hx1 hx2
      have hJ2 : J ((l0.map (·.f0)).take k) (wr.alloc (.cells #[.string x.f0, .string x.f1, .string x.f2] 55)) := hJ _ _ _ none hJs (World.grownBy_alloc wr _ none) (by simp)
      obtain ⟨fn, tmps, assign, body, hy, hR⟩ := hY _ x.f0 (wr.alloc (.cells #[.string x.f0, .string x.f1, .string x.f2] 55)) hJ2 (by rw [List.length_take, List.length_map]; omega)
      have HX := Lib.hid hx
      have HN := Lib.hid hnx
      have hcb2 : (wr.alloc (.cells #[.string x.f0, .string x.f1, .string x.f2] 55)).cell? ⟨Bb, 0, none⟩ = some (.string ⟨#[]⟩) := by rw [World.cell?_alloc_lt _ _ _ (World.block_lt_of_cell? wr _ hcb)]; exact hcb
      clear hx hnx hJ2 hJs
      gi_wp2_with fail
      refine ⟨trivial, fun _ => by omega, (callsIn_wide.2 (prefix_calls x.f0 _)).mono ?_⟩
      rintro e w' ⟨rfl, rfl⟩
      gi_wp2
      refine ⟨fun _ => by omega, hR.mono ?_⟩
      have hlb : Bb < wr.heap.size := World.block_lt_of_cell? wr _ hcb
      have hsz : n₀ ≤ wr.heap.size := by rw [hn₀]; exact Nat.le_trans hW.size HN.out.size
      rintro e W3 (⟨rfl, hJ3, hk3⟩ | ⟨rfl, hJx3⟩)
      · have hrel : k + 1 ≤ l0.length ∧ J ((l0.map (·.f0)).take (k + 1)) W3 ∧ Below n₀ W W3 ∧ W3.heap[Bb]? = W.heap[Bb]? :=
          ⟨by omega, by rw [take_map_succ l0 k hlt, HX.out]; exact hJ3, (HN.out.alloc hsz _).trans hk3.1, by rw [hk3.2, heap_alloc_old _ _ hlb]; exact HBB.out⟩
        have HREL := Lib.hid hrel
        clear hrel hJ3 hk3
        gi_wp2
        go_roundw
        case rel => exact ⟨k + 1, HREL.out.1, by simp, HREL.out.2⟩
        case measure => simp [intOf]; omega
      · gi_wp2
        refine bodyPost_ret (results_none rfl _ _ _) rfl ?_
        exact ⟨⟨_, rfl⟩, .inr ⟨_, trivial, hJx3⟩⟩
    · obtain rfl : k = l0.length := by omega
      gi_wp2
      go_end0
      exact ⟨⟨_, rfl⟩, .inl ⟨_, List.take_of_length_le (by simp), hJs⟩⟩
theorem keepsB_t {n B : Nat} {X Y Z : World} (h : KeepsB n B X Y) (k : KeepsB n B Y Z) : KeepsB n B X Z := ⟨h.1.trans k.1, k.2.trans h.2⟩
theorem keepsB_b {n B : Nat} {w : World} (hn : n ≤ w.heap.size) (hB : B < w.heap.size) (W : World) (l : Nat) (o o' : Obj) (hl : w.heap.size ≤ l) (h : W.heap[l]? = some o) (h1 : o.isCells = false) (h2 : o.isWalk = false) : KeepsB n B W (W.putObj l o') :=
  ⟨belowK_b hn W l o o' hl h h1 h2, (grownBy_putObj' W l o').block B (by have := (Array.getElem?_eq_some_iff.1 h).1; omega) (fun e => by injection e with e; omega)⟩
theorem names_stops (n : Nat) (hn : 2 ≤ n) (Bd Bb n₀ : Nat) (a : Int) (A : Option Addr) (c : Nat) (l0 : List S55) (hl : l0.length ≤ 1048576) (w0 : World) (hn₀ : n₀ = w0.heap.size) (hC : Kd.C k55 w0 A l0.length l0) (w : World) (hw : Below n₀ w0 w)
    (hBd : w.heap[Bd]? = some (.cells #[.int .i64 a, .slice A l0.length c] 46 (0, 0))) (hBb : w.heap[Bb]? = some (.cells #[.string ⟨#[]⟩] 9 (0, 0))) :
    SeqStopsK Fence.wide n Try.prog 68 #[.pointer (some ⟨Bd, 0, none⟩), .pointer (some ⟨Bb, 0, none⟩)] (fun x : ByteArray => #[Value.string x]) (KeepsB n₀ Bb) (fun ys => ys = l0.map (·.f0)) (fun _ => True) l0.length w := fun l J Jx W hW hJ _ hY h0 => by
  have h1 : W.heap[Bd]? = some (.cells #[.int .i64 a, .slice A l0.length c] 46 (0, 0)) := (hW.block Bd (Array.getElem?_eq_some_iff.1 hBd).1).trans hBd
  have h2 := (hW.block Bb (Array.getElem?_eq_some_iff.1 hBb).1).trans hBb
  exact names1_in n hn l Bd Bb n₀ W.heap.size a A c l0 hl w0 hn₀ hC J Jx hJ hY W (hw.trans (hW.mono (by rw [hn₀]; exact hw.size))) (by simp [World.cell?, h1]) h2 h0
theorem R_strings {W : World} {base : Nat} {v : Value} {xs : List ByteArray} (h : W.ownsRow base 9 1 v xs.length (xs.map Value.string)) : Kd.R Kd.string 9 W base (fun _ => True) v xs := by
  refine ⟨fun _ _ => trivial, xs.map Value.string, h, ⟨by rw [List.length_map]; exact (Nat.mul_one _).symm, fun j p hj => ?_⟩⟩
  show (((xs.map Value.string).drop (j * 1)).take 1) = [Value.string p]
  have hlt := (List.getElem?_eq_some_iff.1 hj).1
  rw [Nat.mul_one, List.drop_eq_getElem_cons (by simpa using hlt)]
  simp only [List.take_succ_cons, List.take_zero, List.getElem_map]
  rw [List.getElem?_eq_getElem hlt] at hj
  injection hj with hj
  rw [hj]
theorem info9 : (Try.prog.info? 9).map (fun i => (i.zero, i.size, i.bytes)) = some (some (.string ⟨#[]⟩), 1, 16) := by kernel_rfl
set_option maxRecDepth 100000 in
set_option maxHeartbeats 4000000 in
/-- disk.List of all names. -/
theorem list_in (n : Nat) (hn : 5 ≤ n) (a : Int) (A : Option Addr) (c : Nat) (l0 : List S55) (hl : l0.length ≤ 1048576) (w : World) (hC : Kd.C k55 w A l0.length l0) :
    CallsIn Fence.wide n Try.prog 34 #[.agg #[.int .i64 a, .slice A l0.length c], .string ⟨#[]⟩] w fun e W' => ∃ v, e = .returned v ∧ Kd.R Kd.string 9 W' w.heap.size (fun _ => True) v (l0.map (·.f0)) ∧ Below w.heap.size w W' := by
  have h1 : 1 ≤ n := by omega
  refine callsIn_of_wp_marks Try.func34 rfl trivial ?_ rfl
  simp only [Try.ntmps34, List.size_toArray, List.length_cons, List.length_nil, Nat.reduceAdd, Nat.reduceSub, Array.replicate_succ, Array.replicate_zero, List.push_toArray, List.append_toArray, List.nil_append, List.cons_append]
  have HC := Lib.hid hC
  clear hC
  gi_wp2_with fail
  refine ⟨trivial, (callsIn_wide.2 (names_calls _ _ _ _ _ _)).mono ?_⟩
  rintro e w' ⟨rfl, rfl⟩
  gi_wp2_with fail
  obtain ⟨i0, hi, hz0, hz1, hz2⟩ := info_parts info9
  obtain ⟨Wa, hWa⟩ : ∃ Wa, w.alloc (.cells #[.int .i64 a, .slice A l0.length c] 46) = Wa := ⟨_, rfl⟩
  have hsa : Wa.heap.size = w.heap.size + 1 := by rw [← hWa]; simp
  have hba : Below w.heap.size w Wa := by rw [← hWa]; exact below_alloc (Below.refl _ _) _
  rw [hWa]
  clear hWa
  have bO0 := Boxed.new Wa 72 (.slice none 0 0)
  obtain ⟨Wb, hWb⟩ : ∃ Wb, Wa.alloc (.cells #[.slice none 0 0] 72) = Wb := ⟨_, rfl⟩
  have hsb : Wb.heap.size = w.heap.size + 2 := by rw [← hWb]; simp [hsa]
  have hbb : Below w.heap.size w Wb := by rw [← hWb]; exact hba.alloc (by omega) _
  rw [hWb] at bO0 ⊢
  clear hWb
  rw [hsa] at bO0
  have bD0 : (Wb.alloc (.cells #[.int .i64 a, .slice A l0.length c] 46)).heap[w.heap.size + 2]? = some (.cells #[.int .i64 a, .slice A l0.length c] 46 (0, 0)) := by rw [← hsb]; exact heap_alloc_new Wb _
  obtain ⟨Wc, hWc⟩ : ∃ Wc, Wb.alloc (.cells #[.int .i64 a, .slice A l0.length c] 46) = Wc := ⟨_, rfl⟩
  have hsc : Wc.heap.size = w.heap.size + 3 := by rw [← hWc]; simp [hsb]
  have hbc : Below w.heap.size w Wc := by rw [← hWc]; exact hbb.alloc (by omega) _
  have bO1 : Boxed Wc (w.heap.size + 1) 72 (.slice none 0 0) := by rw [← hWc]; exact bO0.alloc _
  rw [hWc] at bD0 ⊢
  clear hWc bO0
  have bB0 := Boxed.new Wc 9 (.string ⟨#[]⟩)
  obtain ⟨W0, hW0⟩ : ∃ W0, Wc.alloc (.cells #[.string ⟨#[]⟩] 9) = W0 := ⟨_, rfl⟩
  have hs0 : W0.heap.size = w.heap.size + 4 := by rw [← hW0]; simp [hsc]
  have hb0 : Below w.heap.size w W0 := by rw [← hW0]; exact hbc.alloc (by omega) _
  have bO : Boxed W0 (w.heap.size + 1) 72 (.slice none 0 0) := by rw [← hW0]; exact bO1.alloc _
  have bD : W0.heap[w.heap.size + 2]? = some (.cells #[.int .i64 a, .slice A l0.length c] 46 (0, 0)) := by rw [← hW0, heap_alloc_old _ _ (by omega)]; exact bD0
  have bB : W0.heap[w.heap.size + 3]? = some (.cells #[.string ⟨#[]⟩] 9 (0, 0)) := by rw [hW0, hsc] at bB0; exact bB0
  rw [hW0, show w.heap.size + 1 + 1 + 1 = w.heap.size + 3 from rfl, show w.heap.size + 1 + 1 = w.heap.size + 2 from rfl]
  clear hW0 bB0 bD0 bO1
  refine wpIn_rangeFunc_ownG rfl h1 (gf := 68) (lb := #[.pointer (some ⟨w.heap.size + 2, 0, none⟩), .pointer (some ⟨w.heap.size + 3, 0, none⟩)]) rfl trivial (enters_of Try.func68 (by kernel_rfl) rfl)
    (names_stops (n - 1) (by omega) (w.heap.size + 2) (w.heap.size + 3) w.heap.size a A c l0 hl w rfl HC.out W0 hb0 bD bB) keepsB_t (keepsB_b (by omega) (by omega)) (Below.refl _ _) (fun _ => rfl)
    (fun pre W => (∃ v, Boxed W (w.heap.size + 1) 72 v ∧ W.ownsRow (w.heap.size + 4) 9 1 v pre.length (pre.map Value.string) ∧ True) ∧ (Below w.heap.size w W ∧ w.heap.size + 4 ≤ W.heap.size))
    (fun _ _ _ => False)
    (OwnFrom.and (Own.from (holdsRow_own (w.heap.size + 4) (w.heap.size + 1) 72 9 1 (fun pre : List ByteArray => pre.length) (fun pre => pre.map Value.string) (fun _ _ => True)) _) (OwnFrom.and (ownFrom_below (Nat.le_refl _) (by omega)) (fun _ _ _ _ hs hg _ => Nat.le_trans hs hg.size)))
    (fun _ _ _ _ _ hs _ _ => hs)
    ⟨⟨_, bO, World.ownsRow_nil _ _ _ _, trivial⟩, hb0, by omega⟩
    (fun x => { tmps := #[.agg #[.int .i64 a, .slice A l0.length c], .string ⟨#[]⟩, .pointer (some ⟨w.heap.size, 0, none⟩), undef, .slice none 0 0, .pointer (some ⟨w.heap.size + 1, 0, none⟩), .string x, .agg #[.int .i64 a, .slice A l0.length c], .string ⟨#[]⟩, .func (.func 68) #[] #[.pointer (some ⟨w.heap.size + 2, 0, none⟩), .pointer (some ⟨w.heap.size + 3, 0, none⟩)], .string x, undef, undef, undef, undef, undef], defers := [] }) ?assign ?body ?done ?stop
  case assign =>
    intro l x W K hK
    gi_wp2
    exact hK
  case body =>
    rintro l pre x W ⟨⟨v, hv, hrow, _⟩, hB, hsz⟩ hlen
    have hc0 := hv.cell
    have hown0 : W.ownsRow w.heap.size 9 1 v pre.length (pre.map Value.string) := own_weaken hrow (by omega)
    have hm1 : pre.length + 1 ≤ maxLen := by unfold maxLen; omega
    have hlen2 : pre.length < 1048576 := by omega
    have hfin : ∀ v' w1, w1.ownsRow (w.heap.size + 4) 9 1 v' (pre.length + 1) (pre.map Value.string ++ [Value.string x]) → (W.alloc (.cells #[.string x] 9)).grownBy w1 v.ownBlock →
        Boxed w1 (w.heap.size + 1) 72 v ∧ KeepsFrom W0.heap.size W (w1.setCell ⟨w.heap.size + 1, 0, none⟩ v') ∧ KeepsB w.heap.size (w.heap.size + 3) W (w1.setCell ⟨w.heap.size + 1, 0, none⟩ v') ∧
        (∃ v2, Boxed (w1.setCell ⟨w.heap.size + 1, 0, none⟩ v') (w.heap.size + 1) 72 v2 ∧ (w1.setCell ⟨w.heap.size + 1, 0, none⟩ v').ownsRow (w.heap.size + 4) 9 1 v2 (pre ++ [x]).length ((pre ++ [x]).map Value.string) ∧ True) ∧ Below w.heap.size w (w1.setCell ⟨w.heap.size + 1, 0, none⟩ v') ∧ w.heap.size + 4 ≤ (w1.setCell ⟨w.heap.size + 1, 0, none⟩ v').heap.size := by
      intro v' w1 hown' hgrow
      have hown1 : w1.ownsRow w.heap.size 9 1 v' (pre.length + 1) (pre.map Value.string ++ [Value.string x]) := own_weaken hown' (by omega)
      obtain ⟨hv1, hv2, _, hk2, hb2⟩ := hv.appended (by decide) hown0 (by omega) (by omega) hown1 hgrow
      have hnb : some (w.heap.size + 3) ≠ v.ownBlock := by
        intro he
        have := own_base hrow (w.heap.size + 3) he.symm
        omega
      have hbk : (w1.setCell ⟨w.heap.size + 1, 0, none⟩ v').heap[w.heap.size + 3]? = W.heap[w.heap.size + 3]? := by
        rw [Below.heap_setCell _ _ _ _ (by show w.heap.size + 3 ≠ w.heap.size + 1; omega), hgrow.block _ (by simp; omega) hnb, heap_alloc_old _ _ (by omega)]
      have hsz2 : (w1.setCell ⟨w.heap.size + 1, 0, none⟩ v').heap.size = w1.heap.size := by simp
      have hsz3 : W.heap.size + 1 ≤ w1.heap.size := by have := hgrow.size; simpa using this
      refine ⟨hv1, hk2.from _, ⟨hb2, hbk⟩, ⟨v', hv2, ?_, trivial⟩, hB.trans hb2, by omega⟩
      rw [List.length_append, List.map_append]
      exact hown'.kept (grownBy_setCell' w1 _ v') (.inr (hv1.not_row (by decide) hown').symm)
    have HF := Lib.hid hfin
    have HRW := Lib.hid hrow
    have HB := Lib.hid hB
    clear hfin hrow hown0 hB
    gi_wp2_with (gi_at_builtin; refine wpListIn_append_own _ rfl _ _ 72 rfl (w.heap.size + 4) 9 i0 (.string ⟨#[]⟩) 1 16 Try.underlying72 hi hz0 hz1 hz2 rfl (by decide) _ _ _ rfl (HRW.out.alloc _) ⟨W.heap.size, 0, none⟩ 1 1 [.string x] rfl rfl (cell_one_new _ _ _) (by simp [Value.oneCell']) (by omega) (by omega) (by simp; omega) ?_; intro v' w1 hown' hgrow _; obtain ⟨g', cap', rfl⟩ := ownsRow_succ hown'; have hc1 := (HF.out _ _ hown' hgrow).1.cell; have hf1 := (HF.out _ _ hown' hgrow).1.frozen)
    exact (HF.out _ _ hown' hgrow).2
  case done =>
    rintro D ys W hD rfl ⟨⟨v, hv, hrow, _⟩, hB, hsz⟩ hK
    have hc0 := hv.cell
    have hR : Kd.R Kd.string 9 (W.putObj D (.deferred none)) w.heap.size (fun _ => True) v (l0.map (·.f0)) := R_strings (own_weaken (ownsRow_putObj hrow _ hK rfl) (by omega))
    have hBel : Below w.heap.size w (W.putObj D (.deferred none)) := hB.trans (belowK_b (w := w) (Nat.le_refl _) W D _ _ (by omega) hK rfl rfl)
    obtain ⟨A1, c1, rfl⟩ := Kd.R_slice hR
    rw [List.length_map] at hR
    have HR := Lib.hid hR
    clear hR hrow
    gi_wp2
    refine ⟨by simp, .inl ⟨_, _, rfl, run_takeDeferred hK, ?_⟩⟩
    exact ⟨.slice A1 l0.length c1, by simp [results, Try.results34, go_sem], _, rfl, HR.out, hBel⟩
  case stop =>
    rintro D c pre W _ _ h _
    exact h.elim
/-- disk.List, of all names. -/
def disk_List.f (a0_0 : Int) (l0_1 : List (S55)) (a1 : ByteArray) : Option (List ByteArray) := if a1 = ⟨#[]⟩ ∧ l0_1.length ≤ 1048576 then some (l0_1.map (·.f0)) else none
theorem disk_List.calls (a0_0 : Int) (P0_1_ : Nat → Prop) (A0_1 : Option Addr) (c0_1 : Nat) (l0_1 : List (S55)) (a1 : ByteArray) (r : List ByteArray) (w : World) (hs0_1 : Kd.V k55 55 w w.heap.size (fun k_ => P0_1_ k_) (.slice A0_1 l0_1.length c0_1) l0_1) (h : disk_List.f a0_0 l0_1 a1 = some r) :
    Calls Try.prog 34 #[.agg #[.int .i64 a0_0, .slice A0_1 l0_1.length c0_1], .string a1] w fun e w' => ∃ v0_ : Value, e = .returned (v0_) ∧ Kd.V Kd.string 9 w' w.heap.size (fun k_ => (P0_1_ k_ ∨ w.heap.size ≤ k_)) v0_ r ∧ Below w.heap.size w w' := by
  unfold disk_List.f at h
  split at h
  · rename_i hh
    obtain ⟨rfl, hl⟩ := hh
    simp only [Option.some.injEq] at h
    subst h
    have h0 := Kd.V_at hs0_1
    refine (callsIn_wide.1 (list_in 5 (Nat.le_refl _) a0_0 A0_1 c0_1 l0_1 hl w (Kd.F_now h0.2.2))).mono ?_
    rintro e w' ⟨v, rfl, hR, hb⟩
    refine ⟨v, rfl, ?_, hb⟩
    obtain ⟨A, c, rfl, hc, _⟩ := Kd.R_reads hR
    exact ⟨A, c, rfl, hc, Kd.F_mono (Kd.R_F (Kd.R_bound hR)) (fun k hk => .inr hk.2.1)⟩
  · cases h
end Go.Proofs.Ytbpobnlkfpjijaa.Pr
