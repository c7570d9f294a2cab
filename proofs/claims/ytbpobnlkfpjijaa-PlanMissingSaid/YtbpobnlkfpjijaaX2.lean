-- Laid by a program (wip/merge.py): texts of this claim, one behind the other.
import Derived.Test.YtbpobnlkfpjijaaX1
import Derived.Laws.StructEq
import Derived.Test.YtbpobnlkfpjijaaProg
import Derived.Below
import Derived.Deep.Draws
import Derived.Deep.AppendLies
import Derived.Maps.AppendAt
import Derived.OwnWalk
import Derived.Laws.BytesArg
import Derived.Laws.MakeOwn
import Derived.Laws.OwnMore
import Derived.Deep.OwnRows
import Derived.Tactics
import Derived.Lib.ConvBytes
import Derived.Laws.Slices
import Derived.WalkKit
import Derived.KernelRfl
import Derived.RowKit3
import Derived.Deep.LoopGhost
import Derived.Deep.QuietTactic
import Derived.BigQuiet
import Derived.WideLaws
import Derived.Deep.DeepCutAuto
import Derived.Deep.CutBlock
import Derived.Deep.RegionHeld3
import Derived.Laws.Rows
import Derived.Lib.AppendStr
import Derived.ArgAppend
import Derived.Laws.IdiomCopy
import Derived.OrdersHeld
import Derived.Laws.BitsLemmas
import Derived.RowKit
import Derived.Laws.Cover1
import Derived.Lib.Hide
import Derived.Lib.Strings
import Derived.Test.YtbpobnlkfpjijaaRows
import Derived.ProofKit
import Derived.OpenShut
import Derived.ShutString
import Derived.ChangeOld
import Derived.SizedLaws
import Derived.Laws.Externs
import Derived.RangeFuncNested
import Derived.RangeFuncBound
import Derived.RangeFuncCalls
import Derived.RangeFuncLeaves
import Derived.RangeFuncBox
import Derived.Shelf.Abstract
import Derived.Shelf.RegionOpen
import Derived.OwnWalkIn
import Derived.TacticsInMore
import Derived.LoopNIn
import Derived.LoopIn
-- Aid
section
namespace Go.Proofs.Aid
set_option linter.unusedSimpArgs false
set_option linter.unusedVariables false
set_option linter.unnecessarySimpa false
open Go.RowKit Go.Proofs.YtbpobnlkfpjijaaW.PrintWords
theorem cell_set_row (w : World) (B o o1 : Nat) (v : Value) : (w.setCell ⟨B, o, none⟩ v).cell? ⟨B, o1, none⟩ = if o = o1 then (w.cell? ⟨B, o, none⟩).map (fun _ => v) else w.cell? ⟨B, o1, none⟩ := by
  split
  · rename_i h; subst h
    cases hc : w.cell? ⟨B, o, none⟩ with
    | none =>
      simp only [World.cell?, World.setCell, Array.getElem?_modify] at hc ⊢
      cases hb : w.heap[B]? with
      | none => simp
      | some ob => cases ob <;> simp_all
    | some u => exact World.cell?_setCell_same w _ _ hc
  · rename_i h; exact World.cell?_setCell_other w _ _ _ (by simp [h])
theorem readsRow_len {α : Type} {R : α → List Value → Prop} {sz n m : Nat} {w : World} {A : Option Addr} {ps : List α} (e : n = m) (h : ReadsRow R sz w A n ps) : ReadsRow R sz w A m ps := e ▸ h
/-- The block in which a shared row lies. -/
theorem V_block {α : Type} {d : Kd α} {e base n c : Nat} {ok : Nat → Prop} {W : World} {ad : Addr} {xs : List α} (h : Kd.V d e W base ok (.slice (some ad) n c) xs) (i : Int) (h0 : 0 ≤ i) (h1 : i < (xs.length : Int)) (hs : 0 < d.sz) : ok ad.block := by
  have hF := (Kd.V_at h).2.2
  rcases xs with _ | ⟨x, xs⟩
  · simp at h1; omega
  · obtain ⟨ad', _, he, _, _, _, hb⟩ := Kd.F_get hF x i h0 h1
    injection he with he; subst he
    exact hb hs
/-- 'xs[:j:j]'. -/
theorem cut_to_cap {P : Program} (t e : TypeId) (kh : IntKind) {i : TypeInfo} (ht : P.underlying t = some (.slice e)) (hi : P.info? e = some i) (A : Option Addr) (n c : Nat) (j : Int) (h0 : 0 ≤ j) (hm : j ≤ n) (hc : n ≤ c) :
    ∀ W : World, (Instr.slice t (.slice A n c) none (some (.int kh j)) (some (.int kh j))).run P W = .ok (.slice A j.toNat j.toNat) W := by
  intro W
  have hel : P.elem t = e := by simp [Program.elem, ht]
  have hu : P.underlying t = some (.slice (P.elem t)) := by rw [hel]; exact ht
  have ha : (A.map fun x => x.add 0) = A := by cases A <;> simp [Addr.add]
  rw [run_slice_hm W t A n c hu kh kh j j h0 (Int.le_refl _) (by omega), hel]
  simp [sizeOf, typeInfo, hi, sliced, Result.andThen, ha]
section
variable {P : Program} {ops : Array Oper} {rest : List Oper} {o : Oper} {a : Act} {Q : Exit → Act → World → Prop} {α : Type}
/-- 'make([]T, 0, c)'. -/
theorem R_make_cap (d : Kd α) {w0 W : World} (base e : Nat) (hgd : o.guard = none) {N : Tmp} (hd : o.dst = some N) (t : TypeId) (x y : Operand) (ho : o.op = .makeSlice t x y) (n : Int) (hx : a.eval x = .int .i64 0) (hy : a.eval y = .int .i64 n)
    (ht : P.underlying t = some (.slice e)) (z : Value) (bytes : Nat) (hinfo : (P.info? e).map (fun i => (i.zero, i.size, i.bytes)) = some (some z, d.sz, bytes)) (hz : z.cells.size = d.sz) (hs0 : 0 < d.sz) (hb0 : 0 < bytes)
    {ok : Nat → Prop} (hfresh : ok W.heap.size) (h0 : 0 ≤ n) (hl : n.toNat * bytes ≤ 281474976710656) (HB : Below base w0 W) (hbase : base ≤ W.heap.size)
    (h : ∀ v1 w1, d.R e w1 base ok v1 [] → Below base w0 w1 → W.grownBy w1 none → (∃ b, v1.ownBlock = some b ∧ W.heap.size ≤ b) → wpList P ops Q rest (a.put o.dst v1) w1) : wpList P ops Q (o :: rest) a W := by
  obtain ⟨m, rfl⟩ := Int.eq_ofNat_of_zero_le h0
  simp only [Int.toNat_natCast] at hl
  obtain ⟨i0, hi, hzz⟩ := Option.map_eq_some_iff.1 hinfo
  simp only [Prod.mk.injEq] at hzz
  obtain ⟨hz0, hz1, hz2⟩ := hzz
  have hm : m ≤ 281474976710656 := Nat.le_trans (Nat.le_mul_of_pos_right _ hb0) hl
  have hr := run_make (P := P) W t e i0 z ht hi hz0 .i64 .i64 (0 : Int) (m : Int) (by omega) (by omega)
    (by
      have h3 : ((i0.bytes * m : Nat) : Int) ≤ 281474976710656 := by rw [hz2, Nat.mul_comm]; omega
      rwa [Int.natCast_mul] at h3) (by omega)
  simp only [Int.toNat_natCast] at hr
  rw [hz1] at hr
  refine wpList_plain hgd fun K hK => ?_
  unfold Oper.wp execOp
  simp only [ho, hx, hy, hr, Sem.run_bind, Sem.run_pure, Result.andThen_ok]
  have hR : d.R e (W.alloc (.cells (madeCells z.cells (m * d.sz)) e)) base ok (.slice (some ⟨W.heap.size, 0, none⟩) 0 m) [] := by
    refine ⟨fun k hk => ?_, [], ⟨by simp, .inr ⟨W.heap.size, m, _, rfl, hbase, heap_alloc_new W _, by simp, by simp only [maxLen]; omega, by simp [size_madeCells], by simp⟩⟩, Reps.none _ _⟩
    simp [Value.ownBlock] at hk
    subst hk
    exact hfresh
  exact hK _ _ (h _ _ hR (HB.alloc hbase _) (World.grownBy_alloc _ _ _) ⟨W.heap.size, by simp [Value.ownBlock], Nat.le_refl _⟩)
end
end Go.Proofs.Aid
end
-- WTab
section
namespace Go.Proofs.YtbpobnlkfpjijaaW.PrintLast
open Go.Proofs.YtbpobnlkfpjijaaW.PrintWords (Aside0)
def needsOf (md : Region.Mode) (o : Oper) : List Nat := (o.after.toList.filter (fun e => Region.binds md e)).map (fun e => e.on)
def clashOf (md : Region.Mode) (ops : Array Oper) (i : Nat) (oi : Oper) : List Nat := (List.range ops.size).filter fun j => !(j == i) && match ops[j]? with
  | some oj => !(oj.after.any (fun e => Region.binds md e && e.on == i) || oi.apart ops oj)
  | none => false
def rtab (md : Region.Mode) (ops : Array Oper) : Bool × List (List Nat × List Nat) := (Region.noSelect ops, (List.range ops.size).map fun i => match ops[i]? with
  | some o => (needsOf md o, clashOf md ops i o)
  | none => ([], []))
def readyAt (T : List (List Nat × List Nat)) (l : List Bool) (i : Nat) : Bool := !l.getD i true && match T[i]? with
  | some r => r.1.all (fun j => l.getD j false)
  | none => false
def readyT (T : List (List Nat × List Nat)) (l : List Bool) : List Nat := (List.range T.length).filter (readyAt T l)
def freeT (T : List (List Nat × List Nat)) (l : List Bool) (i : Nat) : Bool := match T[i]? with
  | some r => r.2.all (fun j => l.getD j true)
  | none => false
def closedT (T : List (List Nat × List Nat)) (l : List Bool) : Bool := (List.range T.length).all fun j => !l.getD j false || match T[j]? with
  | some r => r.1.all (fun k => l.getD k false)
  | none => true
def reachT (T : List (List Nat × List Nat)) (i : Nat) : Nat → Nat → Bool
  | 0, _ => false
  | fuel + 1, d => match T[d]? with
    | some r => r.1.any fun j => j == i || reachT T i fuel j
    | none => false
def lastT (T : List (List Nat × List Nat)) (l : List Bool) (ds : List Nat) (i : Nat) : Bool := ds.all fun d => l.getD d true || reachT T i T.length d
section
variable {md : Region.Mode} {ops : Array Oper} {T : Bool × List (List Nat × List Nat)} {l l' li lj lk : Array Bool} {ds : List Nat} {i j k : Nat}
theorem gd (l : Array Bool) (j : Nat) (b : Bool) : l.getD j b = l.toList.getD j b := by simp [Array.getD_eq_getD_getElem?, List.getD_eq_getElem?_getD]
theorem needs_all (o : Oper) (p : Nat → Bool) : o.after.all (fun e => !Region.binds md e || p e.on) = (needsOf md o).all p := by
  unfold needsOf
  rw [← Array.all_toList]
  induction o.after.toList with
  | nil => rfl
  | cons e r ih =>
    rw [List.all_cons, ih, List.filter_cons]
    cases h : Region.binds md e <;> simp
theorem needs_any (o : Oper) (p : Nat → Bool) : o.after.any (fun e => Region.binds md e && p e.on) = (needsOf md o).any p := by
  unfold needsOf
  rw [← Array.any_toList]
  induction o.after.toList with
  | nil => rfl
  | cons e r ih =>
    rw [List.any_cons, ih, List.filter_cons]
    cases h : Region.binds md e <;> simp
theorem rtab_length : (rtab md ops).2.length = ops.size := by simp [rtab]
theorem rtab_some {o : Oper} (h : ops[i]? = some o) : (rtab md ops).2[i]? = some (needsOf md o, clashOf md ops i o) := by
  have hi := (Array.getElem?_eq_some_iff.1 h).1
  unfold rtab
  rw [List.getElem?_map, List.getElem?_range hi, Option.map_some, h]
theorem rtab_none (h : ops[i]? = none) : (rtab md ops).2[i]? = none := by
  have hi : ops.size ≤ i := Array.getElem?_eq_none_iff.1 h
  exact List.getElem?_eq_none (by rw [rtab_length]; exact hi)
theorem readyAt_eq : readyAt (rtab md ops).2 l.toList i = (!l.getD i true && ((ops[i]?).map (·.after.all fun e => !Region.binds md e || l.getD e.on false)).getD false) := by
  unfold readyAt
  rw [gd]
  cases h : ops[i]? with
  | none => rw [rtab_none h]; rfl
  | some o =>
    rw [rtab_some h]
    simp only [Option.map_some, Option.getD_some]
    rw [← needs_all]
    simp only [gd]
theorem ready_eq : Region.ready md ops l = readyT (rtab md ops).2 l.toList := by
  unfold Region.ready readyT
  rw [rtab_length]
  refine List.filter_congr (fun i _ => ?_)
  rw [readyAt_eq]
theorem free_eq : Region.free md ops l i = freeT (rtab md ops).2 l.toList i := by
  unfold Region.free freeT
  cases h : ops[i]? with
  | none => rw [rtab_none h]
  | some oi =>
    rw [rtab_some h]
    simp only [clashOf]
    rw [List.all_filter]
    congr 1
    funext j
    rw [gd]
    cases hj : ops[j]? with
    | none => cases (j == i) <;> cases (l.toList.getD j true) <;> simp
    | some oj =>
      cases (j == i) <;> cases (l.toList.getD j true) <;> cases (oj.after.any (fun e => Region.binds md e && e.on == i) || oi.apart ops oj) <;> simp_all
theorem closed_eq : Region.closedB md ops l = closedT (rtab md ops).2 l.toList := by
  unfold Region.closedB closedT
  rw [rtab_length]
  congr 1
  funext j
  rw [gd]
  cases h : ops[j]? with
  | none => rw [rtab_none h]
  | some o =>
    rw [rtab_some h]
    simp only
    rw [← needs_all]
    simp only [gd]
theorem reach_eq : ∀ (fuel d : Nat), Region.reachB md ops i fuel d = reachT (rtab md ops).2 i fuel d
  | 0, _ => rfl
  | fuel + 1, d => by
    unfold Region.reachB reachT
    cases h : ops[d]? with
    | none => rw [rtab_none h]
    | some o =>
      rw [rtab_some h]
      simp only
      rw [← needs_any]
      congr 1
      funext e
      rw [reach_eq fuel]
theorem last_eq : Region.lastB md ops l ds i = lastT (rtab md ops).2 l.toList ds i := by
  unfold Region.lastB lastT
  rw [rtab_length]
  congr 1
  funext d
  rw [gd, reach_eq]
theorem readyAt_mem (h : readyAt T.2 l.toList i = true) (hT : rtab md ops = T) : (Region.ready md ops l).contains i = true := by
  subst hT
  rw [ready_eq]
  unfold readyT
  rw [List.contains_iff_mem, List.mem_filter, List.mem_range]
  refine ⟨?_, h⟩
  unfold readyAt at h
  rw [Bool.and_eq_true] at h
  cases hq : (rtab md ops).2[i]? with
  | none => rw [hq] at h; simp at h
  | some r => exact (List.getElem?_eq_some_iff.1 hq).1
theorem set_of (h : (l.toList.set i true == l'.toList) = true) : (l.setIfInBounds i true == l') = true := by
  rw [beq_iff_eq] at h ⊢
  apply Array.ext'
  rw [Array.toList_setIfInBounds]
  exact h
def anyT (T : Bool × List (List Nat × List Nat)) (l l' : List Bool) (i : Nat) : Bool := T.1 && freeT T.2 l i && readyAt T.2 l i && (l.set i true == l')
theorem any_of (hT : rtab md ops = T) (h : anyT T l.toList l'.toList i = true) : anyB md ops l l' i = true := by
  simp only [anyT, Bool.and_eq_true] at h
  obtain ⟨⟨⟨h1, h2⟩, h3⟩, h4⟩ := h
  have h5 := readyAt_mem h3 hT
  have h6 := set_of h4
  subst hT
  simp only [anyB, Bool.and_eq_true]
  exact ⟨⟨⟨h1, by rw [free_eq]; exact h2⟩, h5⟩, h6⟩
def takeT (T : Bool × List (List Nat × List Nat)) (ds : List Nat) (l l' : List Bool) (i : Nat) : Bool := T.1 && freeT T.2 l i && readyAt T.2 l i && closedT T.2 l && lastT T.2 l ds i && (l.set i true == l')
theorem take_of (hT : rtab md ops = T) (h : takeT T ds l.toList l'.toList i = true) : takeB md ops ds l l' i = true := by
  simp only [takeT, Bool.and_eq_true] at h
  obtain ⟨⟨⟨⟨⟨h1, h2⟩, h3⟩, h4⟩, h5⟩, h6⟩ := h
  have h7 := readyAt_mem h3 hT
  have h8 := set_of h6
  subst hT
  simp only [takeB, Bool.and_eq_true]
  exact ⟨⟨⟨⟨⟨h1, by rw [free_eq]; exact h2⟩, h7⟩, by rw [closed_eq]; exact h4⟩, by rw [last_eq]; exact h5⟩, h8⟩
theorem one_of (hT : rtab md ops = T) (h : (readyT T.2 l.toList == [i] && l.toList.set i true == l'.toList) = true) : readyB md ops l l' i = true := by
  simp only [Bool.and_eq_true] at h
  obtain ⟨h1, h2⟩ := h
  subst hT
  simp only [readyB, Bool.and_eq_true]
  exact ⟨by rw [ready_eq]; exact h1, set_of h2⟩
theorem two_of (hT : rtab md ops = T) (h : (readyT T.2 l.toList == [i, j] && l.toList.set i true == li.toList && l.toList.set j true == lj.toList) = true) : (Region.ready md ops l == [i, j] && l.setIfInBounds i true == li && l.setIfInBounds j true == lj) = true := by
  simp only [Bool.and_eq_true] at h ⊢
  obtain ⟨⟨h1, h2⟩, h3⟩ := h
  subst hT
  exact ⟨⟨by rw [ready_eq]; exact h1, set_of h2⟩, set_of h3⟩
theorem three_of (hT : rtab md ops = T) (h : (readyT T.2 l.toList == [i, j, k] && l.toList.set i true == li.toList && l.toList.set j true == lj.toList && l.toList.set k true == lk.toList) = true) :
    (Region.ready md ops l == [i, j, k] && l.setIfInBounds i true == li && l.setIfInBounds j true == lj && l.setIfInBounds k true == lk) = true := by
  simp only [Bool.and_eq_true] at h ⊢
  obtain ⟨⟨⟨h1, h2⟩, h3⟩, h4⟩ := h
  subst hT
  exact ⟨⟨⟨by rw [ready_eq]; exact h1, set_of h2⟩, set_of h3⟩, set_of h4⟩
theorem done_of (hT : rtab md ops = T) (h : (readyT T.2 l.toList == []) = true) : (Region.ready md ops l == []) = true := by
  subst hT
  rw [ready_eq]
  exact h
def upM (B : List Nat) (d : Nat) : List Nat → Nat
  | [] => 0
  | n :: r => (2 ^ n ||| (if n < d then B.getD n 0 else 0)) ||| upM B d r
def waitsOk (T : List (List Nat × List Nat)) (B : List Nat) : Bool := (List.range T.length).all fun d => match T[d]? with
  | some r => (B.getD d 0 ||| upM B d r.1) == upM B d r.1
  | none => false
theorem upM_bit {B : List Nat} {d i : Nat} : ∀ {ns : List Nat}, (upM B d ns).testBit i = true → ∃ n ∈ ns, n = i ∨ (n < d ∧ (B.getD n 0).testBit i = true)
  | [], h => by simp [upM] at h
  | n :: r, h => by
    unfold upM at h
    rw [Nat.testBit_or, Nat.testBit_or, Bool.or_eq_true, Bool.or_eq_true] at h
    rcases h with (h | h) | h
    · rw [Nat.testBit_two_pow] at h
      exact ⟨n, List.mem_cons_self, .inl (by simpa using h)⟩
    · by_cases hn : n < d
      · rw [if_pos hn] at h
        exact ⟨n, List.mem_cons_self, .inr ⟨hn, h⟩⟩
      · rw [if_neg hn] at h
        simp at h
    · obtain ⟨m, hm, h2⟩ := upM_bit h
      exact ⟨m, List.mem_cons_of_mem _ hm, h2⟩
theorem reach_bit {T : List (List Nat × List Nat)} {B : List Nat} (hB : waitsOk T B = true) : ∀ (fuel d : Nat), d < fuel → d < T.length → (B.getD d 0).testBit i = true → reachT T i fuel d = true
  | 0, d, h, _, _ => by omega
  | fuel + 1, d, h, hd, hb => by
    have h1 := List.all_eq_true.1 hB d (List.mem_range.2 hd)
    cases hr : T[d]? with
    | none => rw [hr] at h1; simp at h1
    | some r =>
      rw [hr] at h1
      simp only [beq_iff_eq] at h1
      have h2 : (upM B d r.1).testBit i = true := by rw [← h1, Nat.testBit_or, hb, Bool.true_or]
      obtain ⟨n, hn, h3⟩ := upM_bit h2
      unfold reachT
      rw [hr]
      simp only
      rw [List.any_eq_true]
      refine ⟨n, hn, ?_⟩
      rcases h3 with rfl | ⟨h4, h5⟩
      · simp
      · rw [reach_bit hB fuel n (by omega) (by omega) h5, Bool.or_true]
def lastW (T : List (List Nat × List Nat)) (B : List Nat) (l : List Bool) (ds : List Nat) (i : Nat) : Bool := ds.all fun d => l.getD d true || (decide (d < T.length) && (B.getD d 0).testBit i)
def takeW (T : Bool × List (List Nat × List Nat)) (B : List Nat) (ds : List Nat) (l l' : List Bool) (i : Nat) : Bool := T.1 && freeT T.2 l i && readyAt T.2 l i && closedT T.2 l && lastW T.2 B l ds i && (l.set i true == l')
theorem take_ofW {B : List Nat} (hT : rtab md ops = T) (hB : waitsOk T.2 B = true) (h : takeW T B ds l.toList l'.toList i = true) : takeB md ops ds l l' i = true := by
  refine take_of hT ?_
  simp only [takeW, takeT, Bool.and_eq_true] at h ⊢
  obtain ⟨⟨⟨⟨⟨h1, h2⟩, h3⟩, h4⟩, h5⟩, h6⟩ := h
  refine ⟨⟨⟨⟨⟨h1, h2⟩, h3⟩, h4⟩, ?_⟩, h6⟩
  unfold lastW at h5
  unfold lastT
  rw [List.all_eq_true] at h5 ⊢
  intro d hd
  have h7 := h5 d hd
  rw [Bool.or_eq_true, Bool.and_eq_true, decide_eq_true_eq] at h7
  rcases h7 with h7 | ⟨h8, h9⟩
  · rw [h7, Bool.true_or]
  · rw [reach_bit hB _ d h8 h8 h9, Bool.or_true]
theorem with_tabW {P : Program} {Q : Exit → Act → World → Prop} {S : World → Prop} {n : Nat} {a : Act} {w : World} {B : List Nat} (hT : rtab md ops = T) (hB : waitsOk T.2 B = true) (h : Aside0 (rtab md ops = T) → Aside0 (waitsOk T.2 B = true) → wpAnyLast P md ops Q S ds n l a w) : wpAnyLast P md ops Q S ds n l a w := h ⟨hT⟩ ⟨hB⟩
end
def opsIn : Code → Nat → Option (Array Oper)
  | .region id ops _, k => if id == k then some ops else none
  | .seq a b, k => match opsIn a k with
    | some o => some o
    | none => opsIn b k
  | .cond _ a b, k => match opsIn a k with
    | some o => some o
    | none => opsIn b k
  | .block _ c, k => opsIn c k
  | .loop c, k => opsIn c k
  | .scope c, k => opsIn c k
  | .rangeFunc _ _ a b, k => match opsIn a k with
    | some o => some o
    | none => opsIn b k
  | _, _ => none
def opsOf (f : Func) (k : Nat) : Array Oper := ((f.body.bind fun c => opsIn c k)).getD #[]
end Go.Proofs.YtbpobnlkfpjijaaW.PrintLast
end
-- WFour
section
namespace Go.Proofs.YtbpobnlkfpjijaaW.PrintLast
section
variable {P : Program} {ops : Array Oper} {Q : Exit → Act → World → Prop} {md : Region.Mode} {S : World → Prop} {ds : List Nat} {T : Bool × List (List Nat × List Nat)}
end
end Go.Proofs.YtbpobnlkfpjijaaW.PrintLast
end
-- WFootNe
section
namespace Go.Proofs.YtbpobnlkfpjijaaW.PrintWords
open Go.RowKit
namespace Kd
section
variable {α : Type} {d : Kd α} {W : World} {g n : Nat} {S ok : Nat → Prop} {A : Option Addr} {ad : Addr} {xs : List α}
end
end Kd
end Go.Proofs.YtbpobnlkfpjijaaW.PrintWords
end
-- WAt
section
namespace Go.Proofs.YtbpobnlkfpjijaaW.PrintWords
open Go.RowKit
section
variable {w w' u : World} {m B g : Nat} {o : Obj} {row : Option Nat} {S : Nat → Prop} {a : Addr} {v : Value}
theorem below_at (hq : w.drewN m = w') (h : Below B u w) : Below B u w' := by subst hq; exact pw_below_drewN h m
end
namespace Kd
section
variable {α : Type} {d : Kd α} {e base n m : Nat} {ok : Nat → Prop} {w w' : World} {v : Value} {A : Option Addr} {xs : List α}
theorem R_at (hq : w.drewN m = w') (h : d.R e w base ok v xs) : d.R e w' base ok v xs := by subst hq; exact R_drewN h m
end
end Kd
end Go.Proofs.YtbpobnlkfpjijaaW.PrintWords
end
-- WEqStruct
section
namespace Go.Proofs.YtbpobnlkfpjijaaW.PrintWords
open Go.RowKit
section
variable {P : Program} {d : Nat} {xs ys : Array Value} {f : Field} {fs : List Field} {a b : Value} {r s : Bool} {w : World}
theorem eqf_last (hn : (f.name == "_") = false) (ha : (part f.type xs f.offset).run P w = .ok a w) (hb : (part f.type ys f.offset).run P w = .ok b w) (he : (Op.equalIn d f.type a b).run P w = .ok r w) : (Op.eqFields d xs ys [f]).run P w = .ok r w := by
  have hn' : f.name ≠ "_" := by simpa using hn
  simp only [Op.eqFields, if_pos hn', Sem.run_bind, ha, hb, he, Result.andThen_ok]
  cases r <;> simp
theorem eqf_cons (hn : (f.name == "_") = false) (ha : (part f.type xs f.offset).run P w = .ok a w) (hb : (part f.type ys f.offset).run P w = .ok b w) (he : (Op.equalIn d f.type a b).run P w = .ok r w) (hr : (Op.eqFields d xs ys fs).run P w = .ok s w) : (Op.eqFields d xs ys (f :: fs)).run P w = .ok (r && s) w := by
  have hn' : f.name ≠ "_" := by simpa using hn
  rw [Op.eqFields]
  simp only [if_pos hn', Sem.run_bind, ha, hb, he, Result.andThen_ok]
  cases r
  · simp
  · simpa using hr
theorem eqA_of {t : TypeId} {fs : Array Field} (hu : P.underlying t = some (.struct fs)) (hp : P.stoodInHeld t = false) (h : (Op.eqFields d xs ys fs.toList).run P w = .ok r w) : (Op.equalIn (d + 1) t (.agg xs) (.agg ys)).run P w = .ok r w := by
  have hf : P.fieldsOf t = fs := by simp [Program.fieldsOf, hu]
  rw [run_equalIn_struct (P := P) w d t xs ys (by rw [hf]; exact hu) hp, hf]
  exact h
end
end Go.Proofs.YtbpobnlkfpjijaaW.PrintWords
end
-- WRepsOne
section
namespace Go.Proofs.YtbpobnlkfpjijaaW.PrintWords
theorem Reps.one {α : Type} {R : α → List Value → Prop} {ps : List α} {cs : List Value} {p : α} {v : Value} (hp : R p [v]) (h : Reps R 1 ps cs) : Reps R 1 (p :: ps) (v :: cs) := by
  refine ⟨by simp [h.1], fun j q hq => ?_⟩
  cases j with
  | zero =>
    simp only [List.getElem?_cons_zero, Option.some.injEq] at hq
    subst hq
    simpa using hp
  | succ j =>
    simp only [List.getElem?_cons_succ] at hq
    have h1 := h.2 j q hq
    simpa [Nat.mul_one] using h1
theorem Reps.front {α : Type} {R : α → List Value → Prop} {size : Nat} {ps : List α} {cs c all : List Value} {p : α} (hp : R p c) (hc : c.length = size) (h : Reps R size ps cs) (ha : c ++ cs = all) : Reps R size (p :: ps) all := by
  subst ha
  refine ⟨by rw [List.length_append, hc, h.1, List.length_cons, Nat.succ_mul, Nat.add_comm], fun j q hq => ?_⟩
  cases j with
  | zero =>
    simp only [List.getElem?_cons_zero, Option.some.injEq] at hq
    subst hq
    rw [Nat.zero_mul, List.drop_zero, List.take_append_of_le_length (by omega), List.take_of_length_le (by omega)]
    exact hp
  | succ j =>
    simp only [List.getElem?_cons_succ] at hq
    have h1 := h.2 j q hq
    rw [Nat.succ_mul, List.drop_append, List.drop_of_length_le (by rw [hc]; exact Nat.le_add_left _ _), List.nil_append, hc, Nat.add_sub_cancel]
    exact h1
theorem Reps.c2 {α : Type} {R : α → List Value → Prop} {ps : List α} {cs : List Value} {p : α} {va vb : Value} (hp : R p [va, vb]) (h : Reps R 2 ps cs) : Reps R 2 (p :: ps) (va :: vb :: cs) := Reps.front hp rfl h rfl
theorem Reps.c3 {α : Type} {R : α → List Value → Prop} {ps : List α} {cs : List Value} {p : α} {va vb vc : Value} (hp : R p [va, vb, vc]) (h : Reps R 3 ps cs) : Reps R 3 (p :: ps) (va :: vb :: vc :: cs) := Reps.front hp rfl h rfl
theorem Reps.c4 {α : Type} {R : α → List Value → Prop} {ps : List α} {cs : List Value} {p : α} {va vb vc vd : Value} (hp : R p [va, vb, vc, vd]) (h : Reps R 4 ps cs) : Reps R 4 (p :: ps) (va :: vb :: vc :: vd :: cs) := Reps.front hp rfl h rfl
theorem Reps.c5 {α : Type} {R : α → List Value → Prop} {ps : List α} {cs : List Value} {p : α} {va vb vc vd ve : Value} (hp : R p [va, vb, vc, vd, ve]) (h : Reps R 5 ps cs) : Reps R 5 (p :: ps) (va :: vb :: vc :: vd :: ve :: cs) := Reps.front hp rfl h rfl
theorem Reps.c6 {α : Type} {R : α → List Value → Prop} {ps : List α} {cs : List Value} {p : α} {va vb vc vd ve vf : Value} (hp : R p [va, vb, vc, vd, ve, vf]) (h : Reps R 6 ps cs) : Reps R 6 (p :: ps) (va :: vb :: vc :: vd :: ve :: vf :: cs) := Reps.front hp rfl h rfl
theorem Reps.c7 {α : Type} {R : α → List Value → Prop} {ps : List α} {cs : List Value} {p : α} {va vb vc vd ve vf vg : Value} (hp : R p [va, vb, vc, vd, ve, vf, vg]) (h : Reps R 7 ps cs) : Reps R 7 (p :: ps) (va :: vb :: vc :: vd :: ve :: vf :: vg :: cs) := Reps.front hp rfl h rfl
theorem Reps.c8 {α : Type} {R : α → List Value → Prop} {ps : List α} {cs : List Value} {p : α} {va vb vc vd ve vf vg vh : Value} (hp : R p [va, vb, vc, vd, ve, vf, vg, vh]) (h : Reps R 8 ps cs) : Reps R 8 (p :: ps) (va :: vb :: vc :: vd :: ve :: vf :: vg :: vh :: cs) := Reps.front hp rfl h rfl
theorem Reps.c9 {α : Type} {R : α → List Value → Prop} {ps : List α} {cs : List Value} {p : α} {va vb vc vd ve vf vg vh vi : Value} (hp : R p [va, vb, vc, vd, ve, vf, vg, vh, vi]) (h : Reps R 9 ps cs) : Reps R 9 (p :: ps) (va :: vb :: vc :: vd :: ve :: vf :: vg :: vh :: vi :: cs) := Reps.front hp rfl h rfl
theorem Reps.c10 {α : Type} {R : α → List Value → Prop} {ps : List α} {cs : List Value} {p : α} {va vb vc vd ve vf vg vh vi vj : Value} (hp : R p [va, vb, vc, vd, ve, vf, vg, vh, vi, vj]) (h : Reps R 10 ps cs) : Reps R 10 (p :: ps) (va :: vb :: vc :: vd :: ve :: vf :: vg :: vh :: vi :: vj :: cs) := Reps.front hp rfl h rfl
end Go.Proofs.YtbpobnlkfpjijaaW.PrintWords
end
-- WInv
section
namespace Go.Proofs.YtbpobnlkfpjijaaW.PrintLast
def up (b : Nat → Bool) (i : Nat) : Nat → Bool := fun j => if j = i then true else b j
section
variable {P : Program} {ops : Array Oper} {Q : Exit → Act → World → Prop} {md : Region.Mode} {T : Bool × List (List Nat × List Nat)} {B : List Nat} {O : List Nat} {b : Nat → Bool} {i j n : Nat}
end
end Go.Proofs.YtbpobnlkfpjijaaW.PrintLast
end
-- WInvWords
section
namespace Go.Proofs.YtbpobnlkfpjijaaW.PrintWords
open Go.RowKit
end Go.Proofs.YtbpobnlkfpjijaaW.PrintWords
namespace Go.Proofs.YtbpobnlkfpjijaaW.PrintLast
section
variable {ops : Array Oper} {a : Act} {o og : Oper} {g : Nat} {t : Tmp} {u : Bool}
end
end Go.Proofs.YtbpobnlkfpjijaaW.PrintLast
end
-- WGuard
section
namespace Go.Proofs.YtbpobnlkfpjijaaW.PrintWords
open Go.RowKit
section
variable {P : Program} {ops : Array Oper} {rest : List Oper} {o : Oper} {a : Act} {Q : Exit → Act → World → Prop} {W : World}
theorem gate_guard (hw : Region.wanted o (yielded ops a.tmps) = true) (h : wpList P ops Q ({ o with guard := none } :: rest) a W) : wpList P ops Q (o :: rest) a W := by
  have h1 : Region.wanted { o with guard := none } (yielded ops a.tmps) = true := rfl
  unfold wpList at h ⊢
  rw [if_pos h1] at h
  rw [if_pos hw]
  exact h
end
end Go.Proofs.YtbpobnlkfpjijaaW.PrintWords
end
-- Pr0
section
namespace Go.Proofs.Ytbpobnlkfpjijaa.Pr
open Go.RowKit Go.Proofs.YtbpobnlkfpjijaaW.PrintWords Go.Proofs.YtbpobnlkfpjijaaW.PrintLast Go.Proofs.YtbpobnlkfpjijaaW.PrintMore
attribute [local go_sem] max2_int min2_int max_two min_two max_three min_three max_four min_four   -- for this text's walks alone
set_option linter.unusedVariables false
set_option linter.unusedSimpArgs false



def errW : Option Int → Value
  | none => .nilIface
  | some c => .iface 0 (.int .i64 c)
theorem errW_none : errW none = .nilIface := rfl
theorem errW_some (c : Int) : errW (some c) = .iface 0 (.int .i64 c) := rfl

theorem info3 : (Try.prog.info? 3).map (fun i => (i.zero, i.size, i.bytes)) = some (some (.int .i64 0), 1, 8) := by kernel_rfl
theorem info5 : (Try.prog.info? 5).map (fun i => (i.zero, i.size, i.bytes)) = some (some (.int .u8 0), 1, 1) := by kernel_rfl
theorem info39 : (Try.prog.info? 39).map (fun i => (i.zero, i.size, i.bytes)) = some (some (.slice none 0 0), 1, 24) := by kernel_rfl
theorem info41 : (Try.prog.info? 41).map (fun i => (i.zero, i.size, i.bytes)) = some (some (.agg #[(.int .i64 0), (.int .i64 0), (.slice none 0 0), (.slice none 0 0), (.slice none 0 0), (.bool false)]), 6, 96) := by kernel_rfl
theorem info55 : (Try.prog.info? 55).map (fun i => (i.zero, i.size, i.bytes)) = some (some (.agg #[(.string ⟨#[]⟩), (.string ⟨#[]⟩), (.string ⟨#[]⟩)]), 3, 48) := by kernel_rfl
theorem info57 : (Try.prog.info? 57).map (fun i => (i.zero, i.size, i.bytes)) = some (some (.int .u64 0), 1, 8) := by kernel_rfl
-- the values' own types
def rd_L1 (xs : List (List Int)) (i : Int) : (List Int) := xs.getD i.toNat ([] : List Int)
theorem at_L1 {w : World} {A : Option Addr} {n : Nat} {xs : List (List Int)} (h : Kd.C (Kd.slice 57 (Kd.int .u64)) w A n xs) (i : Int) (h0 : 0 ≤ i) (h1 : i < n) : ∃ ad A0 c0, A = some ad ∧ w.cell? (ad.add i.toNat) = some (.slice A0 (rd_L1 xs i).length c0) ∧ (rd_L1 xs i).length ≤ c0 ∧ (Kd.int .u64).C w A0 (rd_L1 xs i).length (rd_L1 xs i) := by
  obtain ⟨ad, c, e, _, hK, hc0⟩ := Kd.C_get h ([] : List Int) i h0 h1
  have hc : ∀ j u, c[j]? = some u → w.cell? (ad.add (i.toNat * 1 + j)) = some u := hc0
  obtain ⟨A0, c0, rfl, l0, g0⟩ := hK
  exact ⟨ad, A0, c0, e, by have hq := hc 0 _ rfl; rwa [Nat.mul_one, Nat.add_zero] at hq, l0, g0⟩

structure S29 where
  f0 : Int
  f1 : Int
def z29 : S29 := ⟨(0 : Int), (0 : Int)⟩
def k29 : Kd S29 := Kd.iso (Kd.pair (Kd.int .i64) (Kd.int .i64)) (fun x : S29 => (x.f0, x.f1))
theorem k29_heap : Kd.Heap k29 := Kd.heap_iso _ (Kd.heap_pair (Kd.heap_int .i64) (Kd.heap_int .i64))
theorem k29_open {w : World} {x : S29} {cs : List Value} (h : k29.K w x cs) : cs = [.int .i64 x.f0, .int .i64 x.f1] := by
  obtain ⟨_, _, rfl, rfl, rfl⟩ := h
  exact rfl
theorem k29_openM {w : World} {base : Nat} {ok : Nat → Prop} {x : S29} {cs : List Value} (h : k29.M w base ok x cs) : cs = [.int .i64 x.f0, .int .i64 x.f1] := by
  obtain ⟨_, _, rfl, rfl, rfl⟩ := h
  exact rfl
theorem k29_mk (w : World) (x : S29)  : k29.K w x [.int .i64 x.f0, .int .i64 x.f1] := ⟨[.int .i64 x.f0], [.int .i64 x.f1], rfl, rfl, rfl⟩
theorem k29_mkM (w : World) (base : Nat) (ok : Nat → Prop) (x : S29)  : k29.M w base ok x [.int .i64 x.f0, .int .i64 x.f1] := ⟨[.int .i64 x.f0], [.int .i64 x.f1], rfl, rfl, rfl⟩
theorem k29_mkF (W : World) (ok : Nat → Prop) (x : S29) : Kd.FK k29 W ok x [.int .i64 x.f0, .int .i64 x.f1] := fun W2 _ => k29_mk W2 x
def rd_T29 (xs : List S29) (i : Int) : S29 := xs.getD i.toNat z29
theorem at_T29 {w : World} {A : Option Addr} {n : Nat} {xs : List S29} (h : Kd.C k29 w A n xs) (i : Int) (h0 : 0 ≤ i) (h1 : i < n) : ∃ ad , A = some ad ∧ w.cell? (ad.add (i.toNat * 2)) = some (.int .i64 (rd_T29 xs i).f0) ∧ w.cell? ⟨(ad.add (i.toNat * 2)).block, (ad.add (i.toNat * 2)).off + 1, none⟩ = some (.int .i64 (rd_T29 xs i).f1) := by
  obtain ⟨ad, c, e, _, hK, hc0⟩ := Kd.C_get h z29 i h0 h1
  have hc : ∀ j u, c[j]? = some u → w.cell? (ad.add (i.toNat * 2 + j)) = some u := hc0
  obtain rfl := k29_open hK
  exact ⟨ad, e, hc 0 _ rfl, by rw [← add_field _ _ 1 (by omega)]; exact hc 1 _ rfl⟩

def rd_L4 (xs : List (List S29)) (i : Int) : (List S29) := xs.getD i.toNat ([] : List S29)
theorem at_L4 {w : World} {A : Option Addr} {n : Nat} {xs : List (List S29)} (h : Kd.C (Kd.slice 29 k29) w A n xs) (i : Int) (h0 : 0 ≤ i) (h1 : i < n) : ∃ ad A0 c0, A = some ad ∧ w.cell? (ad.add i.toNat) = some (.slice A0 (rd_L4 xs i).length c0) ∧ (rd_L4 xs i).length ≤ c0 ∧ k29.C w A0 (rd_L4 xs i).length (rd_L4 xs i) := by
  obtain ⟨ad, c, e, _, hK, hc0⟩ := Kd.C_get h ([] : List S29) i h0 h1
  have hc : ∀ j u, c[j]? = some u → w.cell? (ad.add (i.toNat * 1 + j)) = some u := hc0
  obtain ⟨A0, c0, rfl, l0, g0⟩ := hK
  exact ⟨ad, A0, c0, e, by have hq := hc 0 _ rfl; rwa [Nat.mul_one, Nat.add_zero] at hq, l0, g0⟩

structure S41 where
  f0 : S29
  f1 : (List Int)
  f2 : (List Int)
  f3 : (List Int)
  f4 : Bool
def z41 : S41 := ⟨z29, ([] : List Int), ([] : List Int), ([] : List Int), false⟩
def k41 : Kd S41 := Kd.iso (Kd.pair k29 (Kd.pair (Kd.slice 57 (Kd.int .u64)) (Kd.pair (Kd.slice 57 (Kd.int .u64)) (Kd.pair (Kd.slice 57 (Kd.int .u64)) Kd.bool)))) (fun x : S41 => (x.f0, x.f1, x.f2, x.f3, x.f4))
theorem k41_heap : Kd.Heap k41 := Kd.heap_iso _ (Kd.heap_pair k29_heap (Kd.heap_pair (Kd.heap_slice 57 (Kd.heap_int .u64)) (Kd.heap_pair (Kd.heap_slice 57 (Kd.heap_int .u64)) (Kd.heap_pair (Kd.heap_slice 57 (Kd.heap_int .u64)) Kd.heap_bool))))
theorem k41_open {w : World} {x : S41} {cs : List Value} (h : k41.K w x cs) : ∃ A2 c2 A3 c3 A4 c4, cs = [.int .i64 x.f0.f0, .int .i64 x.f0.f1, .slice A2 x.f1.length c2, .slice A3 x.f2.length c3, .slice A4 x.f3.length c4, .bool x.f4] ∧ x.f1.length ≤ c2 ∧ (Kd.int .u64).C w A2 x.f1.length x.f1 ∧ x.f2.length ≤ c3 ∧ (Kd.int .u64).C w A3 x.f2.length x.f2 ∧ x.f3.length ≤ c4 ∧ (Kd.int .u64).C w A4 x.f3.length x.f3 := by
  obtain ⟨_, _, rfl, s0, ⟨_, _, rfl, ⟨A2, c2, rfl, l2, g2⟩, ⟨_, _, rfl, ⟨A3, c3, rfl, l3, g3⟩, ⟨_, _, rfl, ⟨A4, c4, rfl, l4, g4⟩, rfl⟩⟩⟩⟩ := h
  obtain rfl := k29_open s0
  exact ⟨A2, c2, A3, c3, A4, c4, rfl, l2, g2, l3, g3, l4, g4⟩
theorem k41_openM {w : World} {base : Nat} {ok : Nat → Prop} {x : S41} {cs : List Value} (h : k41.M w base ok x cs) : ∃ v2 v3 v4, cs = [.int .i64 x.f0.f0, .int .i64 x.f0.f1, v2, v3, v4, .bool x.f4] ∧ (Kd.int .u64).R 57 w base ok v2 x.f1 ∧ (Kd.int .u64).R 57 w base ok v3 x.f2 ∧ (Kd.int .u64).R 57 w base ok v4 x.f3 := by
  obtain ⟨_, _, rfl, s0, ⟨_, _, rfl, ⟨v2, rfl, g2⟩, ⟨_, _, rfl, ⟨v3, rfl, g3⟩, ⟨_, _, rfl, ⟨v4, rfl, g4⟩, rfl⟩⟩⟩⟩ := h
  obtain rfl := k29_openM s0
  exact ⟨v2, v3, v4, rfl, g2, g3, g4⟩
theorem k41_mk (w : World) (x : S41) {A2 : Option Addr} {c2 : Nat} (l2 : x.f1.length ≤ c2) (g2 : (Kd.int .u64).C w A2 x.f1.length x.f1) {A3 : Option Addr} {c3 : Nat} (l3 : x.f2.length ≤ c3) (g3 : (Kd.int .u64).C w A3 x.f2.length x.f2) {A4 : Option Addr} {c4 : Nat} (l4 : x.f3.length ≤ c4) (g4 : (Kd.int .u64).C w A4 x.f3.length x.f3) : k41.K w x [.int .i64 x.f0.f0, .int .i64 x.f0.f1, .slice A2 x.f1.length c2, .slice A3 x.f2.length c3, .slice A4 x.f3.length c4, .bool x.f4] := ⟨[.int .i64 x.f0.f0, .int .i64 x.f0.f1], [.slice A2 x.f1.length c2, .slice A3 x.f2.length c3, .slice A4 x.f3.length c4, .bool x.f4], rfl, (k29_mk w x.f0 ), ⟨[.slice A2 x.f1.length c2], [.slice A3 x.f2.length c3, .slice A4 x.f3.length c4, .bool x.f4], rfl, ⟨A2, c2, rfl, l2, g2⟩, ⟨[.slice A3 x.f2.length c3], [.slice A4 x.f3.length c4, .bool x.f4], rfl, ⟨A3, c3, rfl, l3, g3⟩, ⟨[.slice A4 x.f3.length c4], [.bool x.f4], rfl, ⟨A4, c4, rfl, l4, g4⟩, rfl⟩⟩⟩⟩
theorem k41_mkM (w : World) (base : Nat) (ok : Nat → Prop) (x : S41) {v2 : Value} (g2 : (Kd.int .u64).R 57 w base ok v2 x.f1) {v3 : Value} (g3 : (Kd.int .u64).R 57 w base ok v3 x.f2) {v4 : Value} (g4 : (Kd.int .u64).R 57 w base ok v4 x.f3) : k41.M w base ok x [.int .i64 x.f0.f0, .int .i64 x.f0.f1, v2, v3, v4, .bool x.f4] := ⟨[.int .i64 x.f0.f0, .int .i64 x.f0.f1], [v2, v3, v4, .bool x.f4], rfl, (k29_mkM w base ok x.f0 ), ⟨[v2], [v3, v4, .bool x.f4], rfl, ⟨v2, rfl, g2⟩, ⟨[v3], [v4, .bool x.f4], rfl, ⟨v3, rfl, g3⟩, ⟨[v4], [.bool x.f4], rfl, ⟨v4, rfl, g4⟩, rfl⟩⟩⟩⟩
theorem k41_openF {W : World} {ok : Nat → Prop} {x : S41} {cs : List Value} (h : Kd.FK k41 W ok x cs) : ∃ A2 c2 A3 c3 A4 c4, cs = [.int .i64 x.f0.f0, .int .i64 x.f0.f1, .slice A2 x.f1.length c2, .slice A3 x.f2.length c3, .slice A4 x.f3.length c4, .bool x.f4] ∧ x.f1.length ≤ c2 ∧ Kd.F (Kd.int .u64) W ok A2 x.f1.length x.f1 ∧ x.f2.length ≤ c3 ∧ Kd.F (Kd.int .u64) W ok A3 x.f2.length x.f2 ∧ x.f3.length ≤ c4 ∧ Kd.F (Kd.int .u64) W ok A4 x.f3.length x.f3 := by
  obtain ⟨A2, c2, A3, c3, A4, c4, rfl, l2, _, l3, _, l4, _⟩ := k41_open (Kd.FK_now h)
  exact ⟨A2, c2, A3, c3, A4, c4, rfl, l2, (fun W' hW => by obtain ⟨A2_, c2_, A3_, c3_, A4_, c4_, he, l2_, g2_, l3_, g3_, l4_, g4_⟩ := k41_open (h W' hW); injection (Option.some.inj (show some (Value.slice A2 x.f1.length c2) = some (Value.slice A2_ x.f1.length c2_) from congrArg (fun l => l[2]?) he)) with ha_ _ _; rw [ha_]; exact g2_), l3, (fun W' hW => by obtain ⟨A2_, c2_, A3_, c3_, A4_, c4_, he, l2_, g2_, l3_, g3_, l4_, g4_⟩ := k41_open (h W' hW); injection (Option.some.inj (show some (Value.slice A3 x.f2.length c3) = some (Value.slice A3_ x.f2.length c3_) from congrArg (fun l => l[3]?) he)) with ha_ _ _; rw [ha_]; exact g3_), l4, (fun W' hW => by obtain ⟨A2_, c2_, A3_, c3_, A4_, c4_, he, l2_, g2_, l3_, g3_, l4_, g4_⟩ := k41_open (h W' hW); injection (Option.some.inj (show some (Value.slice A4 x.f3.length c4) = some (Value.slice A4_ x.f3.length c4_) from congrArg (fun l => l[4]?) he)) with ha_ _ _; rw [ha_]; exact g4_)⟩
theorem k41_mkF (W : World) (ok : Nat → Prop) (x : S41) {A2 : Option Addr} {c2 : Nat} (l2 : x.f1.length ≤ c2) (g2 : Kd.F (Kd.int .u64) W ok A2 x.f1.length x.f1) {A3 : Option Addr} {c3 : Nat} (l3 : x.f2.length ≤ c3) (g3 : Kd.F (Kd.int .u64) W ok A3 x.f2.length x.f2) {A4 : Option Addr} {c4 : Nat} (l4 : x.f3.length ≤ c4) (g4 : Kd.F (Kd.int .u64) W ok A4 x.f3.length x.f3) : Kd.FK k41 W ok x [.int .i64 x.f0.f0, .int .i64 x.f0.f1, .slice A2 x.f1.length c2, .slice A3 x.f2.length c3, .slice A4 x.f3.length c4, .bool x.f4] := fun W2 hW => k41_mk W2 x l2 (g2 W2 hW) l3 (g3 W2 hW) l4 (g4 W2 hW)
def rd_T41 (xs : List S41) (i : Int) : S41 := xs.getD i.toNat z41
theorem at_T41 {w : World} {A : Option Addr} {n : Nat} {xs : List S41} (h : Kd.C k41 w A n xs) (i : Int) (h0 : 0 ≤ i) (h1 : i < n) : ∃ ad A2 c2 A3 c3 A4 c4, A = some ad ∧ w.cell? (ad.add (i.toNat * 6)) = some (.int .i64 (rd_T41 xs i).f0.f0) ∧ w.cell? ⟨(ad.add (i.toNat * 6)).block, (ad.add (i.toNat * 6)).off + 1, none⟩ = some (.int .i64 (rd_T41 xs i).f0.f1) ∧ w.cell? ⟨(ad.add (i.toNat * 6)).block, (ad.add (i.toNat * 6)).off + 2, none⟩ = some (.slice A2 (rd_T41 xs i).f1.length c2) ∧ w.cell? ⟨(ad.add (i.toNat * 6)).block, (ad.add (i.toNat * 6)).off + 3, none⟩ = some (.slice A3 (rd_T41 xs i).f2.length c3) ∧ w.cell? ⟨(ad.add (i.toNat * 6)).block, (ad.add (i.toNat * 6)).off + 4, none⟩ = some (.slice A4 (rd_T41 xs i).f3.length c4) ∧ w.cell? ⟨(ad.add (i.toNat * 6)).block, (ad.add (i.toNat * 6)).off + 5, none⟩ = some (.bool (rd_T41 xs i).f4) ∧ (rd_T41 xs i).f1.length ≤ c2 ∧ (Kd.int .u64).C w A2 (rd_T41 xs i).f1.length (rd_T41 xs i).f1 ∧ (rd_T41 xs i).f2.length ≤ c3 ∧ (Kd.int .u64).C w A3 (rd_T41 xs i).f2.length (rd_T41 xs i).f2 ∧ (rd_T41 xs i).f3.length ≤ c4 ∧ (Kd.int .u64).C w A4 (rd_T41 xs i).f3.length (rd_T41 xs i).f3 := by
  obtain ⟨ad, c, e, _, hK, hc0⟩ := Kd.C_get h z41 i h0 h1
  have hc : ∀ j u, c[j]? = some u → w.cell? (ad.add (i.toNat * 6 + j)) = some u := hc0
  obtain ⟨A2, c2, A3, c3, A4, c4, rfl, l2, g2, l3, g3, l4, g4⟩ := k41_open hK
  exact ⟨ad, A2, c2, A3, c3, A4, c4, e, hc 0 _ rfl, by rw [← add_field _ _ 1 (by omega)]; exact hc 1 _ rfl, by rw [← add_field _ _ 2 (by omega)]; exact hc 2 _ rfl, by rw [← add_field _ _ 3 (by omega)]; exact hc 3 _ rfl, by rw [← add_field _ _ 4 (by omega)]; exact hc 4 _ rfl, by rw [← add_field _ _ 5 (by omega)]; exact hc 5 _ rfl, l2, g2, l3, g3, l4, g4⟩

structure S23 where
  f0 : Int
  f1 : Int
  f2 : Int
def z23 : S23 := ⟨(0 : Int), (0 : Int), (0 : Int)⟩
def k23 : Kd S23 := Kd.iso (Kd.pair (Kd.int .i64) (Kd.pair (Kd.int .i64) (Kd.int .i64))) (fun x : S23 => (x.f0, x.f1, x.f2))
theorem k23_heap : Kd.Heap k23 := Kd.heap_iso _ (Kd.heap_pair (Kd.heap_int .i64) (Kd.heap_pair (Kd.heap_int .i64) (Kd.heap_int .i64)))
theorem k23_open {w : World} {x : S23} {cs : List Value} (h : k23.K w x cs) : cs = [.int .i64 x.f0, .int .i64 x.f1, .int .i64 x.f2] := by
  obtain ⟨_, _, rfl, rfl, ⟨_, _, rfl, rfl, rfl⟩⟩ := h
  exact rfl
theorem k23_openM {w : World} {base : Nat} {ok : Nat → Prop} {x : S23} {cs : List Value} (h : k23.M w base ok x cs) : cs = [.int .i64 x.f0, .int .i64 x.f1, .int .i64 x.f2] := by
  obtain ⟨_, _, rfl, rfl, ⟨_, _, rfl, rfl, rfl⟩⟩ := h
  exact rfl
theorem k23_mk (w : World) (x : S23)  : k23.K w x [.int .i64 x.f0, .int .i64 x.f1, .int .i64 x.f2] := ⟨[.int .i64 x.f0], [.int .i64 x.f1, .int .i64 x.f2], rfl, rfl, ⟨[.int .i64 x.f1], [.int .i64 x.f2], rfl, rfl, rfl⟩⟩
theorem k23_mkM (w : World) (base : Nat) (ok : Nat → Prop) (x : S23)  : k23.M w base ok x [.int .i64 x.f0, .int .i64 x.f1, .int .i64 x.f2] := ⟨[.int .i64 x.f0], [.int .i64 x.f1, .int .i64 x.f2], rfl, rfl, ⟨[.int .i64 x.f1], [.int .i64 x.f2], rfl, rfl, rfl⟩⟩
theorem k23_mkF (W : World) (ok : Nat → Prop) (x : S23) : Kd.FK k23 W ok x [.int .i64 x.f0, .int .i64 x.f1, .int .i64 x.f2] := fun W2 _ => k23_mk W2 x
def rd_T23 (xs : List S23) (i : Int) : S23 := xs.getD i.toNat z23
theorem at_T23 {w : World} {A : Option Addr} {n : Nat} {xs : List S23} (h : Kd.C k23 w A n xs) (i : Int) (h0 : 0 ≤ i) (h1 : i < n) : ∃ ad , A = some ad ∧ w.cell? (ad.add (i.toNat * 3)) = some (.int .i64 (rd_T23 xs i).f0) ∧ w.cell? ⟨(ad.add (i.toNat * 3)).block, (ad.add (i.toNat * 3)).off + 1, none⟩ = some (.int .i64 (rd_T23 xs i).f1) ∧ w.cell? ⟨(ad.add (i.toNat * 3)).block, (ad.add (i.toNat * 3)).off + 2, none⟩ = some (.int .i64 (rd_T23 xs i).f2) := by
  obtain ⟨ad, c, e, _, hK, hc0⟩ := Kd.C_get h z23 i h0 h1
  have hc : ∀ j u, c[j]? = some u → w.cell? (ad.add (i.toNat * 3 + j)) = some u := hc0
  obtain rfl := k23_open hK
  exact ⟨ad, e, hc 0 _ rfl, by rw [← add_field _ _ 1 (by omega)]; exact hc 1 _ rfl, by rw [← add_field _ _ 2 (by omega)]; exact hc 2 _ rfl⟩

def rd_L8 (xs : List (List S41)) (i : Int) : (List S41) := xs.getD i.toNat ([] : List S41)
theorem at_L8 {w : World} {A : Option Addr} {n : Nat} {xs : List (List S41)} (h : Kd.C (Kd.slice 41 k41) w A n xs) (i : Int) (h0 : 0 ≤ i) (h1 : i < n) : ∃ ad A0 c0, A = some ad ∧ w.cell? (ad.add i.toNat) = some (.slice A0 (rd_L8 xs i).length c0) ∧ (rd_L8 xs i).length ≤ c0 ∧ k41.C w A0 (rd_L8 xs i).length (rd_L8 xs i) := by
  obtain ⟨ad, c, e, _, hK, hc0⟩ := Kd.C_get h ([] : List S41) i h0 h1
  have hc : ∀ j u, c[j]? = some u → w.cell? (ad.add (i.toNat * 1 + j)) = some u := hc0
  obtain ⟨A0, c0, rfl, l0, g0⟩ := hK
  exact ⟨ad, A0, c0, e, by have hq := hc 0 _ rfl; rwa [Nat.mul_one, Nat.add_zero] at hq, l0, g0⟩

structure S55 where
  f0 : ByteArray
  f1 : ByteArray
  f2 : ByteArray
def z55 : S55 := ⟨(⟨#[]⟩ : ByteArray), (⟨#[]⟩ : ByteArray), (⟨#[]⟩ : ByteArray)⟩
def k55 : Kd S55 := Kd.iso (Kd.pair Kd.string (Kd.pair Kd.string Kd.string)) (fun x : S55 => (x.f0, x.f1, x.f2))
theorem k55_heap : Kd.Heap k55 := Kd.heap_iso _ (Kd.heap_pair Kd.heap_string (Kd.heap_pair Kd.heap_string Kd.heap_string))
theorem k55_open {w : World} {x : S55} {cs : List Value} (h : k55.K w x cs) : cs = [.string x.f0, .string x.f1, .string x.f2] := by
  obtain ⟨_, _, rfl, rfl, ⟨_, _, rfl, rfl, rfl⟩⟩ := h
  exact rfl
theorem k55_openM {w : World} {base : Nat} {ok : Nat → Prop} {x : S55} {cs : List Value} (h : k55.M w base ok x cs) : cs = [.string x.f0, .string x.f1, .string x.f2] := by
  obtain ⟨_, _, rfl, rfl, ⟨_, _, rfl, rfl, rfl⟩⟩ := h
  exact rfl
theorem k55_mk (w : World) (x : S55)  : k55.K w x [.string x.f0, .string x.f1, .string x.f2] := ⟨[.string x.f0], [.string x.f1, .string x.f2], rfl, rfl, ⟨[.string x.f1], [.string x.f2], rfl, rfl, rfl⟩⟩
theorem k55_mkM (w : World) (base : Nat) (ok : Nat → Prop) (x : S55)  : k55.M w base ok x [.string x.f0, .string x.f1, .string x.f2] := ⟨[.string x.f0], [.string x.f1, .string x.f2], rfl, rfl, ⟨[.string x.f1], [.string x.f2], rfl, rfl, rfl⟩⟩
theorem k55_mkF (W : World) (ok : Nat → Prop) (x : S55) : Kd.FK k55 W ok x [.string x.f0, .string x.f1, .string x.f2] := fun W2 _ => k55_mk W2 x
def rd_T55 (xs : List S55) (i : Int) : S55 := xs.getD i.toNat z55
theorem at_T55 {w : World} {A : Option Addr} {n : Nat} {xs : List S55} (h : Kd.C k55 w A n xs) (i : Int) (h0 : 0 ≤ i) (h1 : i < n) : ∃ ad , A = some ad ∧ w.cell? (ad.add (i.toNat * 3)) = some (.string (rd_T55 xs i).f0) ∧ w.cell? ⟨(ad.add (i.toNat * 3)).block, (ad.add (i.toNat * 3)).off + 1, none⟩ = some (.string (rd_T55 xs i).f1) ∧ w.cell? ⟨(ad.add (i.toNat * 3)).block, (ad.add (i.toNat * 3)).off + 2, none⟩ = some (.string (rd_T55 xs i).f2) := by
  obtain ⟨ad, c, e, _, hK, hc0⟩ := Kd.C_get h z55 i h0 h1
  have hc : ∀ j u, c[j]? = some u → w.cell? (ad.add (i.toNat * 3 + j)) = some u := hc0
  obtain rfl := k55_open hK
  exact ⟨ad, e, hc 0 _ rfl, by rw [← add_field _ _ 1 (by omega)]; exact hc 1 _ rfl, by rw [← add_field _ _ 2 (by omega)]; exact hc 2 _ rfl⟩

def rd_L11 (xs : List (List S55)) (i : Int) : (List S55) := xs.getD i.toNat ([] : List S55)
theorem at_L11 {w : World} {A : Option Addr} {n : Nat} {xs : List (List S55)} (h : Kd.C (Kd.slice 55 k55) w A n xs) (i : Int) (h0 : 0 ≤ i) (h1 : i < n) : ∃ ad A0 c0, A = some ad ∧ w.cell? (ad.add i.toNat) = some (.slice A0 (rd_L11 xs i).length c0) ∧ (rd_L11 xs i).length ≤ c0 ∧ k55.C w A0 (rd_L11 xs i).length (rd_L11 xs i) := by
  obtain ⟨ad, c, e, _, hK, hc0⟩ := Kd.C_get h ([] : List S55) i h0 h1
  have hc : ∀ j u, c[j]? = some u → w.cell? (ad.add (i.toNat * 1 + j)) = some u := hc0
  obtain ⟨A0, c0, rfl, l0, g0⟩ := hK
  exact ⟨ad, A0, c0, e, by have hq := hc 0 _ rfl; rwa [Nat.mul_one, Nat.add_zero] at hq, l0, g0⟩

structure S46 where
  f0 : Int
  f1 : (List S55)
def z46 : S46 := ⟨(0 : Int), ([] : List S55)⟩
def k46 : Kd S46 := Kd.iso (Kd.pair (Kd.int .i64) (Kd.slice 55 k55)) (fun x : S46 => (x.f0, x.f1))
theorem k46_heap : Kd.Heap k46 := Kd.heap_iso _ (Kd.heap_pair (Kd.heap_int .i64) (Kd.heap_slice 55 k55_heap))
theorem k46_open {w : World} {x : S46} {cs : List Value} (h : k46.K w x cs) : ∃ A1 c1, cs = [.int .i64 x.f0, .slice A1 x.f1.length c1] ∧ x.f1.length ≤ c1 ∧ k55.C w A1 x.f1.length x.f1 := by
  obtain ⟨_, _, rfl, rfl, ⟨A1, c1, rfl, l1, g1⟩⟩ := h
  exact ⟨A1, c1, rfl, l1, g1⟩
theorem k46_openM {w : World} {base : Nat} {ok : Nat → Prop} {x : S46} {cs : List Value} (h : k46.M w base ok x cs) : ∃ v1, cs = [.int .i64 x.f0, v1] ∧ k55.R 55 w base ok v1 x.f1 := by
  obtain ⟨_, _, rfl, rfl, ⟨v1, rfl, g1⟩⟩ := h
  exact ⟨v1, rfl, g1⟩
theorem k46_mk (w : World) (x : S46) {A1 : Option Addr} {c1 : Nat} (l1 : x.f1.length ≤ c1) (g1 : k55.C w A1 x.f1.length x.f1) : k46.K w x [.int .i64 x.f0, .slice A1 x.f1.length c1] := ⟨[.int .i64 x.f0], [.slice A1 x.f1.length c1], rfl, rfl, ⟨A1, c1, rfl, l1, g1⟩⟩
theorem k46_mkM (w : World) (base : Nat) (ok : Nat → Prop) (x : S46) {v1 : Value} (g1 : k55.R 55 w base ok v1 x.f1) : k46.M w base ok x [.int .i64 x.f0, v1] := ⟨[.int .i64 x.f0], [v1], rfl, rfl, ⟨v1, rfl, g1⟩⟩
theorem k46_openF {W : World} {ok : Nat → Prop} {x : S46} {cs : List Value} (h : Kd.FK k46 W ok x cs) : ∃ A1 c1, cs = [.int .i64 x.f0, .slice A1 x.f1.length c1] ∧ x.f1.length ≤ c1 ∧ Kd.F k55 W ok A1 x.f1.length x.f1 := by
  obtain ⟨A1, c1, rfl, l1, _⟩ := k46_open (Kd.FK_now h)
  exact ⟨A1, c1, rfl, l1, (fun W' hW => by obtain ⟨A1_, c1_, he, l1_, g1_⟩ := k46_open (h W' hW); injection (Option.some.inj (show some (Value.slice A1 x.f1.length c1) = some (Value.slice A1_ x.f1.length c1_) from congrArg (fun l => l[1]?) he)) with ha_ _ _; rw [ha_]; exact g1_)⟩
theorem k46_mkF (W : World) (ok : Nat → Prop) (x : S46) {A1 : Option Addr} {c1 : Nat} (l1 : x.f1.length ≤ c1) (g1 : Kd.F k55 W ok A1 x.f1.length x.f1) : Kd.FK k46 W ok x [.int .i64 x.f0, .slice A1 x.f1.length c1] := fun W2 hW => k46_mk W2 x l1 (g1 W2 hW)
def rd_T46 (xs : List S46) (i : Int) : S46 := xs.getD i.toNat z46
theorem at_T46 {w : World} {A : Option Addr} {n : Nat} {xs : List S46} (h : Kd.C k46 w A n xs) (i : Int) (h0 : 0 ≤ i) (h1 : i < n) : ∃ ad A1 c1, A = some ad ∧ w.cell? (ad.add (i.toNat * 2)) = some (.int .i64 (rd_T46 xs i).f0) ∧ w.cell? ⟨(ad.add (i.toNat * 2)).block, (ad.add (i.toNat * 2)).off + 1, none⟩ = some (.slice A1 (rd_T46 xs i).f1.length c1) ∧ (rd_T46 xs i).f1.length ≤ c1 ∧ k55.C w A1 (rd_T46 xs i).f1.length (rd_T46 xs i).f1 := by
  obtain ⟨ad, c, e, _, hK, hc0⟩ := Kd.C_get h z46 i h0 h1
  have hc : ∀ j u, c[j]? = some u → w.cell? (ad.add (i.toNat * 2 + j)) = some u := hc0
  obtain ⟨A1, c1, rfl, l1, g1⟩ := k46_open hK
  exact ⟨ad, A1, c1, e, hc 0 _ rfl, by rw [← add_field _ _ 1 (by omega)]; exact hc 1 _ rfl, l1, g1⟩

def rd_L14 (xs : List (List ByteArray)) (i : Int) : (List ByteArray) := xs.getD i.toNat ([] : List ByteArray)
theorem at_L14 {w : World} {A : Option Addr} {n : Nat} {xs : List (List ByteArray)} (h : Kd.C (Kd.slice 9 Kd.string) w A n xs) (i : Int) (h0 : 0 ≤ i) (h1 : i < n) : ∃ ad A0 c0, A = some ad ∧ w.cell? (ad.add i.toNat) = some (.slice A0 (rd_L14 xs i).length c0) ∧ (rd_L14 xs i).length ≤ c0 ∧ Kd.string.C w A0 (rd_L14 xs i).length (rd_L14 xs i) := by
  obtain ⟨ad, c, e, _, hK, hc0⟩ := Kd.C_get h ([] : List ByteArray) i h0 h1
  have hc : ∀ j u, c[j]? = some u → w.cell? (ad.add (i.toNat * 1 + j)) = some u := hc0
  obtain ⟨A0, c0, rfl, l0, g0⟩ := hK
  exact ⟨ad, A0, c0, e, by have hq := hc 0 _ rfl; rwa [Nat.mul_one, Nat.add_zero] at hq, l0, g0⟩

end Go.Proofs.Ytbpobnlkfpjijaa.Pr
end
-- Oq
section
namespace Go.Proofs.Ytbpobnlkfpjijaa.Pr
open Go.RowKit Go.Proofs.YtbpobnlkfpjijaaW.PrintWords Go.Proofs.YtbpobnlkfpjijaaW.PrintLast Go.Proofs.YtbpobnlkfpjijaaW.PrintMore
set_option linter.unusedVariables false
set_option linter.unusedSimpArgs false
def Opens (P : Program) (t : TypeId) {α : Type} (d : Kd α) (G : α → Prop) : Prop :=
  ∀ (H : Type) (enc : TypeId × Value → H) (w : World) (fuel : Nat) (cs : List Value) (x : DataW H × List MemPlace), DataW.trod enc P w 0 (fun _ => true) true fuel t cs = some x → (∀ n ∈ x.1.weights P t, n ≤ 140737488351232) → ∃ y, d.K w y cs ∧ G y
theorem opens_string {P : Program} {t : TypeId} (ht : P.underlying t = some .string) : Opens P t Kd.string (fun s => s.size ≤ 140737488351232) := by
  intro H enc w fuel cs x h hw
  obtain ⟨s, rfl, rfl, _⟩ := DataW.trod_string ht h
  refine ⟨s, rfl, ?_⟩
  have := hw s.data.toList.length (by simp [DataW.weights])
  show s.size ≤ 140737488351232
  rw [Lib.size_eq]
  exact this
theorem opens_int {P : Program} {t : TypeId} {k : IntKind} (ht : P.underlying t = some (.int k)) : Opens P t (Kd.int k) (fun n => (Lit.int k n).wf = true) := by
  intro H enc w fuel cs x h _
  obtain ⟨n, rfl, rfl, hw⟩ := DataW.trod_int ht h
  exact ⟨n, rfl, hw⟩
theorem weightsAll_mem {H : Type} {P : Program} {e : TypeId} {d : DataW H} : ∀ {l : List (DataW H)}, d ∈ l → ∀ n ∈ d.weights P e, n ∈ DataW.weightsAll P e l
  | x :: l, h, n, hn => by
    simp only [DataW.weightsAll, List.mem_append]
    rcases List.mem_cons.1 h with rfl | h
    · exact .inl hn
    · exact .inr (weightsAll_mem h n hn)
theorem opens_slice {P : Program} {t e : TypeId} {α : Type} {d : Kd α} {G : α → Prop} (ht : P.underlying t = some (.slice e)) (hd : Opens P e d G) (hc : d.sz = P.cellsOf e) :
    Opens P t (Kd.slice e d) (fun l => l.length * P.bytesOf e ≤ 140737488351232 ∧ ∀ y ∈ l, G y) := by
  intro H enc w fuel cs x h hw
  rcases DataW.trod_slice ht h with ⟨rfl, rfl⟩ | ⟨a, len, cap, elems, rest, n, _, rfl, rfl, hb, hl, hm, hlen, hel, _, _⟩
  · exact ⟨[], ⟨none, 0, rfl, Nat.le_refl _, Kd.C_nil _ _⟩, by simp, by simp⟩
  · have hw1 : ∀ n ∈ (DataW.slice (elems.map (·.1)) (rest.map (·.1))).weights P t, n ≤ 140737488351232 := hw
    simp only [DataW.weights, ht, List.mem_cons, List.mem_append, List.length_map] at hw1
    have hel2 : ∀ i (hi : i < elems.length), ∃ y, ∃ c, w.cells? 0 (a.add (i * P.cellsOf e)) (P.cellsOf e) = some c ∧ d.K w y c ∧ G y := by
      intro i hi
      have := hel i (by omega)
      rw [List.getElem?_eq_getElem hi, Option.bind_eq_some_iff] at this
      obtain ⟨c, hc1, hc2⟩ := this
      obtain ⟨y, hy, hg⟩ := hd H enc w n c _ hc2 (fun m hm => hw1 m (.inr (.inl (weightsAll_mem (List.mem_map_of_mem (List.getElem_mem hi)) m hm))))
      exact ⟨y, c, hc1, hy, hg⟩
    let f : Fin elems.length → α := fun i => Classical.choose (hel2 i.1 i.2)
    have hf : ∀ i : Fin elems.length, ∃ c, w.cells? 0 (a.add (i.1 * P.cellsOf e)) (P.cellsOf e) = some c ∧ d.K w (f i) c ∧ G (f i) := fun i => Classical.choose_spec (hel2 i.1 i.2)
    have hfl : (List.ofFn f).length = elems.length := List.length_ofFn
    refine ⟨List.ofFn f, ⟨some a, cap, by rw [hfl, hlen], by omega, by omega, ?_, fun _ => ⟨a, rfl, ?_⟩⟩, ?_, ?_⟩
    · have : maxLen ≤ 9223372036854775807 := by unfold maxLen; omega
      omega
    · intro j p hp
      obtain ⟨hj, hp⟩ := List.getElem?_eq_some_iff.1 hp
      rw [List.getElem_ofFn] at hp
      obtain ⟨c, hc1, hK, _⟩ := hf ⟨j, by omega⟩
      rw [hp] at hK
      obtain ⟨_, hcl, hcell⟩ := World.cells?_some hc1
      refine ⟨c, by omega, hK, fun i u hu => ?_⟩
      have hi := (List.getElem?_eq_some_iff.1 hu).1
      rw [hc, ← Addr.add_add, hcell i (by omega)]
      exact hu
    · have := hw1 _ (.inl rfl)
      rw [hfl]
      exact Nat.le_trans (Nat.mul_le_mul_right _ (by omega)) this
    · intro y hy
      obtain ⟨j, hj, hy⟩ := List.getElem_of_mem hy
      rw [List.getElem_ofFn] at hy
      obtain ⟨c, _, _, hG⟩ := hf ⟨j, by omega⟩
      rw [hy] at hG
      exact hG
theorem cells9 : Try.prog.cellsOf 9 = 1 := by kernel_rfl
theorem cells3 : Try.prog.cellsOf 3 = 1 := by kernel_rfl
theorem cells44 : Try.prog.cellsOf 44 = 1 := by kernel_rfl
theorem cells39 : Try.prog.cellsOf 39 = 1 := by kernel_rfl
theorem cells46 : Try.prog.cellsOf 46 = 2 := by kernel_rfl
theorem cells53 : Try.prog.cellsOf 53 = 5 := by kernel_rfl
theorem cells55 : Try.prog.cellsOf 55 = 3 := by kernel_rfl
theorem cells57 : Try.prog.cellsOf 57 = 1 := by kernel_rfl
theorem bytes55 : Try.prog.bytesOf 55 = 48 := by kernel_rfl
theorem bytes57 : Try.prog.bytesOf 57 = 8 := by kernel_rfl
end Go.Proofs.Ytbpobnlkfpjijaa.Pr
end
-- Or
section
namespace Go.Proofs.Ytbpobnlkfpjijaa.Pr
open Go.RowKit Go.Proofs.YtbpobnlkfpjijaaW.PrintWords Go.Proofs.YtbpobnlkfpjijaaW.PrintLast Go.Proofs.YtbpobnlkfpjijaaW.PrintMore
set_option linter.unusedVariables false
set_option linter.unusedSimpArgs false
theorem cells29 : Try.prog.cellsOf 29 = 2 := by kernel_rfl
theorem cells41 : Try.prog.cellsOf 41 = 6 := by kernel_rfl
theorem cells4 : Try.prog.cellsOf 4 = 1 := by kernel_rfl
theorem cells35 : Try.prog.cellsOf 35 = 1 := by kernel_rfl
theorem opens39 : Opens Try.prog 39 (Kd.slice 57 (Kd.int .u64)) (fun l => l.length * 8 ≤ 140737488351232 ∧ ∀ n ∈ l, (Lit.int .u64 n).wf = true) := by
  have := opens_slice Try.underlying39 (opens_int Try.underlying57) (by rw [cells57]; rfl)
  rw [bytes57] at this
  exact this
theorem opens29 : Opens Try.prog 29 k29 (fun _ => True) := by
  intro H enc w fuel cs x h hw
  obtain ⟨xs, n, rfl, rfl, hl, hxs, hf⟩ := DataW.trod_struct Try.underlying29 h
  rw [cells29] at hl
  obtain ⟨c0, c1, rfl⟩ : ∃ c0 c1, cs = [c0, c1] := by
    rcases cs with _ | ⟨c0, _ | ⟨c1, _ | ⟨cz, cs⟩⟩⟩ <;> simp at hl
    exact ⟨_, _, rfl⟩
  obtain ⟨x0, x1, rfl⟩ : ∃ x0 x1, xs = [x0, x1] := by
    rcases xs with _ | ⟨c0, _ | ⟨c1, _ | ⟨cz, cs⟩⟩⟩ <;> simp at hxs
    exact ⟨_, _, rfl⟩
  have h0 : DataW.trod enc Try.prog w 0 (fun _ => true) true n 3 ((List.drop 0 [c0, c1]).take (Try.prog.cellsOf 3)) = some x0 := hf 0 _ rfl
  rw [cells3] at h0
  simp only [List.drop_zero, List.drop_succ_cons, List.take_succ_cons, List.take_zero] at h0
  have h1 : DataW.trod enc Try.prog w 0 (fun _ => true) true n 3 ((List.drop 1 [c0, c1]).take (Try.prog.cellsOf 3)) = some x1 := hf 1 _ rfl
  rw [cells3] at h1
  simp only [List.drop_zero, List.drop_succ_cons, List.take_succ_cons, List.take_zero] at h1
  obtain ⟨a, rfl, _, _⟩ : ∃ n, c0 = .int .i64 n ∧ True ∧ True := by
    obtain ⟨n, e, _, _⟩ := DataW.trod_int Try.underlying3 h0
    exact ⟨n, by injection e, trivial, trivial⟩
  obtain ⟨b, rfl, _, _⟩ : ∃ n, c1 = .int .i64 n ∧ True ∧ True := by
    obtain ⟨n, e, _, _⟩ := DataW.trod_int Try.underlying3 h1
    exact ⟨n, by injection e, trivial, trivial⟩
  exact ⟨⟨a, b⟩, k29_mk w ⟨a, b⟩, trivial⟩
theorem opens_bool {P : Program} {t : TypeId} (ht : P.underlying t = some .bool) : Opens P t Kd.bool (fun _ => True) := by
  intro H enc w fuel cs x h _
  obtain ⟨b, rfl, _⟩ := DataW.trod_bool ht h
  exact ⟨b, rfl, trivial⟩
theorem opens41 : Opens Try.prog 41 k41 (fun _ => True) := by
  intro H enc w fuel cs x h hw
  obtain ⟨xs, n, rfl, rfl, hl, hxs, hf⟩ := DataW.trod_struct Try.underlying41 h
  rw [cells41] at hl
  obtain ⟨c0, c1, c2, c3, c4, c5, rfl⟩ : ∃ c0 c1 c2 c3 c4 c5, cs = [c0, c1, c2, c3, c4, c5] := by
    rcases cs with _ | ⟨c0, _ | ⟨c1, _ | ⟨c2, _ | ⟨c3, _ | ⟨c4, _ | ⟨c5, _ | ⟨cz, cs⟩⟩⟩⟩⟩⟩⟩ <;> simp at hl
    exact ⟨_, _, _, _, _, _, rfl⟩
  obtain ⟨x0, x1, x2, x3, x4, rfl⟩ : ∃ x0 x1 x2 x3 x4, xs = [x0, x1, x2, x3, x4] := by
    rcases xs with _ | ⟨x0, _ | ⟨x1, _ | ⟨x2, _ | ⟨x3, _ | ⟨x4, _ | ⟨cz, xs⟩⟩⟩⟩⟩⟩ <;> simp at hxs
    exact ⟨_, _, _, _, _, rfl⟩
  have h0 : DataW.trod enc Try.prog w 0 (fun _ => true) true n 29 ((List.drop 0 [c0, c1, c2, c3, c4, c5]).take (Try.prog.cellsOf 29)) = some x0 := hf 0 _ rfl
  have h1 : DataW.trod enc Try.prog w 0 (fun _ => true) true n 39 ((List.drop 2 [c0, c1, c2, c3, c4, c5]).take (Try.prog.cellsOf 39)) = some x1 := hf 1 _ rfl
  have h2 : DataW.trod enc Try.prog w 0 (fun _ => true) true n 39 ((List.drop 3 [c0, c1, c2, c3, c4, c5]).take (Try.prog.cellsOf 39)) = some x2 := hf 2 _ rfl
  have h3 : DataW.trod enc Try.prog w 0 (fun _ => true) true n 39 ((List.drop 4 [c0, c1, c2, c3, c4, c5]).take (Try.prog.cellsOf 39)) = some x3 := hf 3 _ rfl
  have h4 : DataW.trod enc Try.prog w 0 (fun _ => true) true n 4 ((List.drop 5 [c0, c1, c2, c3, c4, c5]).take (Try.prog.cellsOf 4)) = some x4 := hf 4 _ rfl
  rw [cells29] at h0
  rw [cells39] at h1 h2 h3
  rw [cells4] at h4
  simp only [List.drop_zero, List.drop_succ_cons, List.take_succ_cons, List.take_zero] at h0 h1 h2 h3 h4
  have hw1 : ∀ n ∈ (DataW.agg [x0.1, x1.1, x2.1, x3.1, x4.1]).weights Try.prog 41, n ≤ 140737488351232 := hw
  simp only [DataW.weights, Try.underlying41, DataW.weightsEach, List.map_cons, List.map_nil, List.mem_append] at hw1
  obtain ⟨s0, e0, _⟩ := opens29 H enc w n _ _ h0 (fun m hm => hw1 m (.inl hm))
  obtain ⟨s1, ⟨A1, q1, z1, l1, m1⟩, _⟩ := opens39 H enc w n _ _ h1 (fun m hm => hw1 m (.inr (.inl hm)))
  obtain ⟨s2, ⟨A2, q2, z2, l2, m2⟩, _⟩ := opens39 H enc w n _ _ h2 (fun m hm => hw1 m (.inr (.inr (.inl hm))))
  obtain ⟨s3, ⟨A3, q3, z3, l3, m3⟩, _⟩ := opens39 H enc w n _ _ h3 (fun m hm => hw1 m (.inr (.inr (.inr (.inl hm)))))
  obtain ⟨s4, e4, _⟩ := opens_bool Try.underlying4 H enc w n _ _ h4 (fun m hm => hw1 m (.inr (.inr (.inr (.inr (.inl hm))))))
  have e0 := k29_open e0
  cases e0; cases z1; cases z2; cases z3; cases e4
  exact ⟨⟨s0, s1, s2, s3, s4⟩, k41_mk w ⟨s0, s1, s2, s3, s4⟩ l1 m1 l2 m2 l3 m3, trivial⟩
theorem opens35 : Opens Try.prog 35 (Kd.slice 41 k41) (fun l => l.length * 96 ≤ 140737488351232 ∧ ∀ z ∈ l, True) := by
  have := opens_slice Try.underlying35 opens41 (by rw [cells41]; rfl)
  rw [show Try.prog.bytesOf 41 = 96 by kernel_rfl] at this
  exact this
end Go.Proofs.Ytbpobnlkfpjijaa.Pr
end
-- Ex
section
namespace Go.Proofs.Ytbpobnlkfpjijaa.Pr
open Go.RowKit Go.Proofs.YtbpobnlkfpjijaaW.PrintWords Go.Proofs.YtbpobnlkfpjijaaW.PrintLast Go.Proofs.YtbpobnlkfpjijaaW.PrintMore
/-- W', with nothing but blocks laid and draws made behind W. -/
inductive Ex (W : World) : World → Prop
  | refl : Ex W W
  | alloc {W' : World} (o : Obj) : Ex W W' → Ex W (W'.alloc o)
  | drew {W' : World} : Ex W W' → Ex W W'.drew
  | drewN {W' : World} (n : Nat) : Ex W W' → Ex W (W'.drewN n)
class ExC (W W' : World) : Prop where
  ex : Ex W W'
instance exc_refl (W : World) : ExC W W := ⟨.refl⟩
instance exc_alloc (W W' : World) (o : Obj) [h : ExC W W'] : ExC W (W'.alloc o) := ⟨.alloc o h.ex⟩
instance exc_drew (W W' : World) [h : ExC W W'] : ExC W W'.drew := ⟨.drew h.ex⟩
instance exc_drewN (W W' : World) (n : Nat) [h : ExC W W'] : ExC W (W'.drewN n) := ⟨.drewN n h.ex⟩
/-- A fact that is kept aside (and found by its words). -/
class AsC (p : Prop) : Prop where mk :: (out : p)
theorem A_ {p : Prop} (h : p) : AsC p := ⟨h⟩
class BlC (w W : World) : Prop where
  bl : Below w.heap.size w W
instance blc_of (w W : World) [h : AsC (Below w.heap.size w W)] : BlC w W := ⟨h.out⟩
instance blc_alloc (w W : World) (o : Obj) [h : BlC w W] : BlC w (W.alloc o) := ⟨below_alloc h.bl o⟩
instance blc_drew (w W : World) [h : BlC w W] : BlC w W.drew := ⟨below_drew1 h.bl⟩
instance blc_drewN (w W : World) (n : Nat) [h : BlC w W] : BlC w (W.drewN n) := ⟨pw_below_drewN h.bl n⟩
instance blc_set (w W : World) (g j : Nat) (v : Value) [h : BlC w W] [hg : AsC (w.heap.size ≤ g)] : BlC w (W.setCell ⟨g, j, none⟩ v) := ⟨below_set h.bl hg.out⟩
theorem hB_ (w : World) {W : World} [h : BlC w W] : Below w.heap.size w W := h.bl
theorem ex_ind {C : World → Prop} {W W' : World} (hA : ∀ V o, C V → C (V.alloc o)) (hD : ∀ V, C V → C V.drew) (hN : ∀ V n, C V → C (V.drewN n)) (h : C W) [hx : ExC W W'] : C W' := by
  have hx := hx.ex
  induction hx with
  | refl => exact h
  | alloc o _ ih => exact hA _ o ih
  | drew _ ih => exact hD _ ih
  | drewN n _ ih => exact hN _ n ih
section
variable {α : Type} {d : Kd α} {e base g : Nat} {ok : Nat → Prop} {W W' w : World} {v : Value} {xs : List α} {o : Obj}
theorem b_ (h : AsC (W.heap[g]? = some o)) [ExC W W'] : W'.heap[g]? = some o := ex_ind (C := fun V => V.heap[g]? = some o) (fun _ o' h => blk_alloc h o') (fun _ h => h) (fun _ _ h => h) h.out
theorem v_ (h : AsC (Kd.V d e W base ok v xs)) [ExC W W'] : Kd.V d e W' base ok v xs := ex_ind (C := fun V => Kd.V d e V base ok v xs) (fun _ o' h => Kd.V_alloc h o') (fun _ h => Kd.V_drew h) (fun _ n h => Kd.V_drewN h n) h.out
theorem n_ (h : AsC (Kd.N d e W base ok v xs)) [ExC W W'] : Kd.N d e W' base ok v xs := ex_ind (C := fun V => Kd.N d e V base ok v xs) (fun _ o' h => Kd.N_alloc h o') (fun _ h => Kd.N_drew h) (fun _ n h => Kd.N_drewN h n) h.out
theorem r_ (h : AsC (Kd.R d e W base ok v xs)) [ExC W W'] : Kd.R d e W' base ok v xs := ex_ind (C := fun V => Kd.R d e V base ok v xs) (fun _ o' h => Kd.R_alloc h o') (fun _ h => Kd.R_drew h) (fun _ n h => Kd.R_drewN h n) h.out
theorem h_ (h : AsC (Below w.heap.size w W)) [ExC W W'] : Below w.heap.size w W' := ex_ind (C := fun V => Below w.heap.size w V) (fun _ o' h => below_alloc h o') (fun _ h => below_drew1 h) (fun _ n h => pw_below_drewN h n) h.out
end
section
variable {W : World} {g : Nat} {t : TypeId}
theorem cf1_ {x0 : Value} (h : AsC (W.heap[g]? = some (.cells #[x0] t (0, 0)))) : W.cell? ⟨g, 0, none⟩ = some x0 ∧ W.frozen? ⟨g, 0, none⟩ = false := ⟨(blk_cell h.out 0).trans rfl, blk_frozen h.out 0⟩
theorem cf2_ {x0 x1 : Value} (h : AsC (W.heap[g]? = some (.cells #[x0, x1] t (0, 0)))) : W.cell? ⟨g, 0, none⟩ = some x0 ∧ W.cell? ⟨g, 1, none⟩ = some x1 ∧ W.frozen? ⟨g, 0, none⟩ = false ∧ W.frozen? ⟨g, 1, none⟩ = false := ⟨(blk_cell h.out 0).trans rfl, (blk_cell h.out 1).trans rfl, blk_frozen h.out 0, blk_frozen h.out 1⟩
theorem cf3_ {x0 x1 x2 : Value} (h : AsC (W.heap[g]? = some (.cells #[x0, x1, x2] t (0, 0)))) : W.cell? ⟨g, 0, none⟩ = some x0 ∧ W.cell? ⟨g, 1, none⟩ = some x1 ∧ W.cell? ⟨g, 2, none⟩ = some x2 ∧ W.frozen? ⟨g, 0, none⟩ = false ∧ W.frozen? ⟨g, 1, none⟩ = false ∧ W.frozen? ⟨g, 2, none⟩ = false := ⟨(blk_cell h.out 0).trans rfl, (blk_cell h.out 1).trans rfl, (blk_cell h.out 2).trans rfl, blk_frozen h.out 0, blk_frozen h.out 1, blk_frozen h.out 2⟩
theorem cf4_ {x0 x1 x2 x3 : Value} (h : AsC (W.heap[g]? = some (.cells #[x0, x1, x2, x3] t (0, 0)))) : W.cell? ⟨g, 0, none⟩ = some x0 ∧ W.cell? ⟨g, 1, none⟩ = some x1 ∧ W.cell? ⟨g, 2, none⟩ = some x2 ∧ W.cell? ⟨g, 3, none⟩ = some x3 ∧ W.frozen? ⟨g, 0, none⟩ = false ∧ W.frozen? ⟨g, 1, none⟩ = false ∧ W.frozen? ⟨g, 2, none⟩ = false ∧ W.frozen? ⟨g, 3, none⟩ = false := ⟨(blk_cell h.out 0).trans rfl, (blk_cell h.out 1).trans rfl, (blk_cell h.out 2).trans rfl, (blk_cell h.out 3).trans rfl, blk_frozen h.out 0, blk_frozen h.out 1, blk_frozen h.out 2, blk_frozen h.out 3⟩
theorem cf5_ {x0 x1 x2 x3 x4 : Value} (h : AsC (W.heap[g]? = some (.cells #[x0, x1, x2, x3, x4] t (0, 0)))) : W.cell? ⟨g, 0, none⟩ = some x0 ∧ W.cell? ⟨g, 1, none⟩ = some x1 ∧ W.cell? ⟨g, 2, none⟩ = some x2 ∧ W.cell? ⟨g, 3, none⟩ = some x3 ∧ W.cell? ⟨g, 4, none⟩ = some x4 ∧ W.frozen? ⟨g, 0, none⟩ = false ∧ W.frozen? ⟨g, 1, none⟩ = false ∧ W.frozen? ⟨g, 2, none⟩ = false ∧ W.frozen? ⟨g, 3, none⟩ = false ∧ W.frozen? ⟨g, 4, none⟩ = false := ⟨(blk_cell h.out 0).trans rfl, (blk_cell h.out 1).trans rfl, (blk_cell h.out 2).trans rfl, (blk_cell h.out 3).trans rfl, (blk_cell h.out 4).trans rfl, blk_frozen h.out 0, blk_frozen h.out 1, blk_frozen h.out 2, blk_frozen h.out 3, blk_frozen h.out 4⟩
theorem cf6_ {x0 x1 x2 x3 x4 x5 : Value} (h : AsC (W.heap[g]? = some (.cells #[x0, x1, x2, x3, x4, x5] t (0, 0)))) : W.cell? ⟨g, 0, none⟩ = some x0 ∧ W.cell? ⟨g, 1, none⟩ = some x1 ∧ W.cell? ⟨g, 2, none⟩ = some x2 ∧ W.cell? ⟨g, 3, none⟩ = some x3 ∧ W.cell? ⟨g, 4, none⟩ = some x4 ∧ W.cell? ⟨g, 5, none⟩ = some x5 ∧ W.frozen? ⟨g, 0, none⟩ = false ∧ W.frozen? ⟨g, 1, none⟩ = false ∧ W.frozen? ⟨g, 2, none⟩ = false ∧ W.frozen? ⟨g, 3, none⟩ = false ∧ W.frozen? ⟨g, 4, none⟩ = false ∧ W.frozen? ⟨g, 5, none⟩ = false := ⟨(blk_cell h.out 0).trans rfl, (blk_cell h.out 1).trans rfl, (blk_cell h.out 2).trans rfl, (blk_cell h.out 3).trans rfl, (blk_cell h.out 4).trans rfl, (blk_cell h.out 5).trans rfl, blk_frozen h.out 0, blk_frozen h.out 1, blk_frozen h.out 2, blk_frozen h.out 3, blk_frozen h.out 4, blk_frozen h.out 5⟩
theorem cf7_ {x0 x1 x2 x3 x4 x5 x6 : Value} (h : AsC (W.heap[g]? = some (.cells #[x0, x1, x2, x3, x4, x5, x6] t (0, 0)))) : W.cell? ⟨g, 0, none⟩ = some x0 ∧ W.cell? ⟨g, 1, none⟩ = some x1 ∧ W.cell? ⟨g, 2, none⟩ = some x2 ∧ W.cell? ⟨g, 3, none⟩ = some x3 ∧ W.cell? ⟨g, 4, none⟩ = some x4 ∧ W.cell? ⟨g, 5, none⟩ = some x5 ∧ W.cell? ⟨g, 6, none⟩ = some x6 ∧ W.frozen? ⟨g, 0, none⟩ = false ∧ W.frozen? ⟨g, 1, none⟩ = false ∧ W.frozen? ⟨g, 2, none⟩ = false ∧ W.frozen? ⟨g, 3, none⟩ = false ∧ W.frozen? ⟨g, 4, none⟩ = false ∧ W.frozen? ⟨g, 5, none⟩ = false ∧ W.frozen? ⟨g, 6, none⟩ = false := ⟨(blk_cell h.out 0).trans rfl, (blk_cell h.out 1).trans rfl, (blk_cell h.out 2).trans rfl, (blk_cell h.out 3).trans rfl, (blk_cell h.out 4).trans rfl, (blk_cell h.out 5).trans rfl, (blk_cell h.out 6).trans rfl, blk_frozen h.out 0, blk_frozen h.out 1, blk_frozen h.out 2, blk_frozen h.out 3, blk_frozen h.out 4, blk_frozen h.out 5, blk_frozen h.out 6⟩
end
section
variable {α : Type} {d : Kd α} {e base g : Nat} {ok : Nat → Prop} {W w : World} {v : Value} {xs : List α} {o : Obj}
theorem bA_ (h : w.heap[g]? = some o) (o' : Obj) : (w.alloc o').heap[g]? = some o := blk_alloc h o'
theorem bD_ (h : w.heap[g]? = some o) : w.drew.heap[g]? = some o := h
theorem bN_ (h : w.heap[g]? = some o) (n : Nat) : (w.drewN n).heap[g]? = some o := h
theorem vA_ (h : Kd.V d e W base ok v xs) (o : Obj) : Kd.V d e (W.alloc o) base ok v xs := Kd.V_alloc h o
theorem vD_ (h : Kd.V d e W base ok v xs) : Kd.V d e W.drew base ok v xs := Kd.V_drew h
theorem vN_ (h : Kd.V d e W base ok v xs) (m : Nat) : Kd.V d e (W.drewN m) base ok v xs := Kd.V_drewN h m
theorem rA_ (h : Kd.R d e W base ok v xs) (o : Obj) : Kd.R d e (W.alloc o) base ok v xs := Kd.R_alloc h o
theorem rD_ (h : Kd.R d e W base ok v xs) : Kd.R d e W.drew base ok v xs := Kd.R_drew h
theorem rN_ (h : Kd.R d e W base ok v xs) (m : Nat) : Kd.R d e (W.drewN m) base ok v xs := Kd.R_drewN h m
theorem nA_ (h : Kd.N d e W base ok v xs) (o : Obj) : Kd.N d e (W.alloc o) base ok v xs := Kd.N_alloc h o
theorem nD_ (h : Kd.N d e W base ok v xs) : Kd.N d e W.drew base ok v xs := Kd.N_drew h
theorem nN_ (h : Kd.N d e W base ok v xs) (m : Nat) : Kd.N d e (W.drewN m) base ok v xs := Kd.N_drewN h m
end
end Go.Proofs.Ytbpobnlkfpjijaa.Pr
end
-- Pr1
section
namespace Go.Proofs.Ytbpobnlkfpjijaa.Pr
open Go.RowKit Go.Proofs.YtbpobnlkfpjijaaW.PrintWords Go.Proofs.YtbpobnlkfpjijaaW.PrintLast Go.Proofs.YtbpobnlkfpjijaaW.PrintMore
attribute [local go_sem] max2_int min2_int max_two min_two max_three min_three max_four min_four   -- for this text's walks alone
set_option linter.unusedVariables false
set_option linter.unusedSimpArgs false

attribute [local go_sem] Go.Proofs.Aid.cell_set_row
theorem eqA29 (d : Nat) (w : World) (x0 y0 : Int) (x1 y1 : Int) :
    (Op.equalIn (d + 2) 29 (.agg #[.int .i64 x0, .int .i64 x1]) (.agg #[.int .i64 y0, .int .i64 y1])).run Try.prog w = .ok (x0 == y0 && (x1 == y1)) w := by
  refine eqA_of Try.underlying29 (by kernel_rfl) ?_
  refine eqf_cons (by rfl) (by go_simp; rfl) (by go_simp; rfl) (by go_simp) ?_
  exact eqf_last (by rfl) (by go_simp; rfl) (by go_simp; rfl) (by go_simp)
end Go.Proofs.Ytbpobnlkfpjijaa.Pr
end
-- Pr3
section
namespace Go.Proofs.Ytbpobnlkfpjijaa.Pr
open Go.RowKit Go.Proofs.YtbpobnlkfpjijaaW.PrintWords Go.Proofs.YtbpobnlkfpjijaaW.PrintLast Go.Proofs.YtbpobnlkfpjijaaW.PrintMore
attribute [local go_sem] max2_int min2_int max_two min_two max_three min_three max_four min_four   -- for this text's walks alone
set_option linter.unusedVariables false
set_option linter.unusedSimpArgs false

attribute [local go_sem] Go.Proofs.Aid.cell_set_row
def nat_Norm.l0 : Nat → List Int → Int → Option (List Int)
 | 0, _, _ => none
 | k + 1, x0, x3 => if x3 > 0 then (if 0 ≤ (wrap64 (x3 - 1)) then (if (wrap64 (x3 - 1)) < (x0.length : Int) then (if (rd x0 (wrap64 (x3 - 1))) = 0 then (nat_Norm.l0 k x0 (wrap64 (x3 - 1))) else (if 0 ≤ x3 then (if x3 ≤ (x0.length : Int) then (some (x0.take (x3 : Int).toNat)) else (none)) else (none))) else (none)) else (none)) else (if 0 ≤ x3 then (if x3 ≤ (x0.length : Int) then (some (x0.take (x3 : Int).toNat)) else (none)) else (none))
def nat_Norm.f (k : Nat) (l0 : List Int) : Option (List Int) := nat_Norm.l0 k l0 (l0.length : Int)
theorem nat_Norm.mono_l : ∀ k, (∀ y0 y1, LeO (nat_Norm.l0 k y0 y1) (nat_Norm.l0 (k + 1) y0 y1))
 | 0 => fun _ _ r h => by simp [nat_Norm.l0] at h
 | k + 1 => by
  have ih0 := nat_Norm.mono_l k
  intro y0 y1
  unfold nat_Norm.l0
  repeat' first
  | (with_reducible exact ih0 _ _)
  | (with_reducible exact LeO.refl _)
  | (with_reducible exact LeO.none _)
  | (with_reducible refine LeO.ite ?_ ?_)
  | (with_reducible refine LeO.bind ?_ (fun _ => ?_))
  | exact ih0 _ _
  | exact LeO.none _
  | refine LeO.ite ?_ ?_
  | refine LeO.bind ?_ (fun _ => ?_)
theorem nat_Norm.mono : ∀ a0 k, LeO (nat_Norm.f k a0) (nat_Norm.f (k + 1) a0) := by
 intro a0 k
 have ih0 := nat_Norm.mono_l k
 unfold nat_Norm.f
 repeat' first
   | (with_reducible exact ih0 _ _)
   | (with_reducible exact LeO.refl _)
   | (with_reducible exact LeO.none _)
   | (with_reducible refine LeO.ite ?_ ?_)
   | (with_reducible refine LeO.bind ?_ (fun _ => ?_))
   | exact ih0 _ _
   | exact LeO.none _
   | refine LeO.ite ?_ ?_
   | refine LeO.bind ?_ (fun _ => ?_)
set_option maxHeartbeats 8000000 in
set_option maxRecDepth 100000 in
theorem nat_Norm.calls (k : Nat) (P0_ : Nat → Prop) (A0 : Option Addr) (c0 : Nat) (l0 : List Int) (r : List Int) (w : World) (hs0 : Kd.V (Kd.int .u64) 57 w w.heap.size (fun k_ => P0_ k_) (.slice A0 l0.length c0) l0) (h : nat_Norm.f k l0 = some r) :
  Calls Try.prog 76 #[.slice A0 l0.length c0] w fun e w' => ∃ v0_ : Value, e = .returned (v0_) ∧ Kd.V (Kd.int .u64) 57 w' w.heap.size (fun k_ => (P0_ k_ ∨ w.heap.size ≤ k_)) v0_ r ∧ Below w.heap.size w w' := by
 have HO0 := A_ (show Kd.V (Kd.int .u64) 57 w w.heap.size (fun k_ => (P0_ k_ ∨ w.heap.size ≤ k_)) (.slice A0 l0.length c0) l0 from Kd.V_mono hs0 (fun k_ hk => .inl hk)); have HB := A_ (Below.refl w.heap.size w)
 have H : (nat_Norm.l0 k l0 (l0.length : Int)) = some r := h
 clear h
 have H' := A_ H
 clear H
 go_enter Try.func76, Try.ntmps76
 go_wp2
 go_loopg [3] k (fun kq v3 w' => ∃ (x3_1 : Int), v3 = .int .i64 x3_1 ∧ AsC (nat_Norm.l0 kq l0 x3_1 = some r) ∧ AsC (kq ≤ k) ∧ AsC (Kd.V (Kd.int .u64) 57 w' w.heap.size (fun k_ => (P0_ k_ ∨ w.heap.size ≤ k_)) (.slice A0 l0.length c0) l0) ∧ AsC (Below w.heap.size w w'))
 case atStart => exact ⟨((l0.length : Int)), (by first | rfl | (simp; done) | (simp [*]; done)), H', ⟨Nat.le_refl _⟩, ⟨v_ HO0⟩, ⟨hB_ w⟩⟩
 case round =>
  clear H'
  obtain ⟨x3_1, rfl, HA, HK1, HO_0, HB⟩ := hrel
  cases gk with
  | zero => exact absurd HA.out (by simp [nat_Norm.l0])
  | succ k1 =>
   have H := HA.out; clear HA
   simp only [nat_Norm.l0] at H
   by_cases c2 : x3_1 > 0
   ·rw [if_pos c2] at H
    have c2b0 : decide (0 < x3_1) = true := decide_eq_true c2
    clear c2
    obtain ⟨ji3, hji3⟩ : ∃ j_ : Int, (wrap64 (x3_1 - 1)) = j_ := ⟨_, rfl⟩
    replace H : (if 0 ≤ (ji3) then (if (ji3) < (l0.length : Int) then (if (rd l0 (ji3)) = 0 then (nat_Norm.l0 k1 l0 ji3) else (if 0 ≤ x3_1 then (if x3_1 ≤ (l0.length : Int) then (some (l0.take (x3_1 : Int).toNat)) else (none)) else (none))) else (none)) else (none)) = some r := by first | (rw [hji3] at H; exact H) | (simp only [hji3] at H ⊢; exact H)
    have hji3w : (IntKind.i64.wrap (x3_1 - 1)) = ji3 := (i64_w _).trans hji3
    by_cases c4 : 0 ≤ (ji3)
    ·rw [if_pos c4] at H
     have c4b0 : decide (0 ≤ (ji3)) = true := decide_eq_true c4
     clear c4
     by_cases c5 : (ji3) < (l0.length : Int)
     ·rw [if_pos c5] at H
      have c5b0 : decide ((ji3) < (l0.length : Int)) = true := decide_eq_true c5
      clear c5
      by_cases c6 : (rd l0 (ji3)) = 0
      ·rw [if_pos c6] at H
       have c6b0 : ((rd l0 (ji3)) == 0) = true := beq_iff_eq.mpr c6
       have c6b1 : ((rd l0 (ji3)) != 0) = false := bne_eq_false_iff_eq.mpr c6
       clear c6
       have H' := A_ H
       clear H
       have p101 : 0 ≤ ((ji3) : Int) := of_decide_eq_true (by first | (with_reducible assumption) | assumption)
       have q101 : (ji3) < (l0.length : Int) := of_decide_eq_true (by first | (with_reducible assumption) | assumption)
       obtain ⟨ad101, e101, hx101_0⟩ := Kd.at_int (Kd.V_reads' HO_0.out).2.2 (ji3) p101 q101
       cases e101
       replace p101 := eq_true p101
       replace q101 := eq_true q101
       go_wp2
       go_roundg k1
       case measure => have := HK1.out; omega
       case rel => exact ⟨(ji3), (by first | rfl | (simp; done) | (simp only [← hji3] <;> (first | rfl | simp)) | (simp [*]; done)), H', ⟨by have := HK1.out; omega⟩, ⟨v_ HO_0⟩, ⟨hB_ w⟩⟩
      rw [if_neg c6] at H
      have c6b0 : ((rd l0 (ji3)) == 0) = false := beq_eq_false_iff_ne.mpr c6
      have c6b1 : ((rd l0 (ji3)) != 0) = true := bne_iff_ne.mpr c6
      by_cases c7 : 0 ≤ x3_1
      ·rw [if_pos c7] at H
       have c7b0 := eq_true c7
       have c7b1 : decide (0 ≤ x3_1) = true := decide_eq_true c7
       clear c7
       by_cases c8 : x3_1 ≤ (l0.length : Int)
       ·rw [if_pos c8] at H
        have c8b0 := eq_true c8
        have c8b1 : decide (x3_1 ≤ (l0.length : Int)) = true := decide_eq_true c8
        clear c8
        obtain ⟨y102, hy102⟩ : ∃ y_ : List Int, y_ = (l0.take (x3_1 : Int).toNat) := ⟨_, rfl⟩
        replace H : (some y102) = some r := by first | (rw [hy102]; with_reducible exact H) | (have H2_ := (Option.bind_some _ _).symm.trans H; rw [hy102]; with_reducible exact H2_) | (have H2_ := (Option.bind_some _ _).symm.trans H; with_reducible exact H2_) | with_reducible exact H | (rw [hy102]; exact H) | exact H
        have Ny102 := A_ hy102; clear hy102
        obtain rfl := Option.some.inj H
        have p101 : 0 ≤ ((ji3) : Int) := of_decide_eq_true (by first | (with_reducible assumption) | assumption)
        have q101 : (ji3) < (l0.length : Int) := of_decide_eq_true (by first | (with_reducible assumption) | assumption)
        obtain ⟨ad101, e101, hx101_0⟩ := Kd.at_int (Kd.V_reads' HO_0.out).2.2 (ji3) p101 q101
        cases e101
        replace p101 := eq_true p101
        replace q101 := eq_true q101
        have q9 : (x3_1 : Int) ≤ ((l0.length : Int) : Int) := of_decide_eq_true (by first | (with_reducible assumption) | assumption)
        obtain ⟨i09, hi09, _, hsz9, _⟩ := info_parts info57
        have hroom9 : l0.length ≤ c0 := (Kd.V_reads' HO_0.out).2.1
        have hC9 : Kd.F (Kd.int .u64) _ _ (some ad101) l0.length l0 := (Kd.V_at (base := w.heap.size) HO_0.out).2.2
        have hcut9 := Go.Proofs.Aid.cut_to_cap (P := Try.prog) 39 57 .i64 Try.underlying39 hi09 (some ad101) l0.length c0 x3_1 (of_decide_eq_true (by first | (with_reducible assumption) | assumption)) q9 hroom9
        have hr9 := Kd.F_take (m := (x3_1 : Int).toNat) hC9 (by omega)
        have hy9 : y102.length = (x3_1 : Int).toNat := (by rw [Ny102.out, List.length_take]; omega)
        rw [← Ny102.out] at hr9
        rw [← hy9] at hcut9
        have HO106 := A_ (show Kd.V (Kd.int .u64) 57 _ w.heap.size _ (.slice (some ad101) y102.length y102.length) y102 from Kd.V_mk (by omega) hr9); have HC106 := A_ (show y102.length ≤ y102.length from by omega); clear hr9 hC9 hroom9 hi09 hsz9; have KY9 := A_ hy9; clear hy9
        replace q9 := eq_true q9
        go_wp2
        go_ret
        exact ⟨_, by first | rfl | (simp [errW_none, errW_some] <;> rfl) | (simp only [← hji3]; first | rfl | (simp [errW_none, errW_some] <;> rfl)) | (simp [*, errW_none, errW_some] <;> rfl), by (with_reducible repeat (first|apply vA_|apply vN_|apply vD_)); exact HO106.out, hB_ w⟩
       rw [if_neg c8] at H
       exact absurd H (by simp)
      rw [if_neg c7] at H
      exact absurd H (by simp)
     rw [if_neg c5] at H
     exact absurd H (by simp)
    rw [if_neg c4] at H
    exact absurd H (by simp)
   rw [if_neg c2] at H
   have c2b0 : decide (0 < x3_1) = false := decide_eq_false c2
   clear c2
   by_cases c10 : 0 ≤ x3_1
   ·rw [if_pos c10] at H
    have c10b0 := eq_true c10
    have c10b1 : decide (0 ≤ x3_1) = true := decide_eq_true c10
    clear c10
    by_cases c11 : x3_1 ≤ (l0.length : Int)
    ·rw [if_pos c11] at H
     have c11b0 := eq_true c11
     have c11b1 : decide (x3_1 ≤ (l0.length : Int)) = true := decide_eq_true c11
     clear c11
     obtain ⟨y107, hy107⟩ : ∃ y_ : List Int, y_ = (l0.take (x3_1 : Int).toNat) := ⟨_, rfl⟩
     replace H : (some y107) = some r := by first | (rw [hy107]; with_reducible exact H) | (have H2_ := (Option.bind_some _ _).symm.trans H; rw [hy107]; with_reducible exact H2_) | (have H2_ := (Option.bind_some _ _).symm.trans H; with_reducible exact H2_) | with_reducible exact H | (rw [hy107]; exact H) | exact H
     have Ny107 := A_ hy107; clear hy107
     obtain rfl := Option.some.inj H
     have q12 : (x3_1 : Int) ≤ ((l0.length : Int) : Int) := of_decide_eq_true (by first | (with_reducible assumption) | assumption)
     obtain ⟨i012, hi012, _, hsz12, _⟩ := info_parts info57
     have hroom12 : l0.length ≤ c0 := (Kd.V_reads' HO_0.out).2.1
     have hC12 : Kd.F (Kd.int .u64) _ _ A0 l0.length l0 := (Kd.V_at (base := w.heap.size) HO_0.out).2.2
     have hcut12 := Go.Proofs.Aid.cut_to_cap (P := Try.prog) 39 57 .i64 Try.underlying39 hi012 A0 l0.length c0 x3_1 (of_decide_eq_true (by first | (with_reducible assumption) | assumption)) q12 hroom12
     have hr12 := Kd.F_take (m := (x3_1 : Int).toNat) hC12 (by omega)
     have hy12 : y107.length = (x3_1 : Int).toNat := (by rw [Ny107.out, List.length_take]; omega)
     rw [← Ny107.out] at hr12
     rw [← hy12] at hcut12
     have HO111 := A_ (show Kd.V (Kd.int .u64) 57 _ w.heap.size _ (.slice A0 y107.length y107.length) y107 from Kd.V_mk (by omega) hr12); have HC111 := A_ (show y107.length ≤ y107.length from by omega); clear hr12 hC12 hroom12 hi012 hsz12; have KY12 := A_ hy12; clear hy12
     replace q12 := eq_true q12
     go_wp2
     go_ret
     exact ⟨_, by first | rfl | (simp [errW_none, errW_some] <;> rfl) | (simp [*, errW_none, errW_some] <;> rfl), by (with_reducible repeat (first|apply vA_|apply vN_|apply vD_)); exact HO111.out, hB_ w⟩
    rw [if_neg c11] at H
    exact absurd H (by simp)
   rw [if_neg c10] at H
   exact absurd H (by simp)

end Go.Proofs.Ytbpobnlkfpjijaa.Pr
end
-- Pr4
section
namespace Go.Proofs.Ytbpobnlkfpjijaa.Pr
open Go.RowKit Go.Proofs.YtbpobnlkfpjijaaW.PrintWords Go.Proofs.YtbpobnlkfpjijaaW.PrintLast Go.Proofs.YtbpobnlkfpjijaaW.PrintMore
attribute [local go_sem] max2_int min2_int max_two min_two max_three min_three max_four min_four   -- for this text's walks alone
set_option linter.unusedVariables false
set_option linter.unusedSimpArgs false

attribute [local go_sem] Go.Proofs.Aid.cell_set_row
def word_Len.l0 : Nat → Int → Int → Int → Option (Int)
 | 0, _, _, _ => none
 | k + 1, x0, x3, x5 => if x5 < 64 then (if 0 ≤ x5 then (if (Go.bits .and .u64 (shr .u64 x0 x5) 1) = 1 then (word_Len.l0 k x0 (wrap64 (x5 + 1)) (wrap64 (x5 + 1))) else (word_Len.l0 k x0 x3 (wrap64 (x5 + 1)))) else (none)) else (some x3)
def word_Len.f (k : Nat) (a0 : Int) : Option (Int) := word_Len.l0 k a0 0 0
theorem word_Len.mono_l : ∀ k, (∀ y0 y1 y2, LeO (word_Len.l0 k y0 y1 y2) (word_Len.l0 (k + 1) y0 y1 y2))
 | 0 => fun _ _ _ r h => by simp [word_Len.l0] at h
 | k + 1 => by
  have ih0 := word_Len.mono_l k
  intro y0 y1 y2
  unfold word_Len.l0
  repeat' first
  | (with_reducible exact ih0 _ _ _)
  | (with_reducible exact LeO.refl _)
  | (with_reducible exact LeO.none _)
  | (with_reducible refine LeO.ite ?_ ?_)
  | (with_reducible refine LeO.bind ?_ (fun _ => ?_))
  | exact ih0 _ _ _
  | exact LeO.none _
  | refine LeO.ite ?_ ?_
  | refine LeO.bind ?_ (fun _ => ?_)
theorem word_Len.mono : ∀ a0 k, LeO (word_Len.f k a0) (word_Len.f (k + 1) a0) := by
 intro a0 k
 have ih0 := word_Len.mono_l k
 unfold word_Len.f
 repeat' first
   | (with_reducible exact ih0 _ _ _)
   | (with_reducible exact LeO.refl _)
   | (with_reducible exact LeO.none _)
   | (with_reducible refine LeO.ite ?_ ?_)
   | (with_reducible refine LeO.bind ?_ (fun _ => ?_))
   | exact ih0 _ _ _
   | exact LeO.none _
   | refine LeO.ite ?_ ?_
   | refine LeO.bind ?_ (fun _ => ?_)
set_option maxHeartbeats 8000000 in
set_option maxRecDepth 100000 in
theorem word_Len.calls (k : Nat) (a0 : Int) (r : Int) (w : World) (h : word_Len.f k a0 = some r) :
  Calls Try.prog 90 #[.int .u64 a0] w fun e w' => e = .returned (.int .i64 r) ∧ Drawn0 w w' := by
 have H : (word_Len.l0 k a0 0 0) = some r := h
 clear h
 have H' := A_ H
 clear H
 go_enter Try.func90, Try.ntmps90
 go_wp2
 go_loopg [3, 5] k (fun kq v3 v5 w' => ∃ (x3_1 : Int) (x5_1 : Int), v3 = .int .i64 x3_1 ∧ v5 = .int .i64 x5_1 ∧ AsC (word_Len.l0 kq a0 x3_1 x5_1 = some r) ∧ AsC (kq ≤ k) ∧ Drawn0 w w')
 case atStart => exact ⟨(0), (0), (by first | rfl | (simp; done) | (simp [*]; done)), (by first | rfl | (simp; done) | (simp [*]; done)), H', ⟨Nat.le_refl _⟩, by repeat (first | exact Drawn0.refl _ | apply Drawn0.step)⟩
 case round =>
  clear H'
  obtain ⟨x3_1, x5_1, rfl, rfl, HA, HK1, ⟨m1, rfl⟩⟩ := hrel
  cases gk with
  | zero => exact absurd HA.out (by simp [word_Len.l0])
  | succ k1 =>
   have H := HA.out; clear HA
   simp only [word_Len.l0] at H
   by_cases c2 : x5_1 < 64
   ·rw [if_pos c2] at H
    have c2b0 : decide (x5_1 < 64) = true := decide_eq_true c2
    clear c2
    by_cases c3 : 0 ≤ x5_1
    ·rw [if_pos c3] at H
     have c3b0 := eq_true c3
     have c3b1 : decide (0 ≤ x5_1) = true := decide_eq_true c3
     clear c3
     obtain ⟨ji4, hji4⟩ : ∃ j_ : Int, (shr .u64 a0 x5_1) = j_ := ⟨_, rfl⟩
     replace H : (if (Go.bits .and .u64 (ji4) 1) = 1 then (word_Len.l0 k1 a0 (wrap64 (x5_1 + 1)) (wrap64 (x5_1 + 1))) else (word_Len.l0 k1 a0 x3_1 (wrap64 (x5_1 + 1)))) = some r := by first | (rw [hji4] at H; exact H) | (simp only [hji4] at H ⊢; exact H)
     have hji4_ : (a0 / 2 ^ min x5_1.toNat 64) = ji4 := hji4
     have hji4z : x5_1 ≤ 64 → (a0 / 2 ^ x5_1.toNat) = ji4 := shr_small hji4
     by_cases c5 : (Go.bits .and .u64 (ji4) 1) = 1
     ·rw [if_pos c5] at H
      have c5b0 : ((Go.bits .and .u64 (ji4) 1) == 1) = true := beq_iff_eq.mpr c5
      have c5b1 : ((Go.bits .and .u64 (ji4) 1) != 1) = false := bne_eq_false_iff_eq.mpr c5
      clear c5
      have H' := A_ H
      clear H
      go_wp2
      go_roundg k1
      case measure => have := HK1.out; omega
      case rel => exact ⟨(wrap64 (x5_1 + 1)), (wrap64 (x5_1 + 1)), (by first | rfl | (simp; done) | (simp [*]; done)), (by first | rfl | (simp; done) | (simp [*]; done)), H', ⟨by have := HK1.out; omega⟩, by repeat (first | exact Drawn0.refl _ | apply Drawn0.step)⟩
     rw [if_neg c5] at H
     have c5b0 : ((Go.bits .and .u64 (ji4) 1) == 1) = false := beq_eq_false_iff_ne.mpr c5
     have c5b1 : ((Go.bits .and .u64 (ji4) 1) != 1) = true := bne_iff_ne.mpr c5
     have H' := A_ H
     clear H
     go_wp2
     go_roundg k1
     case measure => have := HK1.out; omega
     case rel => exact ⟨(x3_1), (wrap64 (x5_1 + 1)), (by first | rfl | (simp; done) | (simp [*]; done)), (by first | rfl | (simp; done) | (simp [*]; done)), H', ⟨by have := HK1.out; omega⟩, by repeat (first | exact Drawn0.refl _ | apply Drawn0.step)⟩
    rw [if_neg c3] at H
    exact absurd H (by simp)
   rw [if_neg c2] at H
   have c2b0 : decide (x5_1 < 64) = false := decide_eq_false c2
   clear c2
   obtain rfl := Option.some.inj H
   go_wp2
   go_ret
   exact ⟨by first | rfl | (simp; done) | (simp [*]; done), by repeat (first | exact Drawn0.refl _ | apply Drawn0.step)⟩

end Go.Proofs.Ytbpobnlkfpjijaa.Pr
end
-- Pr5
section
namespace Go.Proofs.Ytbpobnlkfpjijaa.Pr
open Go.RowKit Go.Proofs.YtbpobnlkfpjijaaW.PrintWords Go.Proofs.YtbpobnlkfpjijaaW.PrintLast Go.Proofs.YtbpobnlkfpjijaaW.PrintMore
attribute [local go_sem] max2_int min2_int max_two min_two max_three min_three max_four min_four   -- for this text's walks alone
set_option linter.unusedVariables false
set_option linter.unusedSimpArgs false

attribute [local go_sem] Go.Proofs.Aid.cell_set_row
def nat_Len.f (k : Nat) (l0 : List Int) : Option (Int) := (nat_Norm.f k l0).bind fun t112 => (if (t112.length : Int) = 0 then (some 0) else (if 0 ≤ (wrap64 ((t112.length : Int) - 1)) then (if (wrap64 ((t112.length : Int) - 1)) < (t112.length : Int) then ((word_Len.f k (rd t112 (wrap64 ((t112.length : Int) - 1)))).bind fun t116 => (some (wrap64 ((wrap64 (64 * (wrap64 ((t112.length : Int) - 1)))) + t116)))) else (none)) else (none)))
theorem nat_Len.mono : ∀ a0 k, LeO (nat_Len.f k a0) (nat_Len.f (k + 1) a0) := by
 intro a0 k
 unfold nat_Len.f
 repeat' first
   | (with_reducible exact nat_Norm.mono _ _)
   | (with_reducible exact word_Len.mono _ _)
   | (with_reducible exact LeO.refl _)
   | (with_reducible exact LeO.none _)
   | (with_reducible refine LeO.ite ?_ ?_)
   | (with_reducible refine LeO.bind ?_ (fun _ => ?_))
   | exact nat_Norm.mono _ _
   | exact word_Len.mono _ _
   | exact LeO.none _
   | refine LeO.ite ?_ ?_
   | refine LeO.bind ?_ (fun _ => ?_)
set_option maxHeartbeats 8000000 in
set_option maxRecDepth 100000 in
theorem nat_Len.calls (k : Nat) (A0 : Option Addr) (c0 : Nat) (l0 : List Int) (r : Int) (w : World) (hr0 : Kd.C (Kd.int .u64) w A0 l0.length l0) (hc0 : l0.length ≤ c0) (h : nat_Len.f k l0 = some r) :
  Calls Try.prog 70 #[.slice A0 l0.length c0] w fun e w' => e = .returned (.int .i64 r) ∧ Below w.heap.size w w' := by
 have HR0 := A_ hr0; have HC0 := A_ hc0; clear hr0 hc0; have HB := A_ (Below.refl w.heap.size w)
 have H : ((nat_Norm.f k l0).bind fun t112 => (if (t112.length : Int) = 0 then (some 0) else (if 0 ≤ (wrap64 ((t112.length : Int) - 1)) then (if (wrap64 ((t112.length : Int) - 1)) < (t112.length : Int) then ((word_Len.f k (rd t112 (wrap64 ((t112.length : Int) - 1)))).bind fun t116 => (some (wrap64 ((wrap64 (64 * (wrap64 ((t112.length : Int) - 1)))) + t116)))) else (none)) else (none)))) = some r := h
 clear h
 replace H := Option.bind_eq_some_iff.mp H
 obtain ⟨t112, A20, H⟩ := H
 replace H : (if (t112.length : Int) = 0 then (some 0) else (if 0 ≤ (wrap64 ((t112.length : Int) - 1)) then (if (wrap64 ((t112.length : Int) - 1)) < (t112.length : Int) then ((word_Len.f k (rd t112 (wrap64 ((t112.length : Int) - 1)))).bind fun t116 => (some (wrap64 ((wrap64 (64 * (wrap64 ((t112.length : Int) - 1)))) + t116)))) else (none)) else (none))) = some r := H
 have A2 := A_ A20; clear A20
 by_cases c3 : (t112.length : Int) = 0
 ·rw [if_pos c3] at H
  have c3b0 : ((t112.length : Int) == 0) = true := beq_iff_eq.mpr c3
  have c3b1 : ((t112.length : Int) != 0) = false := bne_eq_false_iff_eq.mpr c3
  clear c3
  obtain rfl := Option.some.inj H
  go_enter Try.func70, Try.ntmps70
  go_wp2_with (first | ((with_reducible refine gate_callee (f := 76) rfl ?_); refine goesL_ (some 4) rfl rfl Try.func76 (by kernel_rfl) rfl #[.slice A0 l0.length c0] rfl (by (try simp only [List.map_toArray, List.map_cons, List.map_nil]); first | done | rfl | (simp only [List.length_drop, List.length_take]; rfl)) ?_; (with_reducible refine (nat_Norm.calls k (fun k_ => k_ < w.heap.size) _ _ l0 t112 _ ?side1 A2.out).mono ?_); (case side1 => exact Kd.V_mk HC0.out (Kd.F_below (Kd.C_F (Kd.heap_int .u64) HR0.out) (hB_ w))); rintro e w4 ⟨v113, rfl, ho0, hb⟩; refine ⟨_, rfl, ?_⟩; have HO114 := A_ (Kd.V_lower (Kd.V_mono (ok' := fun k_ => True) ho0 (fun k_ hk_ => trivial)) (below_size (hB_ w))); replace HB := A_ (below_step (hB_ w) hb); (try clear hb); (try clear hb2); (try clear hk); (try clear hi); (try clear ho0); obtain ⟨Ao5, co5, eo5⟩ := Kd.V_slice HO114.out; subst eo5))
  go_ret
  exact ⟨by first | rfl | (simp [errW_none, errW_some] <;> rfl) | (simp [*, errW_none, errW_some] <;> rfl), hB_ w⟩
 rw [if_neg c3] at H
 have c3b0 : ((t112.length : Int) == 0) = false := beq_eq_false_iff_ne.mpr c3
 have c3b1 : ((t112.length : Int) != 0) = true := bne_iff_ne.mpr c3
 have c3b2 : ¬ (t112 = []) := fun h_ => c3 (by rw [h_]; rfl)
 obtain ⟨ji6, hji6⟩ : ∃ j_ : Int, (wrap64 ((t112.length : Int) - 1)) = j_ := ⟨_, rfl⟩
 replace H : (if 0 ≤ (ji6) then (if (ji6) < (t112.length : Int) then ((word_Len.f k (rd t112 (ji6))).bind fun t116 => (some (wrap64 ((wrap64 (64 * (ji6))) + t116)))) else (none)) else (none)) = some r := by first | (rw [hji6] at H; exact H) | (simp only [hji6] at H ⊢; exact H)
 (try rw [hji6] at A2)
 have hji6w : (IntKind.i64.wrap ((t112.length : Int) - 1)) = ji6 := (i64_w _).trans hji6
 by_cases c7 : 0 ≤ (ji6)
 ·rw [if_pos c7] at H
  have c7b0 : decide (0 ≤ (ji6)) = true := decide_eq_true c7
  clear c7
  by_cases c8 : (ji6) < (t112.length : Int)
  ·rw [if_pos c8] at H
   have c8b0 : decide ((ji6) < (t112.length : Int)) = true := decide_eq_true c8
   clear c8
   replace H := Option.bind_eq_some_iff.mp H
   obtain ⟨t116, A90, H⟩ := H
   replace H : (some (wrap64 ((wrap64 (64 * (ji6))) + t116))) = some r := H
   have A9 := A_ A90; clear A90
   obtain rfl := Option.some.inj H
   go_enter Try.func70, Try.ntmps70
   go_wp2_with (first | ((with_reducible refine gate_callee (f := 76) rfl ?_); refine goesL_ (some 4) rfl rfl Try.func76 (by kernel_rfl) rfl #[.slice A0 l0.length c0] rfl (by (try simp only [List.map_toArray, List.map_cons, List.map_nil]); first | done | rfl | (simp only [List.length_drop, List.length_take]; rfl)) ?_; (with_reducible refine (nat_Norm.calls k (fun k_ => k_ < w.heap.size) _ _ l0 t112 _ ?side1 A2.out).mono ?_); (case side1 => exact Kd.V_mk HC0.out (Kd.F_below (Kd.C_F (Kd.heap_int .u64) HR0.out) (hB_ w))); rintro e w10 ⟨v113, rfl, ho0, hb⟩; refine ⟨_, rfl, ?_⟩; have HO114 := A_ (Kd.V_lower (Kd.V_mono (ok' := fun k_ => True) ho0 (fun k_ hk_ => trivial)) (below_size (hB_ w))); replace HB := A_ (below_step (hB_ w) hb); (try clear hb); (try clear hb2); (try clear hk); (try clear hi); (try clear ho0); obtain ⟨Ao11, co11, eo11⟩ := Kd.V_slice HO114.out; subst eo11; have p115 : 0 ≤ ((ji6) : Int) := of_decide_eq_true (by first | (with_reducible assumption) | assumption); have q115 : (ji6) < (t112.length : Int) := of_decide_eq_true (by first | (with_reducible assumption) | assumption); obtain ⟨ad115, e115, hx115_0⟩ := Kd.at_int (Kd.V_reads' HO114.out).2.2 (ji6) p115 q115; cases e115; replace p115 := eq_true p115; replace q115 := eq_true q115) | ((with_reducible refine gate_callee (f := 90) rfl ?_); refine goesL_ (some 18) rfl rfl Try.func90 (by kernel_rfl) rfl #[.int .u64 (rd t112 (ji6))] rfl (by (try simp only [List.map_toArray, List.map_cons, List.map_nil]); first | done | (simp only [hji6]; rfl) | rfl | (simp only [List.length_drop, List.length_take]; rfl)) ?_; (with_reducible refine (word_Len.calls k (rd t112 (ji6)) t116 _ A9.out).mono ?_); rintro e w' ⟨rfl, ⟨nd, rfl⟩⟩; refine ⟨_, rfl, ?_⟩))
   go_ret
   exact ⟨by first | rfl | (simp [errW_none, errW_some] <;> rfl) | (simp only [← hji6]; first | rfl | (simp [errW_none, errW_some] <;> rfl)) | (simp [*, errW_none, errW_some] <;> rfl), hB_ w⟩
  rw [if_neg c8] at H
  exact absurd H (by simp)
 rw [if_neg c7] at H
 exact absurd H (by simp)

end Go.Proofs.Ytbpobnlkfpjijaa.Pr
end
-- Pr6
section
namespace Go.Proofs.Ytbpobnlkfpjijaa.Pr
open Go.RowKit Go.Proofs.YtbpobnlkfpjijaaW.PrintWords Go.Proofs.YtbpobnlkfpjijaaW.PrintLast Go.Proofs.YtbpobnlkfpjijaaW.PrintMore
attribute [local go_sem] max2_int min2_int max_two min_two max_three min_three max_four min_four   -- for this text's walks alone
set_option linter.unusedVariables false
set_option linter.unusedSimpArgs false

attribute [local go_sem] Go.Proofs.Aid.cell_set_row
def bits_Mul64.f (a0 : Int) (a1 : Int) : Option (Int × Int) := some (IntKind.u64.wrap ((IntKind.u64.wrap ((IntKind.u64.wrap ((a0 / 4294967296) * (a1 / 4294967296))) + ((IntKind.u64.wrap ((IntKind.u64.wrap ((a0 / 4294967296) * (Go.bits .and .u64 a1 4294967295))) + ((IntKind.u64.wrap ((Go.bits .and .u64 a0 4294967295) * (Go.bits .and .u64 a1 4294967295))) / 4294967296))) / 4294967296))) + ((IntKind.u64.wrap ((Go.bits .and .u64 (IntKind.u64.wrap ((IntKind.u64.wrap ((a0 / 4294967296) * (Go.bits .and .u64 a1 4294967295))) + ((IntKind.u64.wrap ((Go.bits .and .u64 a0 4294967295) * (Go.bits .and .u64 a1 4294967295))) / 4294967296))) 4294967295) + (IntKind.u64.wrap ((Go.bits .and .u64 a0 4294967295) * (a1 / 4294967296))))) / 4294967296)), IntKind.u64.wrap (a0 * a1))
set_option maxHeartbeats 8000000 in
set_option maxRecDepth 100000 in
theorem bits_Mul64.calls (a0 : Int) (a1 : Int) (r1 : Int) (r2 : Int) (w : World) (h : bits_Mul64.f a0 a1 = some (r1, r2)) :
    Calls Try.prog 99 #[.int .u64 a0, .int .u64 a1] w fun e w' => e = .returned (.tuple #[.int .u64 r1, .int .u64 r2]) ∧ Drawn0 w w' := by
  have H : (some (IntKind.u64.wrap ((IntKind.u64.wrap ((IntKind.u64.wrap ((a0 / 4294967296) * (a1 / 4294967296))) + ((IntKind.u64.wrap ((IntKind.u64.wrap ((a0 / 4294967296) * (Go.bits .and .u64 a1 4294967295))) + ((IntKind.u64.wrap ((Go.bits .and .u64 a0 4294967295) * (Go.bits .and .u64 a1 4294967295))) / 4294967296))) / 4294967296))) + ((IntKind.u64.wrap ((Go.bits .and .u64 (IntKind.u64.wrap ((IntKind.u64.wrap ((a0 / 4294967296) * (Go.bits .and .u64 a1 4294967295))) + ((IntKind.u64.wrap ((Go.bits .and .u64 a0 4294967295) * (Go.bits .and .u64 a1 4294967295))) / 4294967296))) 4294967295) + (IntKind.u64.wrap ((Go.bits .and .u64 a0 4294967295) * (a1 / 4294967296))))) / 4294967296)), IntKind.u64.wrap (a0 * a1))) = some (r1, r2) := h
  clear h
  simp only [Option.some.injEq, Prod.mk.injEq] at H
  obtain ⟨rfl, rfl⟩ := H
  go_enter Try.func99, Try.ntmps99
  go_wp2
  go_ret2
  exact ⟨by first | rfl | (simp; done) | (simp [*]; done), by repeat (first | exact Drawn0.refl _ | apply Drawn0.step)⟩

end Go.Proofs.Ytbpobnlkfpjijaa.Pr
end
-- Pr7
section
namespace Go.Proofs.Ytbpobnlkfpjijaa.Pr
open Go.RowKit Go.Proofs.YtbpobnlkfpjijaaW.PrintWords Go.Proofs.YtbpobnlkfpjijaaW.PrintLast Go.Proofs.YtbpobnlkfpjijaaW.PrintMore
attribute [local go_sem] max2_int min2_int max_two min_two max_three min_three max_four min_four   -- for this text's walks alone
set_option linter.unusedVariables false
set_option linter.unusedSimpArgs false

attribute [local go_sem] Go.Proofs.Aid.cell_set_row
def word_Mul.f (a0 : Int) (a1 : Int) : Option (Int × Int) := (bits_Mul64.f a0 a1).bind fun bt117 => (some (bt117.1, bt117.2))
set_option maxHeartbeats 8000000 in
set_option maxRecDepth 100000 in
theorem word_Mul.calls (a0 : Int) (a1 : Int) (r1 : Int) (r2 : Int) (w : World) (h : word_Mul.f a0 a1 = some (r1, r2)) :
    Calls Try.prog 74 #[.int .u64 a0, .int .u64 a1] w fun e w' => e = .returned (.tuple #[.int .u64 r1, .int .u64 r2]) ∧ Drawn0 w w' := by
  have H : ((bits_Mul64.f a0 a1).bind fun bt117 => (some (bt117.1, bt117.2))) = some (r1, r2) := h
  clear h
  replace H := Option.bind_eq_some_iff.mp H
  obtain ⟨⟨t117, t118⟩, A30, H⟩ := H
  replace H : (some (t117, t118)) = some (r1, r2) := H
  have A3 := Aside0.mk A30
  clear A30
  simp only [Option.some.injEq, Prod.mk.injEq] at H
  obtain ⟨rfl, rfl⟩ := H
  go_enter Try.func74, Try.ntmps74
  go_wp2_with (first | ((with_reducible refine gate_callee (f := 99) rfl ?_); refine goesL_ (some 8) rfl rfl Try.func99 (by kernel_rfl) rfl #[.int .u64 a0, .int .u64 a1] rfl (by (try simp only [List.map_toArray, List.map_cons, List.map_nil]); first | done | rfl | (simp only [List.length_drop, List.length_take]; rfl)) ?_; (with_reducible refine (bits_Mul64.calls a0 a1 t117 t118 _ A3.out).mono ?_); rintro e w' ⟨rfl, ⟨nd, rfl⟩⟩; refine ⟨_, rfl, ?_⟩))
  go_ret2
  exact ⟨by first | rfl | (simp; done) | (simp [*]; done), by repeat (first | exact Drawn0.refl _ | apply Drawn0.step)⟩

end Go.Proofs.Ytbpobnlkfpjijaa.Pr
end
-- Ga
section
namespace Go.Proofs.Ytbpobnlkfpjijaa.Pr
open Go.RowKit Go.Proofs.YtbpobnlkfpjijaaW.PrintWords Go.Proofs.YtbpobnlkfpjijaaW.PrintLast Go.Proofs.YtbpobnlkfpjijaaW.PrintMore
set_option linter.unusedVariables false
set_option linter.unusedSimpArgs false
attribute [local go_sem] max2_int min2_int max_two min_two max_three min_three max_four min_four
def word_Add.f (a0 : Int) (a1 : Int) (a2 : Int) : Option (Int × Int) :=
  if 0 ≤ a0 ∧ 0 ≤ a1 ∧ 0 ≤ a2 then some ((a0 + a1 + mn a2 1) % 18446744073709551616, (a0 + a1 + mn a2 1) / 18446744073709551616) else none
theorem add64_run (x y c : Int) (hx : 0 ≤ x) (hy : 0 ≤ y) (hc0 : 0 ≤ c) (hc : c ≤ 1) (W : World) :
    (callFunc 100 #[.int .u64 x, .int .u64 y, .int .u64 c]).run Try.prog W =
      .ok (.value (.tuple #[.int .u64 ((x + y + c) % 18446744073709551616), .int .u64 ((x + y + c) / 18446744073709551616)])) W := by
  rw [run_callFunc_extern Try.func100 (by kernel_rfl) (by kernel_rfl) (by kernel_rfl) (e := add64Entry) (by kernel_rfl), run_add64 x y c hx hy hc0 hc]
  rfl
theorem word_Add.calls (a0 : Int) (a1 : Int) (a2 : Int) (r1 : Int) (r2 : Int) (w : World) (h : word_Add.f a0 a1 a2 = some (r1, r2)) :
    Calls Try.prog 75 #[.int .u64 a0, .int .u64 a1, .int .u64 a2] w fun e w' => e = .returned (.tuple #[.int .u64 r1, .int .u64 r2]) ∧ Below w.heap.size w w' := by
  unfold word_Add.f at h
  split at h
  · rename_i hc
    simp only [Option.some.injEq, Prod.mk.injEq] at h
    obtain ⟨h1, h2⟩ := h
    obtain ⟨j, hj⟩ : ∃ j, mn a2 1 = j := ⟨_, rfl⟩
    rw [hj] at h1 h2
    have hj0 : 0 ≤ j := by rw [← hj]; unfold mn; split <;> omega
    have hj1 : j ≤ 1 := by rw [← hj]; unfold mn; split <;> omega
    have hj_ : (if 1 < a2 then 1 else a2) = j := hj
    have kb := add64_run a0 a1 j hc.1 hc.2.1 hj0 hj1
    rw [h1, h2] at kb
    clear h1 h2 hj
    go_enter Try.func75, Try.ntmps75
    go_wp2
    go_ret2
    exact ⟨rfl, Below.refl _ _⟩
  · cases h
def word_Sub.f (a0 : Int) (a1 : Int) (a2 : Int) : Option (Int × Int) :=
  if 0 ≤ a0 ∧ 0 ≤ a1 ∧ 0 ≤ a2 then some ((((a0.toNat + 18446744073709551616 - a1.toNat - (mn a2 1).toNat) % 18446744073709551616 : Nat) : Int), if a0 < a1 + mn a2 1 then 1 else 0) else none
def sub64E : Array Value → Sem Value := fun args => do
  let (x, y, b) ← Extern.MathBitsCarry.three "Sub64" args
  pure (Extern.MathBitsCarry.pair ((x + Extern.MathBitsCarry.m64 - y - b) % Extern.MathBitsCarry.m64) (if x < y + b then 1 else 0))
theorem sub64E_run {P : Program} (x y b : Nat) (hb : b ≤ 1) (w : World) :
    (sub64E #[.int .u64 x, .int .u64 y, .int .u64 b]).run P w =
      .ok (.tuple #[.int .u64 (((x + 18446744073709551616 - y - b) % 18446744073709551616 : Nat) : Int), .int .u64 ((if x < y + b then 1 else 0 : Nat) : Int)]) w := by
  have : b = 0 ∨ b = 1 := by omega
  rcases this with rfl | rfl <;> rfl
theorem sub64_run (x y c : Int) (hx : 0 ≤ x) (hy : 0 ≤ y) (hc0 : 0 ≤ c) (hc : c ≤ 1) (W : World) :
    (callFunc 107 #[.int .u64 x, .int .u64 y, .int .u64 c]).run Try.prog W =
      .ok (.value (.tuple #[.int .u64 (((x.toNat + 18446744073709551616 - y.toNat - c.toNat) % 18446744073709551616 : Nat) : Int), .int .u64 (if x < y + c then 1 else 0)])) W := by
  obtain ⟨X, rfl⟩ := Int.eq_ofNat_of_zero_le hx
  obtain ⟨Y, rfl⟩ := Int.eq_ofNat_of_zero_le hy
  obtain ⟨C, rfl⟩ := Int.eq_ofNat_of_zero_le hc0
  rw [run_callFunc_extern Try.func107 (by kernel_rfl) (by kernel_rfl) (by kernel_rfl) (e := sub64E) (by kernel_rfl), sub64E_run X Y C (by omega)]
  simp only [Result.andThen, Int.toNat_natCast]
  by_cases h : X < Y + C
  · rw [if_pos h, if_pos (by omega)]; rfl
  · rw [if_neg h, if_neg (by omega)]; rfl
theorem word_Sub.calls (a0 : Int) (a1 : Int) (a2 : Int) (r1 : Int) (r2 : Int) (w : World) (h : word_Sub.f a0 a1 a2 = some (r1, r2)) :
    Calls Try.prog 103 #[.int .u64 a0, .int .u64 a1, .int .u64 a2] w fun e w' => e = .returned (.tuple #[.int .u64 r1, .int .u64 r2]) ∧ Below w.heap.size w w' := by
  unfold word_Sub.f at h
  split at h
  · rename_i hc
    simp only [Option.some.injEq, Prod.mk.injEq] at h
    obtain ⟨h1, h2⟩ := h
    obtain ⟨j, hj⟩ : ∃ j, mn a2 1 = j := ⟨_, rfl⟩
    rw [hj] at h1 h2
    have hj0 : 0 ≤ j := by rw [← hj]; unfold mn; split <;> omega
    have hj1 : j ≤ 1 := by rw [← hj]; unfold mn; split <;> omega
    have hj_ : (if 1 < a2 then 1 else a2) = j := hj
    have kb := sub64_run a0 a1 j hc.1 hc.2.1 hj0 hj1
    rw [h1, h2] at kb
    clear h1 h2 hj
    go_enter Try.func103, Try.ntmps103
    go_wp2
    go_ret2
    exact ⟨rfl, Below.refl _ _⟩
  · cases h
end Go.Proofs.Ytbpobnlkfpjijaa.Pr
end
-- Pr10
section
namespace Go.Proofs.Ytbpobnlkfpjijaa.Pr
open Go.RowKit Go.Proofs.YtbpobnlkfpjijaaW.PrintWords Go.Proofs.YtbpobnlkfpjijaaW.PrintLast Go.Proofs.YtbpobnlkfpjijaaW.PrintMore
attribute [local go_sem] max2_int min2_int max_two min_two max_three min_three max_four min_four   -- for this text's walks alone
set_option linter.unusedVariables false
set_option linter.unusedSimpArgs false

attribute [local go_sem] Go.Proofs.Aid.cell_set_row
mutual
def prod_School.l0 : Nat → List Int → List Int → List Int → Int → Int → Option (List Int)
 | 0, _, _, _, _, _ => none
 | k + 1, x0, x1, x5, x21, x22 => if x22 < x21 then (prod_School.l1 k x0 x1 x5 x22 0 x21 x22 (x1.length : Int) 0) else ((nat_Norm.f k x5).bind fun t122 => (some t122))
def prod_School.l1 : Nat → List Int → List Int → List Int → Int → Int → Int → Int → Int → Int → Option (List Int)
 | 0, _, _, _, _, _, _, _, _, _ => none
 | k + 1, x0, x1, x5, x6, x7, x21, x22, x26, x27 => if x27 < x26 then (if 0 ≤ x6 then (if x6 < (x0.length : Int) then (if 0 ≤ x27 then (if x27 < (x1.length : Int) then ((word_Mul.f (rd x0 x6) (rd x1 x27)).bind fun bt127 => (if 0 ≤ (wrap64 (x6 + x27)) then (if (wrap64 (x6 + x27)) < (x5.length : Int) then ((word_Add.f bt127.2 (rd x5 (wrap64 (x6 + x27))) 0).bind fun bt130 => ((word_Add.f bt130.1 x7 0).bind fun bt132 => (prod_School.l1 k x0 x1 (x5.set ((wrap64 (x6 + x27)) : Int).toNat bt132.1) x6 (IntKind.u64.wrap ((IntKind.u64.wrap (bt127.1 + bt130.2)) + bt132.2)) x21 x22 x26 (wrap64 (x27 + 1))))) else (none)) else (none))) else (none)) else (none)) else (none)) else (none)) else (if 0 ≤ (wrap64 (x6 + (x1.length : Int))) then (if (wrap64 (x6 + (x1.length : Int))) < (x5.length : Int) then (prod_School.l0 k x0 x1 (x5.set ((wrap64 (x6 + (x1.length : Int))) : Int).toNat x7) x21 (wrap64 (x22 + 1))) else (none)) else (none))
end
def prod_School.f (k : Nat) (l0 : List Int) (l1 : List Int) : Option (List Int) := if 0 ≤ (wrap64 ((l0.length : Int) + (l1.length : Int))) then (if (wrap64 ((l0.length : Int) + (l1.length : Int)) : Int).toNat ≤ 35184372088832 then (prod_School.l0 k l0 l1 (List.replicate (wrap64 ((l0.length : Int) + (l1.length : Int)) : Int).toNat 0) (l0.length : Int) 0) else (none)) else (none)
theorem prod_School.mono_l : ∀ k, (∀ y0 y1 y2 y3 y4, LeO (prod_School.l0 k y0 y1 y2 y3 y4) (prod_School.l0 (k + 1) y0 y1 y2 y3 y4)) ∧ (∀ y0 y1 y2 y3 y4 y5 y6 y7 y8, LeO (prod_School.l1 k y0 y1 y2 y3 y4 y5 y6 y7 y8) (prod_School.l1 (k + 1) y0 y1 y2 y3 y4 y5 y6 y7 y8))
 | 0 => ⟨fun _ _ _ _ _ r h => by simp [prod_School.l0] at h, fun _ _ _ _ _ _ _ _ _ r h => by simp [prod_School.l1] at h⟩
 | k + 1 => by
  obtain ⟨ih0, ih1⟩ := prod_School.mono_l k
  refine ⟨?_, ?_⟩
  ·intro y0 y1 y2 y3 y4
   unfold prod_School.l0
   repeat' first
   | (with_reducible exact ih0 _ _ _ _ _)
   | (with_reducible exact ih1 _ _ _ _ _ _ _ _ _)
   | (with_reducible exact nat_Norm.mono _ _)
   | (with_reducible exact LeO.refl _)
   | (with_reducible exact LeO.none _)
   | (with_reducible refine LeO.ite ?_ ?_)
   | (with_reducible refine LeO.bind ?_ (fun _ => ?_))
   | exact ih0 _ _ _ _ _
   | exact ih1 _ _ _ _ _ _ _ _ _
   | exact nat_Norm.mono _ _
   | exact LeO.none _
   | refine LeO.ite ?_ ?_
   | refine LeO.bind ?_ (fun _ => ?_)
  intro y0 y1 y2 y3 y4 y5 y6 y7 y8
  unfold prod_School.l1
  repeat' first
  | (with_reducible exact ih0 _ _ _ _ _)
  | (with_reducible exact ih1 _ _ _ _ _ _ _ _ _)
  | (with_reducible exact nat_Norm.mono _ _)
  | (with_reducible exact LeO.refl _)
  | (with_reducible exact LeO.none _)
  | (with_reducible refine LeO.ite ?_ ?_)
  | (with_reducible refine LeO.bind ?_ (fun _ => ?_))
  | exact ih0 _ _ _ _ _
  | exact ih1 _ _ _ _ _ _ _ _ _
  | exact nat_Norm.mono _ _
  | exact LeO.none _
  | refine LeO.ite ?_ ?_
  | refine LeO.bind ?_ (fun _ => ?_)
theorem prod_School.mono : ∀ a0 a1 k, LeO (prod_School.f k a0 a1) (prod_School.f (k + 1) a0 a1) := by
 intro a0 a1 k
 obtain ⟨ih0, ih1⟩ := prod_School.mono_l k
 unfold prod_School.f
 repeat' first
   | (with_reducible exact ih0 _ _ _ _ _)
   | (with_reducible exact ih1 _ _ _ _ _ _ _ _ _)
   | (with_reducible exact nat_Norm.mono _ _)
   | (with_reducible exact LeO.refl _)
   | (with_reducible exact LeO.none _)
   | (with_reducible refine LeO.ite ?_ ?_)
   | (with_reducible refine LeO.bind ?_ (fun _ => ?_))
   | exact ih0 _ _ _ _ _
   | exact ih1 _ _ _ _ _ _ _ _ _
   | exact nat_Norm.mono _ _
   | exact LeO.none _
   | refine LeO.ite ?_ ?_
   | refine LeO.bind ?_ (fun _ => ?_)
set_option maxHeartbeats 8000000 in
set_option maxRecDepth 100000 in
theorem prod_School.calls (k : Nat) (A0 : Option Addr) (c0 : Nat) (l0 : List Int) (A1 : Option Addr) (c1 : Nat) (l1 : List Int) (r : List Int) (w : World) (hr0 : Kd.C (Kd.int .u64) w A0 l0.length l0) (hc0 : l0.length ≤ c0) (hr1 : Kd.C (Kd.int .u64) w A1 l1.length l1) (hc1 : l1.length ≤ c1) (h : prod_School.f k l0 l1 = some r) :
  Calls Try.prog 91 #[.slice A0 l0.length c0, .slice A1 l1.length c1] w fun e w' => ∃ v0_ : Value, e = .returned (v0_) ∧ Kd.V (Kd.int .u64) 57 w' w.heap.size (fun k_ => (w.heap.size ≤ k_)) v0_ r ∧ Below w.heap.size w w' := by
 have HR0 := A_ hr0; have HC0 := A_ hc0; clear hr0 hc0; have HR1 := A_ hr1; have HC1 := A_ hc1; clear hr1 hc1; have HB := A_ (Below.refl w.heap.size w)
 have H : (if 0 ≤ (wrap64 ((l0.length : Int) + (l1.length : Int))) then (if (wrap64 ((l0.length : Int) + (l1.length : Int)) : Int).toNat ≤ 35184372088832 then (prod_School.l0 k l0 l1 (List.replicate (wrap64 ((l0.length : Int) + (l1.length : Int)) : Int).toNat 0) (l0.length : Int) 0) else (none)) else (none)) = some r := h
 clear h
 obtain ⟨ji3, hji3⟩ : ∃ j_ : Int, (wrap64 ((l0.length : Int) + (l1.length : Int))) = j_ := ⟨_, rfl⟩
 replace H : (if 0 ≤ (ji3) then (if (ji3 : Int).toNat ≤ 35184372088832 then (prod_School.l0 k l0 l1 (List.replicate (ji3 : Int).toNat 0) (l0.length : Int) 0) else (none)) else (none)) = some r := by first | (rw [hji3] at H; exact H) | (simp only [hji3] at H ⊢; exact H)
 have hji3w : (IntKind.i64.wrap ((l0.length : Int) + (l1.length : Int))) = ji3 := (i64_w _).trans hji3
 by_cases c4 : 0 ≤ (ji3)
 ·rw [if_pos c4] at H
  have c4b0 := eq_true c4
  have c4b1 : decide (0 ≤ (ji3)) = true := decide_eq_true c4
  clear c4
  by_cases c5 : (ji3 : Int).toNat ≤ 35184372088832
  ·rw [if_pos c5] at H
   have c5b0 := eq_true c5
   have c5b1 : decide ((ji3 : Int).toNat ≤ 35184372088832) = true := decide_eq_true c5
   clear c5
   obtain ⟨y119, hy119⟩ : ∃ y_ : List Int, y_ = (List.replicate (ji3 : Int).toNat 0) := ⟨_, rfl⟩
   replace H : (prod_School.l0 k l0 l1 y119 (l0.length : Int) 0) = some r := by first | (rw [hy119]; with_reducible exact H) | (have H2_ := (Option.bind_some _ _).symm.trans H; rw [hy119]; with_reducible exact H2_) | (have H2_ := (Option.bind_some _ _).symm.trans H; with_reducible exact H2_) | with_reducible exact H | (rw [hy119]; exact H) | exact H
   have Ny119 := A_ hy119; clear hy119
   have H' := A_ H
   clear H
   go_enter Try.func91, Try.ntmps91
   go_wp2_with (first | ((with_reducible refine gate_dst (N := 19) rfl ?_); refine Kd.R_make (Kd.int .u64) _ 57 rfl (N := 19) rfl 39 _ _ rfl ji3 rfl rfl Try.underlying39 (.int .u64 0) 8 info57 rfl (by decide) (by omega) 0 (ok := fun _ => True) (okp := fun _ => True) rfl (fun _ hk => hk) trivial (of_decide_eq_true (by first | (with_reducible assumption) | assumption)) (Nat.le_trans (Nat.mul_le_mul_right _ (of_decide_eq_true (by first | (with_reducible assumption) | assumption) : ji3.toNat ≤ 35184372088832)) (by omega)) (Below.refl _ _) (Nat.le_refl _) ?_; intro v120 w6 ho7 hb hg_ hnew_; clear hg_ hnew_; (first | rw [← Ny119.out] at ho7 | (simp only [Int.reduceToNat] at ho7; rw [← Ny119.out] at ho7)); have HO121 := A_ (Kd.R_lower (Kd.R_newM (M := fun k_ => (w.heap.size ≤ k_)) ho7 (below_size (hB_ w)) (fun k_ h_ => h_)) (below_size (hB_ w))); replace HB := A_ (below_step (hB_ w) hb); clear hb ho7))
   repeat (go_quiet (first | ((with_reducible refine gate_dst (N := 19) rfl ?_); refine Kd.R_make (Kd.int .u64) _ 57 rfl (N := 19) rfl 39 _ _ rfl ji3 rfl rfl Try.underlying39 (.int .u64 0) 8 info57 rfl (by decide) (by omega) 0 (ok := fun _ => True) (okp := fun _ => True) rfl (fun _ hk => hk) trivial (of_decide_eq_true (by first | (with_reducible assumption) | assumption)) (Nat.le_trans (Nat.mul_le_mul_right _ (of_decide_eq_true (by first | (with_reducible assumption) | assumption) : ji3.toNat ≤ 35184372088832)) (by omega)) (Below.refl _ _) (Nat.le_refl _) ?_; intro v120 w6 ho7 hb hg_ hnew_; clear hg_ hnew_; (first | rw [← Ny119.out] at ho7 | (simp only [Int.reduceToNat] at ho7; rw [← Ny119.out] at ho7)); have HO121 := A_ (Kd.R_lower (Kd.R_newM (M := fun k_ => (w.heap.size ≤ k_)) ho7 (below_size (hB_ w)) (fun k_ h_ => h_)) (below_size (hB_ w))); replace HB := A_ (below_step (hB_ w) hb); clear hb ho7)); try go_wp2_with (first | ((with_reducible refine gate_dst (N := 19) rfl ?_); refine Kd.R_make (Kd.int .u64) _ 57 rfl (N := 19) rfl 39 _ _ rfl ji3 rfl rfl Try.underlying39 (.int .u64 0) 8 info57 rfl (by decide) (by omega) 0 (ok := fun _ => True) (okp := fun _ => True) rfl (fun _ hk => hk) trivial (of_decide_eq_true (by first | (with_reducible assumption) | assumption)) (Nat.le_trans (Nat.mul_le_mul_right _ (of_decide_eq_true (by first | (with_reducible assumption) | assumption) : ji3.toNat ≤ 35184372088832)) (by omega)) (Below.refl _ _) (Nat.le_refl _) ?_; intro v120 w6 ho7 hb hg_ hnew_; clear hg_ hnew_; (first | rw [← Ny119.out] at ho7 | (simp only [Int.reduceToNat] at ho7; rw [← Ny119.out] at ho7)); have HO121 := A_ (Kd.R_lower (Kd.R_newM (M := fun k_ => (w.heap.size ≤ k_)) ho7 (below_size (hB_ w)) (fun k_ h_ => h_)) (below_size (hB_ w))); replace HB := A_ (below_step (hB_ w) hb); clear hb ho7)))
   go_loopg [22] k (fun kq v22 w' => ∃ (x5_1 : List Int) (x22_1 : Int), v22 = .int .i64 x22_1 ∧ AsC (prod_School.l0 kq l0 l1 x5_1 (l0.length : Int) x22_1 = some r) ∧ AsC (kq ≤ k) ∧ AsC (Kd.R (Kd.int .u64) 57 w' w.heap.size (fun k_ => (w.heap.size ≤ k_)) v120 x5_1) ∧ AsC (Below w.heap.size w w'))
   case atStart => exact ⟨(y119), (0), (by first | rfl | (simp; done) | (simp [*]; done)), H', ⟨Nat.le_refl _⟩, ⟨Kd.R_mono (r_ HO121) (fun _ hk => hk.1)⟩, ⟨hB_ w⟩⟩
   case round =>
    clear H'; try clear c1; try clear p2; try clear c4; try clear c4b0; try clear c4b1; try clear c5; try clear c5b0; try clear c5b1; try clear p6
    obtain ⟨x5_1, x22_1, rfl, HA, HK1, HO_5, HB⟩ := hrel
    cases gk with
    | zero => exact absurd HA.out (by simp [prod_School.l0])
    | succ k1 =>
     have H := HA.out; clear HA
     simp only [prod_School.l0] at H
     by_cases c8 : x22_1 < (l0.length : Int)
     ·rw [if_pos c8] at H
      have c8b0 : decide (x22_1 < (l0.length : Int)) = true := decide_eq_true c8
      clear c8
      have H' := A_ H
      clear H
      go_wp2
      repeat (go_quiet (fail); try go_wp2)
      go_loopg [7, 27] k1 (fun kq v7 v27 w' => ∃ (x5_2 : List Int) (x7_2 : Int) (x27_2 : Int), v7 = .int .u64 x7_2 ∧ v27 = .int .i64 x27_2 ∧ AsC (prod_School.l1 kq l0 l1 x5_2 x22_1 x7_2 (l0.length : Int) x22_1 (l1.length : Int) x27_2 = some r) ∧ AsC (kq ≤ k1) ∧ AsC (Kd.R (Kd.int .u64) 57 w' w.heap.size (fun k_ => (w.heap.size ≤ k_)) v120 x5_2) ∧ AsC (Below w.heap.size w w'))
      case atStart => exact ⟨(x5_1), (0), (0), (by first | rfl | (simp; done) | (simp [*]; done)), (by first | rfl | (simp; done) | (simp [*]; done)), H', ⟨Nat.le_refl _⟩, ⟨r_ HO_5⟩, ⟨hB_ w⟩⟩
      case round =>
       clear H'; try clear c1; try clear p2; try clear c4; try clear c4b0; try clear c4b1; try clear c5; try clear c5b0; try clear c5b1; try clear p6; try clear c8; try clear c8b0; try clear p2; try clear p6
       obtain ⟨x5_2, x7_2, x27_2, rfl, rfl, HA, HK2, HO_5, HB⟩ := hrel
       cases gk with
       | zero => exact absurd HA.out (by simp [prod_School.l1])
       | succ k2 =>
        have H := HA.out; clear HA
        simp only [prod_School.l1] at H
        by_cases c9 : x27_2 < (l1.length : Int)
        ·rw [if_pos c9] at H
         have c9b0 : decide (x27_2 < (l1.length : Int)) = true := decide_eq_true c9
         clear c9
         by_cases c10 : 0 ≤ x22_1
         ·rw [if_pos c10] at H
          have c10b0 : decide (0 ≤ x22_1) = true := decide_eq_true c10
          clear c10
          by_cases c11 : x22_1 < (l0.length : Int)
          ·rw [if_pos c11] at H
           have c11b0 : decide (x22_1 < (l0.length : Int)) = true := decide_eq_true c11
           clear c11
           by_cases c12 : 0 ≤ x27_2
           ·rw [if_pos c12] at H
            have c12b0 : decide (0 ≤ x27_2) = true := decide_eq_true c12
            clear c12
            by_cases c13 : x27_2 < (l1.length : Int)
            ·rw [if_pos c13] at H
             have c13b0 : decide (x27_2 < (l1.length : Int)) = true := decide_eq_true c13
             clear c13
             replace H := Option.bind_eq_some_iff.mp H
             obtain ⟨⟨t127, t128⟩, A140, H⟩ := H
             replace H : (if 0 ≤ (wrap64 (x22_1 + x27_2)) then (if (wrap64 (x22_1 + x27_2)) < (x5_2.length : Int) then ((word_Add.f t128 (rd x5_2 (wrap64 (x22_1 + x27_2))) 0).bind fun bt130 => ((word_Add.f bt130.1 x7_2 0).bind fun bt132 => (prod_School.l1 k2 l0 l1 (x5_2.set ((wrap64 (x22_1 + x27_2)) : Int).toNat bt132.1) x22_1 (IntKind.u64.wrap ((IntKind.u64.wrap (t127 + bt130.2)) + bt132.2)) (l0.length : Int) x22_1 (l1.length : Int) (wrap64 (x27_2 + 1))))) else (none)) else (none)) = some r := H
             have A14 := A_ A140; clear A140
             obtain ⟨ji15, hji15⟩ : ∃ j_ : Int, (wrap64 (x22_1 + x27_2)) = j_ := ⟨_, rfl⟩
             replace H : (if 0 ≤ (ji15) then (if (ji15) < (x5_2.length : Int) then ((word_Add.f t128 (rd x5_2 (ji15)) 0).bind fun bt130 => ((word_Add.f bt130.1 x7_2 0).bind fun bt132 => (prod_School.l1 k2 l0 l1 (x5_2.set ((ji15) : Int).toNat bt132.1) x22_1 (IntKind.u64.wrap ((IntKind.u64.wrap (t127 + bt130.2)) + bt132.2)) (l0.length : Int) x22_1 (l1.length : Int) (wrap64 (x27_2 + 1))))) else (none)) else (none)) = some r := by first | (rw [hji15] at H; exact H) | (simp only [hji15] at H ⊢; exact H)
             (try rw [hji15] at A14)
             have hji15w : (IntKind.i64.wrap (x22_1 + x27_2)) = ji15 := (i64_w _).trans hji15
             by_cases c16 : 0 ≤ (ji15)
             ·rw [if_pos c16] at H
              have c16b0 : decide (0 ≤ (ji15)) = true := decide_eq_true c16
              clear c16
              by_cases c17 : (ji15) < (x5_2.length : Int)
              ·rw [if_pos c17] at H
               have c17b0 : decide ((ji15) < (x5_2.length : Int)) = true := decide_eq_true c17
               clear c17
               replace H := Option.bind_eq_some_iff.mp H
               obtain ⟨⟨t130, t131⟩, A180, H⟩ := H
               replace H : ((word_Add.f t130 x7_2 0).bind fun bt132 => (prod_School.l1 k2 l0 l1 (x5_2.set ((ji15) : Int).toNat bt132.1) x22_1 (IntKind.u64.wrap ((IntKind.u64.wrap (t127 + t131)) + bt132.2)) (l0.length : Int) x22_1 (l1.length : Int) (wrap64 (x27_2 + 1)))) = some r := H
               have A18 := A_ A180; clear A180
               replace H := Option.bind_eq_some_iff.mp H
               obtain ⟨⟨t132, t133⟩, A190, H⟩ := H
               replace H : (prod_School.l1 k2 l0 l1 (x5_2.set ((ji15) : Int).toNat t132) x22_1 (IntKind.u64.wrap ((IntKind.u64.wrap (t127 + t131)) + t133)) (l0.length : Int) x22_1 (l1.length : Int) (wrap64 (x27_2 + 1))) = some r := H
               have A19 := A_ A190; clear A190
               obtain ⟨y134, hy134⟩ : ∃ y_ : List Int, y_ = (x5_2.set ((ji15) : Int).toNat t132) := ⟨_, rfl⟩
               replace H : (prod_School.l1 k2 l0 l1 y134 x22_1 (IntKind.u64.wrap ((IntKind.u64.wrap (t127 + t131)) + t133)) (l0.length : Int) x22_1 (l1.length : Int) (wrap64 (x27_2 + 1))) = some r := by first | (rw [hy134]; with_reducible exact H) | (have H2_ := (Option.bind_some _ _).symm.trans H; rw [hy134]; with_reducible exact H2_) | (have H2_ := (Option.bind_some _ _).symm.trans H; with_reducible exact H2_) | with_reducible exact H | (rw [hy134]; exact H) | exact H
               have Ny134 := A_ hy134; clear hy134
               have H' := A_ H
               clear H
               have p125 : 0 ≤ (x22_1 : Int) := of_decide_eq_true (by first | (with_reducible assumption) | assumption)
               have q125 : x22_1 < (l0.length : Int) := of_decide_eq_true (by first | (with_reducible assumption) | assumption)
               obtain ⟨ad125, e125, hx125_0⟩ := Kd.at_int HR0.out x22_1 p125 q125
               cases e125
               replace hx125_0 := (HB.out.cell (World.block_lt_of_cell? w _ hx125_0)).trans hx125_0
               replace p125 := eq_true p125
               replace q125 := eq_true q125
               have p126 : 0 ≤ (x27_2 : Int) := of_decide_eq_true (by first | (with_reducible assumption) | assumption)
               have q126 : x27_2 < (l1.length : Int) := of_decide_eq_true (by first | (with_reducible assumption) | assumption)
               obtain ⟨ad126, e126, hx126_0⟩ := Kd.at_int HR1.out x27_2 p126 q126
               cases e126
               replace hx126_0 := (HB.out.cell (World.block_lt_of_cell? w _ hx126_0)).trans hx126_0
               replace p126 := eq_true p126
               replace q126 := eq_true q126
               go_wp2_with (first | (go_at_call 74; (with_reducible refine (word_Mul.calls (rd l0 x22_1) (rd l1 x27_2) t127 t128 _ A14.out).mono ?_); rintro e w' ⟨rfl, ⟨nd, rfl⟩⟩; (try first | exact ⟨rfl, _, World.drewN_drewN _ _ _⟩ | exact ⟨rfl, _, Eq.trans (World.drewN_drewN _ _ _) (congrArg (World.drewN _) (Nat.add_assoc _ _ _))⟩); obtain ⟨Ao21, co21, eo21⟩ := Kd.R_slice HO_5.out; subst eo21; have p129 : 0 ≤ ((ji15) : Int) := of_decide_eq_true (by first | (with_reducible assumption) | assumption); have q129 : (ji15) < (x5_2.length : Int) := of_decide_eq_true (by first | (with_reducible assumption) | assumption); obtain ⟨ad129, e129, hx129_0⟩ := Kd.at_int (Kd.R_reads' HO_5.out).2.2 (ji15) p129 q129; cases e129; replace p129 := eq_true p129; replace q129 := eq_true q129) | (go_at_call 75; (with_reducible refine (word_Add.calls t128 (rd x5_2 (ji15)) 0 t130 t131 _ A18.out).mono ?_); rintro e w22 ⟨rfl, hb⟩; replace HO_5 := A_ (Kd.R_below (r_ HO_5) hb); replace HB := A_ (below_step (hB_ w) hb); (try clear hb); (try clear hb2); (try clear hk); (try clear hi)) | (go_at_call 75; (with_reducible refine (word_Add.calls t130 x7_2 0 t132 t133 _ A19.out).mono ?_); rintro e w23 ⟨rfl, hb⟩; replace HO_5 := A_ (Kd.R_below (r_ HO_5) hb); replace HB := A_ (below_step (hB_ w) hb); (try clear hb); (try clear hb2); (try clear hk); (try clear hi); have p20 : 0 ≤ ((ji15) : Int) := of_decide_eq_true (by first | (with_reducible assumption) | assumption); have q20 : ((ji15) : Int) < ((x5_2.length : Int) : Int) := of_decide_eq_true (by first | (with_reducible assumption) | assumption); obtain ⟨go20, co20, eo20, gb20, gl20, cl20, HG20⟩ := Kd.R_form HO_5.out (by omega); (first | cases eo20 | (injection eo20 with ea_ en_ ec_; (first | subst ea_ | (injection ea_ with ea_; subst ea_)); subst ec_; clear en_)); have GB20 := A_ gb20; have GG20 := A_ HG20; clear gb20 gl20 HG20; (first | simp only [add_plain] at hx129_0 | skip); obtain ⟨hx20_0, hf20_0⟩ := Kd.R_celln 0 HO_5.out ((ji15) : Int) p20 q20; replace p20 := eq_true p20; replace q20 := eq_true q20; obtain ⟨hy24_, hz24_⟩ := Kd.R_celln 0 HO_5.out ((ji15) : Int) (of_decide_eq_true (by first | (with_reducible assumption) | assumption)) (of_decide_eq_true (by first | (with_reducible assumption) | assumption)); have HP24 := Kd.R_putg HO_5.out ((ji15) : Int) t132) | ((with_reducible refine gate_store (t := 57) (p := 69) rfl ?_); (try (rw [drewN_self w23]; generalize hq_ : World.drewN w23 _ = w23; replace HO_5 := A_ (Kd.R_at hq_ HO_5.out); replace HB := A_ (below_at hq_ HB.out); clear hq_; (try (obtain ⟨hy24_, hz24_⟩ := Kd.R_celln 0 HO_5.out ((ji15) : Int) (of_decide_eq_true (by first | (with_reducible assumption) | assumption)) (of_decide_eq_true (by first | (with_reducible assumption) | assumption)))); (try (have HP24 := Kd.R_putg HO_5.out ((ji15) : Int) t132)))); refine store_event (t := 57) (p := 69) (v := ?vo_w25) (w1 := (w23.setCell ⟨go20, ((ji15) : Int).toNat, none⟩ (.int .u64 t132))) ?hg ?ho ?hn ?hr ?_; (case ho => rfl); (case hg => rfl); (case hn => rfl); (case hr => first | (go_simp; done) | (go_simp; rfl)); intro w25 hw; have hg : w23.grownBy w25 (some go20) := (by rw [hw]; exact HP24.2); have hp_ : Kd.R (Kd.int .u64) 57 w25 w.heap.size (fun k_ => (w.heap.size ≤ k_)) (.slice (some ⟨go20, 0, none⟩) x5_2.length co21) y134 := (by rw [hw, Ny134.out]; exact HP24.1); clear HP24; replace HO_5 := A_ hp_; replace HB := A_ ((by rw [hw]; exact below_set (HB.out) GB20.out : Below w.heap.size w w25)); clear hg hw hp_))
               repeat (go_quiet (first | (go_at_call 74; (with_reducible refine (word_Mul.calls (rd l0 x22_1) (rd l1 x27_2) t127 t128 _ A14.out).mono ?_); rintro e w' ⟨rfl, ⟨nd, rfl⟩⟩; (try first | exact ⟨rfl, _, World.drewN_drewN _ _ _⟩ | exact ⟨rfl, _, Eq.trans (World.drewN_drewN _ _ _) (congrArg (World.drewN _) (Nat.add_assoc _ _ _))⟩); obtain ⟨Ao21, co21, eo21⟩ := Kd.R_slice HO_5.out; subst eo21; have p129 : 0 ≤ ((ji15) : Int) := of_decide_eq_true (by first | (with_reducible assumption) | assumption); have q129 : (ji15) < (x5_2.length : Int) := of_decide_eq_true (by first | (with_reducible assumption) | assumption); obtain ⟨ad129, e129, hx129_0⟩ := Kd.at_int (Kd.R_reads' HO_5.out).2.2 (ji15) p129 q129; cases e129; replace p129 := eq_true p129; replace q129 := eq_true q129) | (go_at_call 75; (with_reducible refine (word_Add.calls t128 (rd x5_2 (ji15)) 0 t130 t131 _ A18.out).mono ?_); rintro e w22 ⟨rfl, hb⟩; replace HO_5 := A_ (Kd.R_below (r_ HO_5) hb); replace HB := A_ (below_step (hB_ w) hb); (try clear hb); (try clear hb2); (try clear hk); (try clear hi)) | (go_at_call 75; (with_reducible refine (word_Add.calls t130 x7_2 0 t132 t133 _ A19.out).mono ?_); rintro e w23 ⟨rfl, hb⟩; replace HO_5 := A_ (Kd.R_below (r_ HO_5) hb); replace HB := A_ (below_step (hB_ w) hb); (try clear hb); (try clear hb2); (try clear hk); (try clear hi); have p20 : 0 ≤ ((ji15) : Int) := of_decide_eq_true (by first | (with_reducible assumption) | assumption); have q20 : ((ji15) : Int) < ((x5_2.length : Int) : Int) := of_decide_eq_true (by first | (with_reducible assumption) | assumption); obtain ⟨go20, co20, eo20, gb20, gl20, cl20, HG20⟩ := Kd.R_form HO_5.out (by omega); (first | cases eo20 | (injection eo20 with ea_ en_ ec_; (first | subst ea_ | (injection ea_ with ea_; subst ea_)); subst ec_; clear en_)); have GB20 := A_ gb20; have GG20 := A_ HG20; clear gb20 gl20 HG20; (first | simp only [add_plain] at hx129_0 | skip); obtain ⟨hx20_0, hf20_0⟩ := Kd.R_celln 0 HO_5.out ((ji15) : Int) p20 q20; replace p20 := eq_true p20; replace q20 := eq_true q20; obtain ⟨hy24_, hz24_⟩ := Kd.R_celln 0 HO_5.out ((ji15) : Int) (of_decide_eq_true (by first | (with_reducible assumption) | assumption)) (of_decide_eq_true (by first | (with_reducible assumption) | assumption)); have HP24 := Kd.R_putg HO_5.out ((ji15) : Int) t132) | ((with_reducible refine gate_store (t := 57) (p := 69) rfl ?_); (try (rw [drewN_self w23]; generalize hq_ : World.drewN w23 _ = w23; replace HO_5 := A_ (Kd.R_at hq_ HO_5.out); replace HB := A_ (below_at hq_ HB.out); clear hq_; (try (obtain ⟨hy24_, hz24_⟩ := Kd.R_celln 0 HO_5.out ((ji15) : Int) (of_decide_eq_true (by first | (with_reducible assumption) | assumption)) (of_decide_eq_true (by first | (with_reducible assumption) | assumption)))); (try (have HP24 := Kd.R_putg HO_5.out ((ji15) : Int) t132)))); refine store_event (t := 57) (p := 69) (v := ?vo_w25) (w1 := (w23.setCell ⟨go20, ((ji15) : Int).toNat, none⟩ (.int .u64 t132))) ?hg ?ho ?hn ?hr ?_; (case ho => rfl); (case hg => rfl); (case hn => rfl); (case hr => first | (go_simp; done) | (go_simp; rfl)); intro w25 hw; have hg : w23.grownBy w25 (some go20) := (by rw [hw]; exact HP24.2); have hp_ : Kd.R (Kd.int .u64) 57 w25 w.heap.size (fun k_ => (w.heap.size ≤ k_)) (.slice (some ⟨go20, 0, none⟩) x5_2.length co21) y134 := (by rw [hw, Ny134.out]; exact HP24.1); clear HP24; replace HO_5 := A_ hp_; replace HB := A_ ((by rw [hw]; exact below_set (HB.out) GB20.out : Below w.heap.size w w25)); clear hg hw hp_)); try go_wp2_with (first | (go_at_call 74; (with_reducible refine (word_Mul.calls (rd l0 x22_1) (rd l1 x27_2) t127 t128 _ A14.out).mono ?_); rintro e w' ⟨rfl, ⟨nd, rfl⟩⟩; (try first | exact ⟨rfl, _, World.drewN_drewN _ _ _⟩ | exact ⟨rfl, _, Eq.trans (World.drewN_drewN _ _ _) (congrArg (World.drewN _) (Nat.add_assoc _ _ _))⟩); obtain ⟨Ao21, co21, eo21⟩ := Kd.R_slice HO_5.out; subst eo21; have p129 : 0 ≤ ((ji15) : Int) := of_decide_eq_true (by first | (with_reducible assumption) | assumption); have q129 : (ji15) < (x5_2.length : Int) := of_decide_eq_true (by first | (with_reducible assumption) | assumption); obtain ⟨ad129, e129, hx129_0⟩ := Kd.at_int (Kd.R_reads' HO_5.out).2.2 (ji15) p129 q129; cases e129; replace p129 := eq_true p129; replace q129 := eq_true q129) | (go_at_call 75; (with_reducible refine (word_Add.calls t128 (rd x5_2 (ji15)) 0 t130 t131 _ A18.out).mono ?_); rintro e w22 ⟨rfl, hb⟩; replace HO_5 := A_ (Kd.R_below (r_ HO_5) hb); replace HB := A_ (below_step (hB_ w) hb); (try clear hb); (try clear hb2); (try clear hk); (try clear hi)) | (go_at_call 75; (with_reducible refine (word_Add.calls t130 x7_2 0 t132 t133 _ A19.out).mono ?_); rintro e w23 ⟨rfl, hb⟩; replace HO_5 := A_ (Kd.R_below (r_ HO_5) hb); replace HB := A_ (below_step (hB_ w) hb); (try clear hb); (try clear hb2); (try clear hk); (try clear hi); have p20 : 0 ≤ ((ji15) : Int) := of_decide_eq_true (by first | (with_reducible assumption) | assumption); have q20 : ((ji15) : Int) < ((x5_2.length : Int) : Int) := of_decide_eq_true (by first | (with_reducible assumption) | assumption); obtain ⟨go20, co20, eo20, gb20, gl20, cl20, HG20⟩ := Kd.R_form HO_5.out (by omega); (first | cases eo20 | (injection eo20 with ea_ en_ ec_; (first | subst ea_ | (injection ea_ with ea_; subst ea_)); subst ec_; clear en_)); have GB20 := A_ gb20; have GG20 := A_ HG20; clear gb20 gl20 HG20; (first | simp only [add_plain] at hx129_0 | skip); obtain ⟨hx20_0, hf20_0⟩ := Kd.R_celln 0 HO_5.out ((ji15) : Int) p20 q20; replace p20 := eq_true p20; replace q20 := eq_true q20; obtain ⟨hy24_, hz24_⟩ := Kd.R_celln 0 HO_5.out ((ji15) : Int) (of_decide_eq_true (by first | (with_reducible assumption) | assumption)) (of_decide_eq_true (by first | (with_reducible assumption) | assumption)); have HP24 := Kd.R_putg HO_5.out ((ji15) : Int) t132) | ((with_reducible refine gate_store (t := 57) (p := 69) rfl ?_); (try (rw [drewN_self w23]; generalize hq_ : World.drewN w23 _ = w23; replace HO_5 := A_ (Kd.R_at hq_ HO_5.out); replace HB := A_ (below_at hq_ HB.out); clear hq_; (try (obtain ⟨hy24_, hz24_⟩ := Kd.R_celln 0 HO_5.out ((ji15) : Int) (of_decide_eq_true (by first | (with_reducible assumption) | assumption)) (of_decide_eq_true (by first | (with_reducible assumption) | assumption)))); (try (have HP24 := Kd.R_putg HO_5.out ((ji15) : Int) t132)))); refine store_event (t := 57) (p := 69) (v := ?vo_w25) (w1 := (w23.setCell ⟨go20, ((ji15) : Int).toNat, none⟩ (.int .u64 t132))) ?hg ?ho ?hn ?hr ?_; (case ho => rfl); (case hg => rfl); (case hn => rfl); (case hr => first | (go_simp; done) | (go_simp; rfl)); intro w25 hw; have hg : w23.grownBy w25 (some go20) := (by rw [hw]; exact HP24.2); have hp_ : Kd.R (Kd.int .u64) 57 w25 w.heap.size (fun k_ => (w.heap.size ≤ k_)) (.slice (some ⟨go20, 0, none⟩) x5_2.length co21) y134 := (by rw [hw, Ny134.out]; exact HP24.1); clear HP24; replace HO_5 := A_ hp_; replace HB := A_ ((by rw [hw]; exact below_set (HB.out) GB20.out : Below w.heap.size w w25)); clear hg hw hp_)))
               go_roundg k2
               case measure => have := HK1.out; have := HK2.out; omega
               case rel => exact ⟨(y134), (IntKind.u64.wrap ((IntKind.u64.wrap (t127 + t131)) + t133)), (wrap64 (x27_2 + 1)), (by first | rfl | (simp; done) | (simp [*]; done)), (by first | rfl | (simp; done) | (simp [*]; done)), H', ⟨by have := HK1.out; have := HK2.out; omega⟩, ⟨r_ HO_5⟩, ⟨hB_ w⟩⟩
              rw [if_neg c17] at H
              exact absurd H (by simp)
             rw [if_neg c16] at H
             exact absurd H (by simp)
            rw [if_neg c13] at H
            exact absurd H (by simp)
           rw [if_neg c12] at H
           exact absurd H (by simp)
          rw [if_neg c11] at H
          exact absurd H (by simp)
         rw [if_neg c10] at H
         exact absurd H (by simp)
        rw [if_neg c9] at H
        have c9b0 : decide (x27_2 < (l1.length : Int)) = false := decide_eq_false c9
        clear c9
        obtain ⟨ji26, hji26⟩ : ∃ j_ : Int, (wrap64 (x22_1 + (l1.length : Int))) = j_ := ⟨_, rfl⟩
        replace H : (if 0 ≤ (ji26) then (if (ji26) < (x5_2.length : Int) then (prod_School.l0 k2 l0 l1 (x5_2.set ((ji26) : Int).toNat x7_2) (l0.length : Int) (wrap64 (x22_1 + 1))) else (none)) else (none)) = some r := by first | (rw [hji26] at H; exact H) | (simp only [hji26] at H ⊢; exact H)
        have hji26w : (IntKind.i64.wrap (x22_1 + (l1.length : Int))) = ji26 := (i64_w _).trans hji26
        by_cases c27 : 0 ≤ (ji26)
        ·rw [if_pos c27] at H
         have c27b0 : decide (0 ≤ (ji26)) = true := decide_eq_true c27
         clear c27
         by_cases c28 : (ji26) < (x5_2.length : Int)
         ·rw [if_pos c28] at H
          have c28b0 : decide ((ji26) < (x5_2.length : Int)) = true := decide_eq_true c28
          clear c28
          obtain ⟨y135, hy135⟩ : ∃ y_ : List Int, y_ = (x5_2.set ((ji26) : Int).toNat x7_2) := ⟨_, rfl⟩
          replace H : (prod_School.l0 k2 l0 l1 y135 (l0.length : Int) (wrap64 (x22_1 + 1))) = some r := by first | (rw [hy135]; with_reducible exact H) | (have H2_ := (Option.bind_some _ _).symm.trans H; rw [hy135]; with_reducible exact H2_) | (have H2_ := (Option.bind_some _ _).symm.trans H; with_reducible exact H2_) | with_reducible exact H | (rw [hy135]; exact H) | exact H
          have Ny135 := A_ hy135; clear hy135
          have H' := A_ H
          clear H
          have p29 : 0 ≤ ((ji26) : Int) := of_decide_eq_true (by first | (with_reducible assumption) | assumption)
          have q29 : ((ji26) : Int) < ((x5_2.length : Int) : Int) := of_decide_eq_true (by first | (with_reducible assumption) | assumption)
          obtain ⟨go29, co29, eo29, gb29, gl29, cl29, HG29⟩ := Kd.R_form HO_5.out (by omega)
          (first | cases eo29 | (injection eo29 with ea_ en_ ec_; (first | subst ea_ | (injection ea_ with ea_; subst ea_)); subst ec_; clear en_))
          have GB29 := A_ gb29; have GG29 := A_ HG29; clear gb29 gl29 HG29
          obtain ⟨hx29_0, hf29_0⟩ := Kd.R_celln 0 HO_5.out ((ji26) : Int) p29 q29
          replace p29 := eq_true p29
          replace q29 := eq_true q29
          have HP30 := Kd.R_putg HO_5.out ((ji26) : Int) x7_2
          go_wp2_with (first | ((with_reducible refine gate_store (t := 57) (p := 77) rfl ?_); (try (rw [drewN_self wr]; generalize hq_ : World.drewN wr _ = wr; replace HO_5 := A_ (Kd.R_at hq_ HO_5.out); replace HB := A_ (below_at hq_ HB.out); clear hq_; (try (have HP30 := Kd.R_putg HO_5.out ((ji26) : Int) x7_2)))); refine store_event (t := 57) (p := 77) (v := ?vo_w31) (w1 := (wr.setCell ⟨go29, ((ji26) : Int).toNat, none⟩ (.int .u64 x7_2))) ?hg ?ho ?hn ?hr ?_; (case ho => rfl); (case hg => rfl); (case hn => rfl); (case hr => first | (go_simp; done) | (go_simp; rfl)); intro w31 hw; have hg : wr.grownBy w31 (some go29) := (by rw [hw]; exact HP30.2); have hp_ : Kd.R (Kd.int .u64) 57 w31 w.heap.size (fun k_ => (w.heap.size ≤ k_)) (.slice (some ⟨go29, 0, none⟩) x5_2.length co29) y135 := (by rw [hw, Ny135.out]; exact HP30.1); clear HP30; replace HO_5 := A_ hp_; replace HB := A_ ((by rw [hw]; exact below_set (HB.out) GB29.out : Below w.heap.size w w31)); clear hg hw hp_))
          repeat (go_quiet (first | ((with_reducible refine gate_store (t := 57) (p := 77) rfl ?_); (try (rw [drewN_self wr]; generalize hq_ : World.drewN wr _ = wr; replace HO_5 := A_ (Kd.R_at hq_ HO_5.out); replace HB := A_ (below_at hq_ HB.out); clear hq_; (try (have HP30 := Kd.R_putg HO_5.out ((ji26) : Int) x7_2)))); refine store_event (t := 57) (p := 77) (v := ?vo_w31) (w1 := (wr.setCell ⟨go29, ((ji26) : Int).toNat, none⟩ (.int .u64 x7_2))) ?hg ?ho ?hn ?hr ?_; (case ho => rfl); (case hg => rfl); (case hn => rfl); (case hr => first | (go_simp; done) | (go_simp; rfl)); intro w31 hw; have hg : wr.grownBy w31 (some go29) := (by rw [hw]; exact HP30.2); have hp_ : Kd.R (Kd.int .u64) 57 w31 w.heap.size (fun k_ => (w.heap.size ≤ k_)) (.slice (some ⟨go29, 0, none⟩) x5_2.length co29) y135 := (by rw [hw, Ny135.out]; exact HP30.1); clear HP30; replace HO_5 := A_ hp_; replace HB := A_ ((by rw [hw]; exact below_set (HB.out) GB29.out : Below w.heap.size w w31)); clear hg hw hp_)); try go_wp2_with (first | ((with_reducible refine gate_store (t := 57) (p := 77) rfl ?_); (try (rw [drewN_self wr]; generalize hq_ : World.drewN wr _ = wr; replace HO_5 := A_ (Kd.R_at hq_ HO_5.out); replace HB := A_ (below_at hq_ HB.out); clear hq_; (try (have HP30 := Kd.R_putg HO_5.out ((ji26) : Int) x7_2)))); refine store_event (t := 57) (p := 77) (v := ?vo_w31) (w1 := (wr.setCell ⟨go29, ((ji26) : Int).toNat, none⟩ (.int .u64 x7_2))) ?hg ?ho ?hn ?hr ?_; (case ho => rfl); (case hg => rfl); (case hn => rfl); (case hr => first | (go_simp; done) | (go_simp; rfl)); intro w31 hw; have hg : wr.grownBy w31 (some go29) := (by rw [hw]; exact HP30.2); have hp_ : Kd.R (Kd.int .u64) 57 w31 w.heap.size (fun k_ => (w.heap.size ≤ k_)) (.slice (some ⟨go29, 0, none⟩) x5_2.length co29) y135 := (by rw [hw, Ny135.out]; exact HP30.1); clear HP30; replace HO_5 := A_ hp_; replace HB := A_ ((by rw [hw]; exact below_set (HB.out) GB29.out : Below w.heap.size w w31)); clear hg hw hp_)))
          go_roundg k2
          case measure => have := HK1.out; have := HK2.out; omega
          case rel => exact ⟨(y135), (wrap64 (x22_1 + 1)), (by first | rfl | (simp; done) | (simp [*]; done)), H', ⟨by have := HK1.out; have := HK2.out; omega⟩, ⟨r_ HO_5⟩, ⟨hB_ w⟩⟩
         rw [if_neg c28] at H
         exact absurd H (by simp)
        rw [if_neg c27] at H
        exact absurd H (by simp)
     rw [if_neg c8] at H
     have c8b0 : decide (x22_1 < (l0.length : Int)) = false := decide_eq_false c8
     clear c8
     replace H := Option.bind_eq_some_iff.mp H
     obtain ⟨t122, A320, H⟩ := H
     replace H : (some t122) = some r := H
     have A32 := A_ A320; clear A320
     obtain rfl := Option.some.inj H
     obtain ⟨Ao33, co33, eo33⟩ := Kd.R_slice HO_5.out
     subst eo33
     go_wp2_with (first | (go_at_call 76; (with_reducible refine (nat_Norm.calls k1 (fun k_ => some k_ = (.slice Ao33 x5_1.length co33 : Value).ownBlock) _ _ x5_1 t122 _ ?side1 A32.out).mono ?_); (case side1 => exact Kd.R_V (Kd.R_tight rfl (HO_5.out))); rintro e w34 ⟨v123, rfl, ho0, hb⟩; have HO124 := A_ (Kd.V_lower (Kd.V_mono (ok' := fun k_ => (w.heap.size ≤ k_)) ho0 (fun k_ hk_ => Or.elim hk_ (fun hs_ => ((HO_5.out).1 k_ hs_.symm)) (fun hn_ => (Nat.le_trans (below_size (hB_ w)) hn_)))) (below_size (hB_ w))); replace HO_5 := A_ (Kd.R_below (r_ HO_5) hb); replace HB := A_ (below_step (hB_ w) hb); (try clear hb); (try clear hb2); (try clear hk); (try clear hi); (try clear ho0)))
     repeat (go_quiet (first | (go_at_call 76; (with_reducible refine (nat_Norm.calls k1 (fun k_ => some k_ = (.slice Ao33 x5_1.length co33 : Value).ownBlock) _ _ x5_1 t122 _ ?side1 A32.out).mono ?_); (case side1 => exact Kd.R_V (Kd.R_tight rfl (HO_5.out))); rintro e w34 ⟨v123, rfl, ho0, hb⟩; have HO124 := A_ (Kd.V_lower (Kd.V_mono (ok' := fun k_ => (w.heap.size ≤ k_)) ho0 (fun k_ hk_ => Or.elim hk_ (fun hs_ => ((HO_5.out).1 k_ hs_.symm)) (fun hn_ => (Nat.le_trans (below_size (hB_ w)) hn_)))) (below_size (hB_ w))); replace HO_5 := A_ (Kd.R_below (r_ HO_5) hb); replace HB := A_ (below_step (hB_ w) hb); (try clear hb); (try clear hb2); (try clear hk); (try clear hi); (try clear ho0))); try go_wp2_with (first | (go_at_call 76; (with_reducible refine (nat_Norm.calls k1 (fun k_ => some k_ = (.slice Ao33 x5_1.length co33 : Value).ownBlock) _ _ x5_1 t122 _ ?side1 A32.out).mono ?_); (case side1 => exact Kd.R_V (Kd.R_tight rfl (HO_5.out))); rintro e w34 ⟨v123, rfl, ho0, hb⟩; have HO124 := A_ (Kd.V_lower (Kd.V_mono (ok' := fun k_ => (w.heap.size ≤ k_)) ho0 (fun k_ hk_ => Or.elim hk_ (fun hs_ => ((HO_5.out).1 k_ hs_.symm)) (fun hn_ => (Nat.le_trans (below_size (hB_ w)) hn_)))) (below_size (hB_ w))); replace HO_5 := A_ (Kd.R_below (r_ HO_5) hb); replace HB := A_ (below_step (hB_ w) hb); (try clear hb); (try clear hb2); (try clear hk); (try clear hi); (try clear ho0))))
     go_ret
     exact ⟨_, by first | rfl | (simp [errW_none, errW_some] <;> rfl) | (simp only [← hji3]; first | rfl | (simp [errW_none, errW_some] <;> rfl)) | (simp [*, errW_none, errW_some] <;> rfl), by (with_reducible repeat (first|apply vA_|apply vN_|apply vD_)); exact HO124.out, hB_ w⟩
  rw [if_neg c5] at H
  exact absurd H (by simp)
 rw [if_neg c4] at H
 exact absurd H (by simp)

end Go.Proofs.Ytbpobnlkfpjijaa.Pr
end
-- Gk
section
namespace Go.Proofs.Ytbpobnlkfpjijaa.Pr
open Go.RowKit Go.Proofs.YtbpobnlkfpjijaaW.PrintWords Go.Proofs.YtbpobnlkfpjijaaW.PrintLast Go.Proofs.YtbpobnlkfpjijaaW.PrintMore
set_option linter.unusedVariables false
set_option linter.unusedSimpArgs false
theorem maxNat2 (k k' : IntKind) (x y : Nat) : Builtin.max2 (.int k (x : Int)) (.int k' (y : Int)) = pure (.int k ((max x y : Nat) : Int)) := by
  rw [max2_int]
  congr 2
  split <;> omega
theorem maxInt2 (k k' : IntKind) (x y : Int) : Builtin.max2 (.int k x) (.int k' y) = pure (.int k (max x y)) := by
  rw [max2_int]
  congr 2
  split <;> omega
theorem minInt2 (k k' : IntKind) (x y : Int) : Builtin.min2 (.int k x) (.int k' y) = pure (.int k (min x y)) := by
  rw [min2_int]
  congr 2
  split <;> omega
attribute [local go_sem] maxInt2 minInt2 max_two min_two
def prod_Kara.f (l0 : List Int) (l1 : List Int) (a2 : Int) : Option (List Int) :=
  (nat_Norm.f 10000 l0).bind fun x => (nat_Norm.f 10000 l1).bind fun y => if min (x.length : Int) (y.length : Int) ≤ max a2 3 then prod_School.f 10000 x y else none
set_option maxRecDepth 100000 in
set_option maxHeartbeats 4000000 in
theorem prod_Kara.calls (P0_ : Nat → Prop) (A0 : Option Addr) (c0 : Nat) (l0 : List Int) (P1_ : Nat → Prop) (A1 : Option Addr) (c1 : Nat) (l1 : List Int) (a2 : Int) (r : List Int) (w : World) (hs0 : Kd.V (Kd.int .u64) 57 w w.heap.size (fun k_ => P0_ k_) (.slice A0 l0.length c0) l0) (hs1 : Kd.V (Kd.int .u64) 57 w w.heap.size (fun k_ => P1_ k_) (.slice A1 l1.length c1) l1) (h : prod_Kara.f l0 l1 a2 = some r) :
    Calls Try.prog 71 #[.slice A0 l0.length c0, .slice A1 l1.length c1, .int .i64 a2] w fun e w' => ∃ v0_ : Value, e = .returned (v0_) ∧ Kd.V (Kd.int .u64) 57 w' w.heap.size (fun k_ => ((P0_ k_ ∨ P1_ k_) ∨ w.heap.size ≤ k_)) v0_ r ∧ Below w.heap.size w w' := by
  unfold prod_Kara.f at h
  obtain ⟨x, hx, h⟩ := Option.bind_eq_some_iff.mp h
  obtain ⟨y, hy, h⟩ := Option.bind_eq_some_iff.mp h
  split at h
  case isFalse => cases h
  rename_i hmin
  have HX := Lib.hid hx
  have HY := Lib.hid hy
  have HS := Lib.hid h
  have HV0 := Lib.hid (Kd.V_alloc hs0 (.cells #[.int .i64 a2] 3))
  have HV1 := Lib.hid (Kd.V_alloc hs1 (.cells #[.int .i64 a2] 3))
  clear hx hy h hs0 hs1
  go_enter Try.func71, Try.ntmps71
  go_wp2_with fail
  refine (nat_Norm.calls 10000 _ A0 c0 l0 x _ HV0.out HX.out).mono ?_
  rintro e w1 ⟨v0, rfl, hv0, hb1⟩
  obtain ⟨Ax, cx, rfl, hcx, hfx⟩ := hv0
  have hfx' := Kd.F_now hfx
  have HV1' := Lib.hid (Kd.V_below HV1.out hb1)
  have hB1 : Below w.heap.size w w1 := below_then (below_alloc (Below.refl _ _) _) (by simp) hb1
  have hcl : w1.cell? ⟨w.heap.size, 0, none⟩ = some (.int .i64 a2) := by
    have := hb1.cell (p := ⟨w.heap.size, 0, none⟩) (by simp)
    rw [this]
    go_simp
  have HF := Lib.hid hfx
  have HC := Lib.hid hfx'
  have HB1 := Lib.hid hB1
  clear hfx hfx' hB1 HV0 HV1 hb1
  go_wp2_with fail
  refine (nat_Norm.calls 10000 _ A1 c1 l1 y _ HV1'.out HY.out).mono ?_
  rintro e w2 ⟨v1, rfl, hv1, hb2⟩
  obtain ⟨Ay, cy, rfl, hcy, hfy⟩ := hv1
  have HD := Lib.hid (Kd.F_now hfy)
  have HE := Lib.hid (Kd.C_below HC.out hb2)
  have HB2 := Lib.hid (below_then HB1.out HB1.out.size hb2)
  have hcl2 := (hb2.cell (World.block_lt_of_cell? _ _ hcl)).trans hcl
  clear hfy hb2 hcl
  go_wp2_with fail
  refine (prod_School.calls 10000 Ax cx x Ay cy y r _ HE.out hcx HD.out hcy HS.out).mono ?_
  rintro e w3 ⟨v2, rfl, hv2, hb3⟩
  have HV := Lib.hid hv2
  have HB3 := Lib.hid (below_then HB2.out HB2.out.size hb3)
  have hsz := HB2.out.size
  clear hv2 hb3
  go_wp2
  go_ret
  exact ⟨_, rfl, Kd.V_mono HV.out (fun k hk => .inr (Nat.le_trans hsz hk)), HB3.out⟩
/-- nat.Sub: nothing is said. -/
def nat_Sub.f (l0 : List Int) (l1 : List Int) : Option (List Int × Int) := none
theorem nat_Sub.calls (P0_ : Nat → Prop) (A0 : Option Addr) (c0 : Nat) (l0 : List Int) (P1_ : Nat → Prop) (A1 : Option Addr) (c1 : Nat) (l1 : List Int) (r1 : List Int) (r2 : Int) (w : World) (hs0 : Kd.V (Kd.int .u64) 57 w w.heap.size (fun k_ => P0_ k_) (.slice A0 l0.length c0) l0) (hs1 : Kd.V (Kd.int .u64) 57 w w.heap.size (fun k_ => P1_ k_) (.slice A1 l1.length c1) l1) (h : nat_Sub.f l0 l1 = some (r1, r2)) :
    Calls Try.prog 94 #[.slice A0 l0.length c0, .slice A1 l1.length c1] w fun e w' => ∃ v0_ : Value, e = .returned (.tuple #[v0_, .int .i64 r2]) ∧ Kd.V (Kd.int .u64) 57 w' w.heap.size (fun k_ => ((P0_ k_ ∨ P1_ k_) ∨ w.heap.size ≤ k_)) v0_ r1 ∧ Below w.heap.size w w' := by
  cases h
/-- nat.Add: nothing is said. -/
def nat_Add.f (l0 : List Int) (l1 : List Int) : Option (List Int) := none
theorem nat_Add.calls (P0_ : Nat → Prop) (A0 : Option Addr) (c0 : Nat) (l0 : List Int) (P1_ : Nat → Prop) (A1 : Option Addr) (c1 : Nat) (l1 : List Int) (r : List Int) (w : World) (hs0 : Kd.V (Kd.int .u64) 57 w w.heap.size (fun k_ => P0_ k_) (.slice A0 l0.length c0) l0) (hs1 : Kd.V (Kd.int .u64) 57 w w.heap.size (fun k_ => P1_ k_) (.slice A1 l1.length c1) l1) (h : nat_Add.f l0 l1 = some r) :
    Calls Try.prog 104 #[.slice A0 l0.length c0, .slice A1 l1.length c1] w fun e w' => ∃ v0_ : Value, e = .returned (v0_) ∧ Kd.V (Kd.int .u64) 57 w' w.heap.size (fun k_ => ((P0_ k_ ∨ P1_ k_) ∨ w.heap.size ≤ k_)) v0_ r ∧ Below w.heap.size w w' := by
  cases h
/-- nat.Shl: nothing is said. -/
def nat_Shl.f (l0 : List Int) (a1 : Int) : Option (List Int) := none
theorem nat_Shl.calls (P0_ : Nat → Prop) (A0 : Option Addr) (c0 : Nat) (l0 : List Int) (a1 : Int) (r : List Int) (w : World) (hs0 : Kd.V (Kd.int .u64) 57 w w.heap.size (fun k_ => P0_ k_) (.slice A0 l0.length c0) l0) (h : nat_Shl.f l0 a1 = some r) :
    Calls Try.prog 105 #[.slice A0 l0.length c0, .int .i64 a1] w fun e w' => ∃ v0_ : Value, e = .returned (v0_) ∧ Kd.V (Kd.int .u64) 57 w' w.heap.size (fun k_ => (P0_ k_ ∨ w.heap.size ≤ k_)) v0_ r ∧ Below w.heap.size w w' := by
  cases h
end Go.Proofs.Ytbpobnlkfpjijaa.Pr
end
-- Pr21
section
namespace Go.Proofs.Ytbpobnlkfpjijaa.Pr
open Go.RowKit Go.Proofs.YtbpobnlkfpjijaaW.PrintWords Go.Proofs.YtbpobnlkfpjijaaW.PrintLast Go.Proofs.YtbpobnlkfpjijaaW.PrintMore
attribute [local go_sem] max2_int min2_int max_two min_two max_three min_three max_four min_four   -- for this text's walks alone
set_option linter.unusedVariables false
set_option linter.unusedSimpArgs false

attribute [local go_sem] Go.Proofs.Aid.cell_set_row
def prod_Square.f (l0 : List Int) : Option (List Int) := (prod_Kara.f l0 l0 24).bind fun t159 => (some t159)
set_option maxHeartbeats 8000000 in
set_option maxRecDepth 100000 in
theorem prod_Square.calls (P0_ : Nat → Prop) (A0 : Option Addr) (c0 : Nat) (l0 : List Int) (r : List Int) (w : World) (hs0 : Kd.V (Kd.int .u64) 57 w w.heap.size (fun k_ => P0_ k_) (.slice A0 l0.length c0) l0) (h : prod_Square.f l0 = some r) :
    Calls Try.prog 72 #[.slice A0 l0.length c0] w fun e w' => ∃ v0_ : Value, e = .returned (v0_) ∧ Kd.V (Kd.int .u64) 57 w' w.heap.size (fun k_ => (P0_ k_ ∨ w.heap.size ≤ k_)) v0_ r ∧ Below w.heap.size w w' := by
  have HO0 := Aside0.mk (show Kd.V (Kd.int .u64) 57 w w.heap.size (fun k_ => (P0_ k_ ∨ w.heap.size ≤ k_)) (.slice A0 l0.length c0) l0 from Kd.V_mono hs0 (fun k_ hk => .inl hk))
  have HB := Aside0.mk (Below.refl w.heap.size w)
  have H : ((prod_Kara.f l0 l0 24).bind fun t159 => (some t159)) = some r := h
  clear h
  replace H := Option.bind_eq_some_iff.mp H
  obtain ⟨t159, A20, H⟩ := H
  replace H : (some t159) = some r := H
  have A2 := Aside0.mk A20
  clear A20
  obtain rfl := Option.some.inj H
  go_enter Try.func72, Try.ntmps72
  go_wp2_with (first | ((with_reducible refine gate_callee (f := 71) rfl ?_); refine goesL_ (some 5) rfl rfl Try.func71 (by kernel_rfl) rfl #[.slice A0 l0.length c0, .slice A0 l0.length c0, .int .i64 24] rfl (by (try simp only [List.map_toArray, List.map_cons, List.map_nil]); first | done | rfl | (simp only [List.length_drop, List.length_take]; rfl)) ?_; (with_reducible refine (prod_Kara.calls (fun k_ => (P0_ k_ ∨ w.heap.size ≤ k_)) _ _ l0 (fun k_ => (P0_ k_ ∨ w.heap.size ≤ k_)) _ _ l0 24 t159 _ ?side1 ?side2 A2.out).mono ?_); (case side1 => exact HO0.out); (case side2 => exact HO0.out); rintro e w3 ⟨v160, rfl, ho0, hb⟩; refine ⟨_, rfl, ?_⟩; have n0_ := Aside0.mk (Kd.V_below (by (with_reducible repeat (first | apply Kd.V_alloc | apply Kd.V_drewN | apply Kd.V_drew)); exact HO0.out) hb); have n1_ := Aside0.mk (Kd.V_lower (Kd.V_mono (ok' := fun k_ => (P0_ k_ ∨ w.heap.size ≤ k_)) ho0 (fun k_ hk_ => Or.elim hk_ (fun hs_ => Or.elim hs_ (fun hs_ => hs_) (fun hs_ => hs_)) (fun hn_ => (.inr (Nat.le_trans (below_size (by repeat (first | (with_reducible first | exact HB.out | apply below_alloc | apply pw_below_drewN | apply below_drew1) | exact HB.out))) hn_))))) (below_size (by repeat (first | (with_reducible first | exact HB.out | apply below_alloc | apply pw_below_drewN | apply below_drew1) | exact HB.out)))); have n2_ := Aside0.mk (below_step (by repeat (first | (with_reducible first | exact HB.out | apply below_alloc | apply pw_below_drewN | apply below_drew1) | exact HB.out)) hb); clear HO0; clear HB; have HO0 := n0_; have HO161 := n1_; have HB := n2_; clear n0_ n1_ n2_; (try clear hb); (try clear hb2); (try clear hk); (try clear hi); (try clear ho0)))
  go_ret
  exact ⟨_, by first | rfl | (simp [errW_none, errW_some] <;> rfl) | (simp [*, errW_none, errW_some] <;> rfl), by (with_reducible repeat (first | apply Kd.V_alloc | apply Kd.V_drewN | apply Kd.V_drew)); exact HO161.out, by repeat (first | (with_reducible first | exact HB.out | apply below_alloc | apply pw_below_drewN | apply below_drew1) | exact HB.out)⟩

end Go.Proofs.Ytbpobnlkfpjijaa.Pr
end
-- Pr22
section
namespace Go.Proofs.Ytbpobnlkfpjijaa.Pr
open Go.RowKit Go.Proofs.YtbpobnlkfpjijaaW.PrintWords Go.Proofs.YtbpobnlkfpjijaaW.PrintLast Go.Proofs.YtbpobnlkfpjijaaW.PrintMore
attribute [local go_sem] max2_int min2_int max_two min_two max_three min_three max_four min_four   -- for this text's walks alone
set_option linter.unusedVariables false
set_option linter.unusedSimpArgs false

attribute [local go_sem] Go.Proofs.Aid.cell_set_row
mutual
def quot_Pow.j0 : Nat → List Int → Int → Option (List Int × Int)
 | 0, _, _ => none
 | k + 1, x0, x1 => (some (([1] : List Int) : List Int)).bind fun y163 => ((nat_Len.f k x0).bind fun t166 => (if t166 = 0 then (quot_Pow.j1 k x0 x1 y163 (decide (x1 > 0))) else (quot_Pow.j1 k x0 x1 y163 false)))
def quot_Pow.j1 : Nat → List Int → Int → List Int → Bool → Option (List Int × Int)
 | 0, _, _, _, _ => none
 | k + 1, x0, x1, x7, x29 => if x29 = true then (some (([] : List Int), 0)) else (quot_Pow.l0 k x0 x1 x7)
def quot_Pow.l0 : Nat → List Int → Int → List Int → Option (List Int × Int)
 | 0, _, _, _ => none
 | k + 1, x0, x1, x7 => if x1 > 0 then (if (Int.tmod x1 2) = 1 then ((prod_Kara.f x7 x0 24).bind fun t167 => (if x1 > 1 then ((prod_Square.f x0).bind fun t170 => (quot_Pow.l0 k t170 (wrap64 (Int.tdiv x1 2)) t167)) else (quot_Pow.l0 k x0 (wrap64 (Int.tdiv x1 2)) t167))) else (if x1 > 1 then ((prod_Square.f x0).bind fun t173 => (quot_Pow.l0 k t173 (wrap64 (Int.tdiv x1 2)) x7)) else (quot_Pow.l0 k x0 (wrap64 (Int.tdiv x1 2)) x7))) else (some (x7, 0))
end
def quot_Pow.f (k : Nat) (l0 : List Int) (a1 : Int) : Option (List Int × Int) := (nat_Len.f k l0).bind fun t162 => (if a1 < 0 then (some (([] : List Int), 1)) else (if t162 > 0 then (if t162 = 0 then (none) else (if a1 > (wrap64 (Int.tdiv (262144 : Int) t162)) then (some (([] : List Int), 4)) else (quot_Pow.j0 k l0 a1))) else (quot_Pow.j0 k l0 a1)))
theorem quot_Pow.mono_l : ∀ k, (∀ y0 y1, LeO (quot_Pow.j0 k y0 y1) (quot_Pow.j0 (k + 1) y0 y1)) ∧ (∀ y0 y1 y2 y3, LeO (quot_Pow.j1 k y0 y1 y2 y3) (quot_Pow.j1 (k + 1) y0 y1 y2 y3)) ∧ (∀ y0 y1 y2, LeO (quot_Pow.l0 k y0 y1 y2) (quot_Pow.l0 (k + 1) y0 y1 y2))
 | 0 => ⟨fun _ _ r h => by simp [quot_Pow.j0] at h, fun _ _ _ _ r h => by simp [quot_Pow.j1] at h, fun _ _ _ r h => by simp [quot_Pow.l0] at h⟩
 | k + 1 => by
  obtain ⟨ih0, ih1, ih2⟩ := quot_Pow.mono_l k
  refine ⟨?_, ?_, ?_⟩
  ·intro y0 y1
   unfold quot_Pow.j0
   repeat' first
   | (with_reducible exact ih0 _ _)
   | (with_reducible exact ih1 _ _ _ _)
   | (with_reducible exact ih2 _ _ _)
   | (with_reducible exact nat_Len.mono _ _)
   | (with_reducible exact LeO.refl _)
   | (with_reducible exact LeO.none _)
   | (with_reducible refine LeO.ite ?_ ?_)
   | (with_reducible refine LeO.bind ?_ (fun _ => ?_))
   | exact ih0 _ _
   | exact ih1 _ _ _ _
   | exact ih2 _ _ _
   | exact nat_Len.mono _ _
   | exact LeO.none _
   | refine LeO.ite ?_ ?_
   | refine LeO.bind ?_ (fun _ => ?_)
  ·intro y0 y1 y2 y3
   unfold quot_Pow.j1
   repeat' first
   | (with_reducible exact ih0 _ _)
   | (with_reducible exact ih1 _ _ _ _)
   | (with_reducible exact ih2 _ _ _)
   | (with_reducible exact nat_Len.mono _ _)
   | (with_reducible exact LeO.refl _)
   | (with_reducible exact LeO.none _)
   | (with_reducible refine LeO.ite ?_ ?_)
   | (with_reducible refine LeO.bind ?_ (fun _ => ?_))
   | exact ih0 _ _
   | exact ih1 _ _ _ _
   | exact ih2 _ _ _
   | exact nat_Len.mono _ _
   | exact LeO.none _
   | refine LeO.ite ?_ ?_
   | refine LeO.bind ?_ (fun _ => ?_)
  intro y0 y1 y2
  unfold quot_Pow.l0
  repeat' first
  | (with_reducible exact ih0 _ _)
  | (with_reducible exact ih1 _ _ _ _)
  | (with_reducible exact ih2 _ _ _)
  | (with_reducible exact nat_Len.mono _ _)
  | (with_reducible exact LeO.refl _)
  | (with_reducible exact LeO.none _)
  | (with_reducible refine LeO.ite ?_ ?_)
  | (with_reducible refine LeO.bind ?_ (fun _ => ?_))
  | exact ih0 _ _
  | exact ih1 _ _ _ _
  | exact ih2 _ _ _
  | exact nat_Len.mono _ _
  | exact LeO.none _
  | refine LeO.ite ?_ ?_
  | refine LeO.bind ?_ (fun _ => ?_)
theorem quot_Pow.mono : ∀ a0 a1 k, LeO (quot_Pow.f k a0 a1) (quot_Pow.f (k + 1) a0 a1) := by
 intro a0 a1 k
 obtain ⟨ih0, ih1, ih2⟩ := quot_Pow.mono_l k
 unfold quot_Pow.f
 repeat' first
   | (with_reducible exact ih0 _ _)
   | (with_reducible exact ih1 _ _ _ _)
   | (with_reducible exact ih2 _ _ _)
   | (with_reducible exact nat_Len.mono _ _)
   | (with_reducible exact LeO.refl _)
   | (with_reducible exact LeO.none _)
   | (with_reducible refine LeO.ite ?_ ?_)
   | (with_reducible refine LeO.bind ?_ (fun _ => ?_))
   | exact ih0 _ _
   | exact ih1 _ _ _ _
   | exact ih2 _ _ _
   | exact nat_Len.mono _ _
   | exact LeO.none _
   | refine LeO.ite ?_ ?_
   | refine LeO.bind ?_ (fun _ => ?_)
set_option maxHeartbeats 8000000 in
set_option maxRecDepth 100000 in
theorem quot_Pow.calls (k : Nat) (P0_ : Nat → Prop) (A0 : Option Addr) (c0 : Nat) (l0 : List Int) (a1 : Int) (r1 : List Int) (r2 : Int) (w : World) (hs0 : Kd.V (Kd.int .u64) 57 w w.heap.size (fun k_ => P0_ k_) (.slice A0 l0.length c0) l0) (h : quot_Pow.f k l0 a1 = some (r1, r2)) :
  Calls Try.prog 52 #[.slice A0 l0.length c0, .int .i64 a1] w fun e w' => ∃ v0_ : Value, e = .returned (.tuple #[v0_, .int .i64 r2]) ∧ Kd.V (Kd.int .u64) 57 w' w.heap.size (fun k_ => (P0_ k_ ∨ w.heap.size ≤ k_)) v0_ r1 ∧ Below w.heap.size w w' := by
 have HO0 := A_ (show Kd.V (Kd.int .u64) 57 w w.heap.size (fun k_ => (P0_ k_ ∨ w.heap.size ≤ k_)) (.slice A0 l0.length c0) l0 from Kd.V_mono hs0 (fun k_ hk => .inl hk)); have HB := A_ (Below.refl w.heap.size w)
 have H : ((nat_Len.f k l0).bind fun t162 => (if a1 < 0 then (some (([] : List Int), 1)) else (if t162 > 0 then (if t162 = 0 then (none) else (if a1 > (wrap64 (Int.tdiv (262144 : Int) t162)) then (some (([] : List Int), 4)) else (quot_Pow.j0 k l0 a1))) else (quot_Pow.j0 k l0 a1)))) = some (r1, r2) := h
 clear h
 replace H := Option.bind_eq_some_iff.mp H
 obtain ⟨t162, A30, H⟩ := H
 replace H : (if a1 < 0 then (some (([] : List Int), 1)) else (if t162 > 0 then (if t162 = 0 then (none) else (if a1 > (wrap64 (Int.tdiv (262144 : Int) t162)) then (some (([] : List Int), 4)) else (quot_Pow.j0 k l0 a1))) else (quot_Pow.j0 k l0 a1))) = some (r1, r2) := H
 have A3 := A_ A30; clear A30; have HC4 := A_ H; clear H
 go_enter Try.func52, Try.ntmps52
 go_upto_block 0 with (first | ((with_reducible refine gate_callee (f := 70) rfl ?_); refine goesL_ (some 9) rfl rfl Try.func70 (by kernel_rfl) rfl #[.slice A0 l0.length c0] rfl (by (try simp only [List.map_toArray, List.map_cons, List.map_nil]); first | done | rfl | (simp only [List.length_drop, List.length_take]; rfl)) ?_; (with_reducible refine (nat_Len.calls k _ _ l0 t162 _ ?side1 ?side2 A3.out).mono ?_); (case side1 => repeat (first | exact (Kd.V_reads' HO0.out).2.2 | (with_reducible refine Kd.C_alloc ?_ _) | (with_reducible refine Kd.C_drewN ?_ _) | (with_reducible refine Kd.C_drew ?_))); (case side2 => exact (Kd.V_reads' HO0.out).2.1); rintro e w5 ⟨rfl, hb⟩; refine ⟨_, rfl, ?_⟩; replace HO0 := A_ (Kd.V_below (v_ HO0) hb); replace HB := A_ (below_step (hB_ w) hb); (try clear hb); (try clear hb2); (try clear hk); (try clear hi)))
 (try simp only [Act.put, List.setIfInBounds_toArray, List.set_cons_zero, List.set_cons_succ])
 go_cut [] (fun wc => ∃ (kq : Nat), AsC (quot_Pow.j0 kq l0 a1 = some (r1, r2)) ∧ AsC (kq ≤ k) ∧ AsC (Kd.V (Kd.int .u64) 57 wc w.heap.size (fun k_ => (P0_ k_ ∨ w.heap.size ≤ k_)) (.slice A0 l0.length c0) l0) ∧ AsC (Below w.heap.size w wc))
 case first =>
  have H := HC4.out; clear HC4
  by_cases c6 : a1 < 0
  ·rw [if_pos c6] at H
   have c6b0 : decide (a1 < 0) = true := decide_eq_true c6
   clear c6
   (first | rw [c6b0] | (simp only [i64_w, i32_w]; rw [c6b0]) | skip)
   simp only [Option.some.injEq, Prod.mk.injEq] at H
   obtain ⟨rfl, rfl⟩ := H
   go_wp2
   go_ret2
   exact ⟨_, by first | rfl | (simp [errW_none, errW_some] <;> rfl) | (simp [*, errW_none, errW_some] <;> rfl), by exact Kd.V_nil _ _ _ _ _, hB_ w⟩
  rw [if_neg c6] at H
  have c6b0 : decide (a1 < 0) = false := decide_eq_false c6
  clear c6
  (first | rw [c6b0] | (simp only [i64_w, i32_w]; rw [c6b0]) | skip)
  by_cases c7 : t162 > 0
  ·rw [if_pos c7] at H
   have c7b0 : decide (0 < t162) = true := decide_eq_true c7
   clear c7
   by_cases c8 : t162 = 0
   ·rw [if_pos c8] at H
    exact absurd H (by simp)
   rw [if_neg c8] at H
   have c8b0 : (t162 == 0) = false := beq_eq_false_iff_ne.mpr c8
   have c8b1 : (t162 != 0) = true := bne_iff_ne.mpr c8
   by_cases c9 : a1 > (wrap64 (Int.tdiv (262144 : Int) t162))
   ·rw [if_pos c9] at H
    have c9b0 : decide ((wrap64 (Int.tdiv (262144 : Int) t162)) < a1) = true := decide_eq_true c9
    clear c9
    simp only [Option.some.injEq, Prod.mk.injEq] at H
    obtain ⟨rfl, rfl⟩ := H
    go_wp2
    go_ret2
    exact ⟨_, by first | rfl | (simp [errW_none, errW_some] <;> rfl) | (simp [*, errW_none, errW_some] <;> rfl), by exact Kd.V_nil _ _ _ _ _, hB_ w⟩
   rw [if_neg c9] at H
   have c9b0 : decide ((wrap64 (Int.tdiv (262144 : Int) t162)) < a1) = false := decide_eq_false c9
   clear c9
   have H' := A_ H
   clear H
   go_wp2
   go_meet
   case rel => exact ⟨_, H', ⟨by first | omega | exact Nat.le_refl _⟩, ⟨v_ HO0⟩, ⟨hB_ w⟩⟩
  rw [if_neg c7] at H
  have c7b0 : decide (0 < t162) = false := decide_eq_false c7
  clear c7
  have H' := A_ H
  clear H
  go_wp2
  go_meet
  case rel => exact ⟨_, H', ⟨by first | omega | exact Nat.le_refl _⟩, ⟨v_ HO0⟩, ⟨hB_ w⟩⟩
 case rest =>
  clear HC4; try clear p2; try clear c5; try clear c6; try clear c6b0; try clear p6; try clear c7; try clear c7b0; try clear c8; try clear c8b0; try clear c8b1; try clear c9; try clear c9b0
  obtain ⟨kq, HA, HJ3, HO_0, HB⟩ := hcut
  cases kq with
  | zero => exact absurd HA.out (by simp [quot_Pow.j0])
  | succ kj3 =>
   have H := HA.out; clear HA
   simp only [quot_Pow.j0] at H
   obtain ⟨y163, hy163⟩ : ∃ y_ : List Int, y_ = (([1] : List Int)) := ⟨_, rfl⟩
   replace H : ((nat_Len.f kj3 l0).bind fun t166 => (if t166 = 0 then (quot_Pow.j1 kj3 l0 a1 y163 (decide (a1 > 0))) else (quot_Pow.j1 kj3 l0 a1 y163 false))) = some (r1, r2) := by first | (rw [hy163]; with_reducible exact H) | (have H2_ := (Option.bind_some _ _).symm.trans H; rw [hy163]; with_reducible exact H2_) | (have H2_ := (Option.bind_some _ _).symm.trans H; with_reducible exact H2_) | with_reducible exact H | (rw [hy163]; exact H) | exact H
   have Ny163 := A_ hy163; clear hy163; have HC10 := A_ H; clear H
   go_upto_region 7 with (first | ((with_reducible refine gate_dst (N := 22) rfl ?_); refine Kd.R_lit (Kd.int .u64) _ 57 ?hg (N := 22) ?hd (xs := ([1] : List Int)) (inner := [.int .u64 1]) (ok := fun _ => True) (okp := fun _ => True) ?hr ?hp (fun _ hk => hk) trivial (Below.refl _ _) (Nat.le_refl _) (by simp) ?_; (case hd => rfl); (case hg => rfl); (case hr => first | (go_simp; done) | (go_simp; rfl)); (case hp => exact (Reps.one (show Kd.M (Kd.int .u64) _ _ _ 1 [.int .u64 1] from rfl) (Reps.none _ _))); intro v164 w11 ho12 hb hg_ hnew_; clear hg_ hnew_; (first | rw [← Ny163.out] at ho12 | (simp only [Int.reduceToNat] at ho12; rw [← Ny163.out] at ho12)); replace HO_0 := A_ (Kd.V_elder' (v_ HO_0) (Kd.R_base ho12) hb); have HO165 := A_ (Kd.R_lower (Kd.R_newM (M := fun k_ => (w.heap.size ≤ k_)) ho12 (below_size (hB_ w)) (fun k_ h_ => h_)) (below_size (hB_ w))); replace HB := A_ (below_step (hB_ w) hb); clear hb ho12))
   (try simp only [Act.put, List.setIfInBounds_toArray, List.set_cons_zero, List.set_cons_succ])
   go_cut [29] (fun v29 wc => ∃ (kq : Nat) (x29_9 : Bool), v29 = .bool x29_9 ∧ AsC (quot_Pow.j1 kq l0 a1 y163 x29_9 = some (r1, r2)) ∧ AsC (kq ≤ kj3) ∧ AsC (Kd.V (Kd.int .u64) 57 wc w.heap.size (fun k_ => (P0_ k_ ∨ w.heap.size ≤ k_)) (.slice A0 l0.length c0) l0) ∧ AsC (Kd.R (Kd.int .u64) 57 wc w.heap.size (fun k_ => (w.heap.size ≤ k_)) v164 y163) ∧ AsC (Below w.heap.size w wc))
   case first =>
    have H := HC10.out; clear HC10
    replace H := Option.bind_eq_some_iff.mp H
    obtain ⟨t166, A130, H⟩ := H
    replace H : (if t166 = 0 then (quot_Pow.j1 kj3 l0 a1 y163 (decide (a1 > 0))) else (quot_Pow.j1 kj3 l0 a1 y163 false)) = some (r1, r2) := H
    have A13 := A_ A130; clear A130
    by_cases c14 : t166 = 0
    ·rw [if_pos c14] at H
     have c14b0 : (t166 == 0) = true := beq_iff_eq.mpr c14
     have c14b1 : (t166 != 0) = false := bne_eq_false_iff_eq.mpr c14
     clear c14
     (first | rw [c14b0] | (simp only [i64_w, i32_w]; rw [c14b0]) | skip)
     have H' := A_ H
     clear H
     go_wp2_with (first | ((with_reducible refine gate_callee (f := 70) rfl ?_); refine goesL_ (some 24) rfl rfl Try.func70 (by kernel_rfl) rfl #[.slice A0 l0.length c0] rfl (by (try simp only [List.map_toArray, List.map_cons, List.map_nil]); first | done | rfl | (simp only [List.length_drop, List.length_take]; rfl)) ?_; (with_reducible refine (nat_Len.calls kj3 _ _ l0 t166 _ ?side1 ?side2 A13.out).mono ?_); (case side1 => repeat (first | exact (Kd.V_reads' HO_0.out).2.2 | (with_reducible refine Kd.C_alloc ?_ _) | (with_reducible refine Kd.C_drewN ?_ _) | (with_reducible refine Kd.C_drew ?_))); (case side2 => exact (Kd.V_reads' HO_0.out).2.1); rintro e w15 ⟨rfl, hb⟩; refine ⟨_, rfl, ?_⟩; replace HO_0 := A_ (Kd.V_below (v_ HO_0) hb); replace HO165 := A_ (Kd.R_below (r_ HO165) hb); replace HB := A_ (below_step (hB_ w) hb); (try clear hb); (try clear hb2); (try clear hk); (try clear hi)))
     go_meet
     case rel => exact ⟨_, (decide (a1 > 0)), (by first | rfl | (simp; done) | (simp [*]; done)), H', ⟨by have := HJ3.out; first | omega | exact Nat.le_refl _⟩, ⟨Kd.V_mono (v_ HO_0) (fun _ hk => hk.1)⟩, ⟨Kd.R_mono (r_ HO165) (fun _ hk => hk.1)⟩, ⟨hB_ w⟩⟩
    rw [if_neg c14] at H
    have c14b0 : (t166 == 0) = false := beq_eq_false_iff_ne.mpr c14
    have c14b1 : (t166 != 0) = true := bne_iff_ne.mpr c14
    (first | rw [c14b0] | (simp only [i64_w, i32_w]; rw [c14b0]) | skip)
    have H' := A_ H
    clear H
    go_wp2_with (first | ((with_reducible refine gate_callee (f := 70) rfl ?_); refine goesL_ (some 24) rfl rfl Try.func70 (by kernel_rfl) rfl #[.slice A0 l0.length c0] rfl (by (try simp only [List.map_toArray, List.map_cons, List.map_nil]); first | done | rfl | (simp only [List.length_drop, List.length_take]; rfl)) ?_; (with_reducible refine (nat_Len.calls kj3 _ _ l0 t166 _ ?side1 ?side2 A13.out).mono ?_); (case side1 => repeat (first | exact (Kd.V_reads' HO_0.out).2.2 | (with_reducible refine Kd.C_alloc ?_ _) | (with_reducible refine Kd.C_drewN ?_ _) | (with_reducible refine Kd.C_drew ?_))); (case side2 => exact (Kd.V_reads' HO_0.out).2.1); rintro e w16 ⟨rfl, hb⟩; refine ⟨_, rfl, ?_⟩; replace HO_0 := A_ (Kd.V_below (v_ HO_0) hb); replace HO165 := A_ (Kd.R_below (r_ HO165) hb); replace HB := A_ (below_step (hB_ w) hb); (try clear hb); (try clear hb2); (try clear hk); (try clear hi)))
    go_meet
    case rel => exact ⟨_, (false), (by first | rfl | (simp; done) | (simp [*]; done)), H', ⟨by have := HJ3.out; first | omega | exact Nat.le_refl _⟩, ⟨Kd.V_mono (v_ HO_0) (fun _ hk => hk.1)⟩, ⟨Kd.R_mono (r_ HO165) (fun _ hk => hk.1)⟩, ⟨hB_ w⟩⟩
   case rest =>
    clear HC10; try clear c1; try clear p2; try clear c5; try clear c6; try clear c6b0; try clear p6; try clear c7; try clear c7b0; try clear c8; try clear c8b0; try clear c8b1; try clear c9; try clear c9b0; try clear c14; try clear c14b0; try clear c14b1; try clear p2; try clear p6
    obtain ⟨kq, x29_9, rfl, HA, HJ9, HO_0, HO_7, HB⟩ := hcut
    cases kq with
    | zero => exact absurd HA.out (by simp [quot_Pow.j1])
    | succ kj9 =>
     have H := HA.out; clear HA
     simp only [quot_Pow.j1] at H
     by_cases c17 : x29_9 = true
     ·subst c17
      have H1 : (some (([] : List Int), 0)) = some (r1, r2) := by rw [if_pos rfl] at H; exact H
      clear H
      have H := H1
      clear H1
      simp only [Option.some.injEq, Prod.mk.injEq] at H
      obtain ⟨rfl, rfl⟩ := H
      go_wp2
      go_ret2
      exact ⟨_, by first | rfl | (simp [errW_none, errW_some] <;> rfl) | (simp [*, errW_none, errW_some] <;> rfl), by exact Kd.V_nil _ _ _ _ _, hB_ w⟩
     replace c17 := Bool.eq_false_iff.mpr c17
     subst c17
     have H1 : (quot_Pow.l0 kj9 l0 a1 y163) = some (r1, r2) := by rw [if_neg (show ¬ (false = true) by decide)] at H; exact H
     clear H
     have H := H1
     clear H1
     have H' := A_ H
     clear H
     go_wp2
     go_loopg [0, 1, 7] kj9 (fun kq v0 v1 v7 w' => ∃ (x0_3 : List Int) (x1_3 : Int) (x7_3 : List Int), v1 = .int .i64 x1_3 ∧ AsC (quot_Pow.l0 kq x0_3 x1_3 x7_3 = some (r1, r2)) ∧ AsC (kq ≤ kj9) ∧ AsC (Kd.V (Kd.int .u64) 57 w' w.heap.size (fun k_ => (P0_ k_ ∨ w.heap.size ≤ k_)) v0 x0_3) ∧ AsC (Kd.V (Kd.int .u64) 57 w' w.heap.size (fun k_ => (P0_ k_ ∨ w.heap.size ≤ k_)) v7 x7_3) ∧ AsC (Below w.heap.size w w'))
     case atStart => exact ⟨(l0), (a1), (y163), (by first | rfl | (simp; done) | (simp [*]; done)), H', ⟨Nat.le_refl _⟩, ⟨v_ HO_0⟩, ⟨Kd.V_mono (Kd.R_V (r_ HO_7)) (fun k_ hk => by first | exact ⟨(.inr (hk.1)), hk.2⟩ | exact (.inr (hk)))⟩, ⟨hB_ w⟩⟩
     case round =>
      clear H'; try clear c1; try clear p2; try clear c5; try clear c6; try clear c6b0; try clear p6; try clear c7; try clear c7b0; try clear c8; try clear c8b0; try clear c8b1; try clear c9; try clear c9b0; try clear c14; try clear c14b0; try clear c14b1; try clear c17; try clear p2; try clear p6
      obtain ⟨x0_3, x1_3, x7_3, rfl, HA, HK3, HO_0, HO_7, HB⟩ := hrel
      cases gk with
      | zero => exact absurd HA.out (by simp [quot_Pow.l0])
      | succ k3 =>
       have H := HA.out; clear HA
       simp only [quot_Pow.l0] at H
       by_cases c18 : x1_3 > 0
       ·rw [if_pos c18] at H
        have c18b0 : decide (0 < x1_3) = true := decide_eq_true c18
        clear c18
        by_cases c19 : (Int.tmod x1_3 2) = 1
        ·rw [if_pos c19] at H
         have c19b0 : ((Int.tmod x1_3 2) == 1) = true := beq_iff_eq.mpr c19
         have c19b1 : ((Int.tmod x1_3 2) != 1) = false := bne_eq_false_iff_eq.mpr c19
         clear c19
         replace H := Option.bind_eq_some_iff.mp H
         obtain ⟨t167, A200, H⟩ := H
         replace H : (if x1_3 > 1 then ((prod_Square.f x0_3).bind fun t170 => (quot_Pow.l0 k3 t170 (wrap64 (Int.tdiv x1_3 2)) t167)) else (quot_Pow.l0 k3 x0_3 (wrap64 (Int.tdiv x1_3 2)) t167)) = some (r1, r2) := H
         have A20 := A_ A200; clear A200
         by_cases c21 : x1_3 > 1
         ·rw [if_pos c21] at H
          have c21b0 : decide (1 < x1_3) = true := decide_eq_true c21
          clear c21
          replace H := Option.bind_eq_some_iff.mp H
          obtain ⟨t170, A220, H⟩ := H
          replace H : (quot_Pow.l0 k3 t170 (wrap64 (Int.tdiv x1_3 2)) t167) = some (r1, r2) := H
          have A22 := A_ A220; clear A220
          have H' := A_ H
          clear H
          obtain ⟨Ao23, co23, eo23⟩ := Kd.V_slice HO_7.out
          subst eo23
          obtain ⟨Ao24, co24, eo24⟩ := Kd.V_slice HO_0.out
          subst eo24
          go_wp2_with (first | ((with_reducible refine gate_callee (f := 71) rfl ?_); refine goesL_ (some 37) rfl rfl Try.func71 (by kernel_rfl) rfl #[.slice Ao23 x7_3.length co23, .slice Ao24 x0_3.length co24, .int .i64 24] rfl (by (try simp only [List.map_toArray, List.map_cons, List.map_nil]); first | done | rfl | (simp only [List.length_drop, List.length_take]; rfl)) ?_; (with_reducible refine (prod_Kara.calls (fun k_ => (P0_ k_ ∨ w.heap.size ≤ k_)) _ _ x7_3 (fun k_ => (P0_ k_ ∨ w.heap.size ≤ k_)) _ _ x0_3 24 t167 _ ?side1 ?side2 A20.out).mono ?_); (case side1 => exact HO_7.out); (case side2 => exact HO_0.out); rintro e w25 ⟨v168, rfl, ho0, hb⟩; refine ⟨_, rfl, ?_⟩; replace HO_0 := A_ (Kd.V_below (v_ HO_0) hb); replace HO_7 := A_ (Kd.V_below (v_ HO_7) hb); have HO169 := A_ (Kd.V_lower (Kd.V_mono (ok' := fun k_ => (P0_ k_ ∨ w.heap.size ≤ k_)) ho0 (fun k_ hk_ => Or.elim hk_ (fun hs_ => Or.elim hs_ (fun hs_ => hs_) (fun hs_ => hs_)) (fun hn_ => (.inr (Nat.le_trans (below_size (hB_ w)) hn_))))) (below_size (hB_ w))); replace HB := A_ (below_step (hB_ w) hb); (try clear hb); (try clear hb2); (try clear hk); (try clear hi); (try clear ho0)) | ((with_reducible refine gate_callee (f := 72) rfl ?_); refine goesL_ (some 41) rfl rfl Try.func72 (by kernel_rfl) rfl #[.slice Ao24 x0_3.length co24] rfl (by (try simp only [List.map_toArray, List.map_cons, List.map_nil]); first | done | rfl | (simp only [List.length_drop, List.length_take]; rfl)) ?_; (with_reducible refine (prod_Square.calls (fun k_ => (P0_ k_ ∨ w.heap.size ≤ k_)) _ _ x0_3 t170 _ ?side1 A22.out).mono ?_); (case side1 => exact HO_0.out); rintro e w26 ⟨v171, rfl, ho0, hb⟩; refine ⟨_, rfl, ?_⟩; replace HO_0 := A_ (Kd.V_below (v_ HO_0) hb); replace HO_7 := A_ (Kd.V_below (v_ HO_7) hb); replace HO169 := A_ (Kd.V_below (v_ HO169) hb); have HO172 := A_ (Kd.V_lower (Kd.V_mono (ok' := fun k_ => (P0_ k_ ∨ w.heap.size ≤ k_)) ho0 (fun k_ hk_ => Or.elim hk_ (fun hs_ => hs_) (fun hn_ => (.inr (Nat.le_trans (below_size (hB_ w)) hn_))))) (below_size (hB_ w))); replace HB := A_ (below_step (hB_ w) hb); (try clear hb); (try clear hb2); (try clear hk); (try clear hi); (try clear ho0)))
          go_roundg k3
          case measure => have := HJ3.out; have := HJ9.out; have := HK3.out; omega
          case rel => exact ⟨(t170), (wrap64 (Int.tdiv x1_3 2)), (t167), (by first | rfl | (simp; done) | (simp [*]; done)), H', ⟨by have := HJ3.out; have := HJ9.out; have := HK3.out; omega⟩, ⟨v_ HO172⟩, ⟨v_ HO169⟩, ⟨hB_ w⟩⟩
         rw [if_neg c21] at H
         have c21b0 : decide (1 < x1_3) = false := decide_eq_false c21
         clear c21
         have H' := A_ H
         clear H
         obtain ⟨Ao27, co27, eo27⟩ := Kd.V_slice HO_7.out
         subst eo27
         obtain ⟨Ao28, co28, eo28⟩ := Kd.V_slice HO_0.out
         subst eo28
         go_wp2_with (first | ((with_reducible refine gate_callee (f := 71) rfl ?_); refine goesL_ (some 37) rfl rfl Try.func71 (by kernel_rfl) rfl #[.slice Ao27 x7_3.length co27, .slice Ao28 x0_3.length co28, .int .i64 24] rfl (by (try simp only [List.map_toArray, List.map_cons, List.map_nil]); first | done | rfl | (simp only [List.length_drop, List.length_take]; rfl)) ?_; (with_reducible refine (prod_Kara.calls (fun k_ => (P0_ k_ ∨ w.heap.size ≤ k_)) _ _ x7_3 (fun k_ => (P0_ k_ ∨ w.heap.size ≤ k_)) _ _ x0_3 24 t167 _ ?side1 ?side2 A20.out).mono ?_); (case side1 => exact HO_7.out); (case side2 => exact HO_0.out); rintro e w29 ⟨v168, rfl, ho0, hb⟩; refine ⟨_, rfl, ?_⟩; replace HO_0 := A_ (Kd.V_below (v_ HO_0) hb); replace HO_7 := A_ (Kd.V_below (v_ HO_7) hb); have HO169 := A_ (Kd.V_lower (Kd.V_mono (ok' := fun k_ => (P0_ k_ ∨ w.heap.size ≤ k_)) ho0 (fun k_ hk_ => Or.elim hk_ (fun hs_ => Or.elim hs_ (fun hs_ => hs_) (fun hs_ => hs_)) (fun hn_ => (.inr (Nat.le_trans (below_size (hB_ w)) hn_))))) (below_size (hB_ w))); replace HB := A_ (below_step (hB_ w) hb); (try clear hb); (try clear hb2); (try clear hk); (try clear hi); (try clear ho0)))
         go_roundg k3
         case measure => have := HJ3.out; have := HJ9.out; have := HK3.out; omega
         case rel => exact ⟨(x0_3), (wrap64 (Int.tdiv x1_3 2)), (t167), (by first | rfl | (simp; done) | (simp [*]; done)), H', ⟨by have := HJ3.out; have := HJ9.out; have := HK3.out; omega⟩, ⟨v_ HO_0⟩, ⟨v_ HO169⟩, ⟨hB_ w⟩⟩
        rw [if_neg c19] at H
        have c19b0 : ((Int.tmod x1_3 2) == 1) = false := beq_eq_false_iff_ne.mpr c19
        have c19b1 : ((Int.tmod x1_3 2) != 1) = true := bne_iff_ne.mpr c19
        by_cases c30 : x1_3 > 1
        ·rw [if_pos c30] at H
         have c30b0 : decide (1 < x1_3) = true := decide_eq_true c30
         clear c30
         replace H := Option.bind_eq_some_iff.mp H
         obtain ⟨t173, A310, H⟩ := H
         replace H : (quot_Pow.l0 k3 t173 (wrap64 (Int.tdiv x1_3 2)) x7_3) = some (r1, r2) := H
         have A31 := A_ A310; clear A310
         have H' := A_ H
         clear H
         obtain ⟨Ao32, co32, eo32⟩ := Kd.V_slice HO_0.out
         subst eo32
         go_wp2_with (first | ((with_reducible refine gate_callee (f := 72) rfl ?_); refine goesL_ (some 41) rfl rfl Try.func72 (by kernel_rfl) rfl #[.slice Ao32 x0_3.length co32] rfl (by (try simp only [List.map_toArray, List.map_cons, List.map_nil]); first | done | rfl | (simp only [List.length_drop, List.length_take]; rfl)) ?_; (with_reducible refine (prod_Square.calls (fun k_ => (P0_ k_ ∨ w.heap.size ≤ k_)) _ _ x0_3 t173 _ ?side1 A31.out).mono ?_); (case side1 => exact HO_0.out); rintro e w33 ⟨v174, rfl, ho0, hb⟩; refine ⟨_, rfl, ?_⟩; replace HO_0 := A_ (Kd.V_below (v_ HO_0) hb); replace HO_7 := A_ (Kd.V_below (v_ HO_7) hb); have HO175 := A_ (Kd.V_lower (Kd.V_mono (ok' := fun k_ => (P0_ k_ ∨ w.heap.size ≤ k_)) ho0 (fun k_ hk_ => Or.elim hk_ (fun hs_ => hs_) (fun hn_ => (.inr (Nat.le_trans (below_size (hB_ w)) hn_))))) (below_size (hB_ w))); replace HB := A_ (below_step (hB_ w) hb); (try clear hb); (try clear hb2); (try clear hk); (try clear hi); (try clear ho0)))
         go_roundg k3
         case measure => have := HJ3.out; have := HJ9.out; have := HK3.out; omega
         case rel => exact ⟨(t173), (wrap64 (Int.tdiv x1_3 2)), (x7_3), (by first | rfl | (simp; done) | (simp [*]; done)), H', ⟨by have := HJ3.out; have := HJ9.out; have := HK3.out; omega⟩, ⟨v_ HO175⟩, ⟨v_ HO_7⟩, ⟨hB_ w⟩⟩
        rw [if_neg c30] at H
        have c30b0 : decide (1 < x1_3) = false := decide_eq_false c30
        clear c30
        have H' := A_ H
        clear H
        go_wp2
        go_roundg k3
        case measure => have := HJ3.out; have := HJ9.out; have := HK3.out; omega
        case rel => exact ⟨(x0_3), (wrap64 (Int.tdiv x1_3 2)), (x7_3), (by first | rfl | (simp; done) | (simp [*]; done)), H', ⟨by have := HJ3.out; have := HJ9.out; have := HK3.out; omega⟩, ⟨v_ HO_0⟩, ⟨v_ HO_7⟩, ⟨hB_ w⟩⟩
       rw [if_neg c18] at H
       have c18b0 : decide (0 < x1_3) = false := decide_eq_false c18
       clear c18
       simp only [Option.some.injEq, Prod.mk.injEq] at H
       obtain ⟨rfl, rfl⟩ := H
       go_wp2
       go_ret2
       exact ⟨_, by first | rfl | (simp [errW_none, errW_some] <;> rfl) | (simp [*, errW_none, errW_some] <;> rfl), by (with_reducible repeat (first|apply vA_|apply vN_|apply vD_)); exact HO_7.out, hB_ w⟩

end Go.Proofs.Ytbpobnlkfpjijaa.Pr
end
-- Pr23
section
namespace Go.Proofs.Ytbpobnlkfpjijaa.Pr
open Go.RowKit Go.Proofs.YtbpobnlkfpjijaaW.PrintWords Go.Proofs.YtbpobnlkfpjijaaW.PrintLast Go.Proofs.YtbpobnlkfpjijaaW.PrintMore
attribute [local go_sem] max2_int min2_int max_two min_two max_three min_three max_four min_four   -- for this text's walks alone
set_option linter.unusedVariables false
set_option linter.unusedSimpArgs false

attribute [local go_sem] Go.Proofs.Aid.cell_set_row
def nat_Scale.l0 : Nat → Int → List Int → Int → List Int → Int → Int → Option (List Int)
 | 0, _, _, _, _, _, _ => none
 | k + 1, x1, x5, x6, x17, x18, x19 => if x19 < x18 then (if 0 ≤ x19 then (if x19 < (x17.length : Int) then ((word_Mul.f (rd x17 x19) x1).bind fun bt180 => ((word_Add.f bt180.2 x6 0).bind fun bt182 => (if x5.length < 17592186044416 then (nat_Scale.l0 k x1 (x5 ++ [bt182.1]) (IntKind.u64.wrap (bt180.1 + bt182.2)) x17 x18 (wrap64 (x19 + 1))) else (none)))) else (none)) else (none)) else (if x5.length < 17592186044416 then ((nat_Norm.f k (x5 ++ [x6])).bind fun t190 => (some t190)) else (none))
def nat_Scale.f (k : Nat) (l0 : List Int) (a1 : Int) : Option (List Int) := if 0 ≤ (wrap64 ((l0.length : Int) + 1)) then (if (wrap64 ((l0.length : Int) + 1) : Int).toNat ≤ 35184372088832 then (nat_Scale.l0 k a1 (([] : List Int)) 0 l0 (l0.length : Int) 0) else (none)) else (none)
theorem nat_Scale.mono_l : ∀ k, (∀ y0 y1 y2 y3 y4 y5, LeO (nat_Scale.l0 k y0 y1 y2 y3 y4 y5) (nat_Scale.l0 (k + 1) y0 y1 y2 y3 y4 y5))
 | 0 => fun _ _ _ _ _ _ r h => by simp [nat_Scale.l0] at h
 | k + 1 => by
  have ih0 := nat_Scale.mono_l k
  intro y0 y1 y2 y3 y4 y5
  unfold nat_Scale.l0
  repeat' first
  | (with_reducible exact ih0 _ _ _ _ _ _)
  | (with_reducible exact nat_Norm.mono _ _)
  | (with_reducible exact LeO.refl _)
  | (with_reducible exact LeO.none _)
  | (with_reducible refine LeO.ite ?_ ?_)
  | (with_reducible refine LeO.bind ?_ (fun _ => ?_))
  | exact ih0 _ _ _ _ _ _
  | exact nat_Norm.mono _ _
  | exact LeO.none _
  | refine LeO.ite ?_ ?_
  | refine LeO.bind ?_ (fun _ => ?_)
theorem nat_Scale.mono : ∀ a0 a1 k, LeO (nat_Scale.f k a0 a1) (nat_Scale.f (k + 1) a0 a1) := by
 intro a0 a1 k
 have ih0 := nat_Scale.mono_l k
 unfold nat_Scale.f
 repeat' first
   | (with_reducible exact ih0 _ _ _ _ _ _)
   | (with_reducible exact nat_Norm.mono _ _)
   | (with_reducible exact LeO.refl _)
   | (with_reducible exact LeO.none _)
   | (with_reducible refine LeO.ite ?_ ?_)
   | (with_reducible refine LeO.bind ?_ (fun _ => ?_))
   | exact ih0 _ _ _ _ _ _
   | exact nat_Norm.mono _ _
   | exact LeO.none _
   | refine LeO.ite ?_ ?_
   | refine LeO.bind ?_ (fun _ => ?_)
set_option maxHeartbeats 8000000 in
set_option maxRecDepth 100000 in
theorem nat_Scale.calls (k : Nat) (A0 : Option Addr) (c0 : Nat) (l0 : List Int) (a1 : Int) (r : List Int) (w : World) (hr0 : Kd.C (Kd.int .u64) w A0 l0.length l0) (hc0 : l0.length ≤ c0) (h : nat_Scale.f k l0 a1 = some r) :
  Calls Try.prog 55 #[.slice A0 l0.length c0, .int .u64 a1] w fun e w' => ∃ v0_ : Value, e = .returned (v0_) ∧ Kd.V (Kd.int .u64) 57 w' w.heap.size (fun k_ => (w.heap.size ≤ k_)) v0_ r ∧ Below w.heap.size w w' := by
 have HR0 := A_ hr0; have HC0 := A_ hc0; clear hr0 hc0; have HB := A_ (Below.refl w.heap.size w)
 have H : (if 0 ≤ (wrap64 ((l0.length : Int) + 1)) then (if (wrap64 ((l0.length : Int) + 1) : Int).toNat ≤ 35184372088832 then (nat_Scale.l0 k a1 (([] : List Int)) 0 l0 (l0.length : Int) 0) else (none)) else (none)) = some r := h
 clear h
 obtain ⟨ji3, hji3⟩ : ∃ j_ : Int, (wrap64 ((l0.length : Int) + 1)) = j_ := ⟨_, rfl⟩
 replace H : (if 0 ≤ (ji3) then (if (ji3 : Int).toNat ≤ 35184372088832 then (nat_Scale.l0 k a1 (([] : List Int)) 0 l0 (l0.length : Int) 0) else (none)) else (none)) = some r := by first | (rw [hji3] at H; exact H) | (simp only [hji3] at H ⊢; exact H)
 have hji3w : (IntKind.i64.wrap ((l0.length : Int) + 1)) = ji3 := (i64_w _).trans hji3
 by_cases c4 : 0 ≤ (ji3)
 ·rw [if_pos c4] at H
  have c4b0 := eq_true c4
  have c4b1 : decide (0 ≤ (ji3)) = true := decide_eq_true c4
  clear c4
  by_cases c5 : (ji3 : Int).toNat ≤ 35184372088832
  ·rw [if_pos c5] at H
   have c5b0 := eq_true c5
   have c5b1 : decide ((ji3 : Int).toNat ≤ 35184372088832) = true := decide_eq_true c5
   clear c5
   obtain ⟨y176, hy176⟩ : ∃ y_ : List Int, y_ = (([] : List Int)) := ⟨_, rfl⟩
   replace H : (nat_Scale.l0 k a1 y176 0 l0 (l0.length : Int) 0) = some r := by first | (rw [hy176]; with_reducible exact H) | (have H2_ := (Option.bind_some _ _).symm.trans H; rw [hy176]; with_reducible exact H2_) | (have H2_ := (Option.bind_some _ _).symm.trans H; with_reducible exact H2_) | with_reducible exact H | (rw [hy176]; exact H) | exact H
   have Ny176 := A_ hy176; clear hy176
   have H' := A_ H
   clear H
   go_enter Try.func55, Try.ntmps55
   go_wp2_with (first | ((with_reducible refine gate_dst (N := 16) rfl ?_); refine Go.Proofs.Aid.R_make_cap (Kd.int .u64) _ 57 rfl (N := 16) rfl 39 _ _ rfl ji3 rfl rfl Try.underlying39 (.int .u64 0) 8 info57 rfl (by decide) (by omega) (ok := fun _ => True) trivial (of_decide_eq_true (by first | (with_reducible assumption) | assumption)) (Nat.le_trans (Nat.mul_le_mul_right _ (of_decide_eq_true (by first | (with_reducible assumption) | assumption) : ji3.toNat ≤ 35184372088832)) (by omega)) (Below.refl _ _) (Nat.le_refl _) ?_; intro v177 w6 ho7 hb hg_ hnew_; clear hg_ hnew_; (first | rw [← Ny176.out] at ho7 | (simp only [Int.reduceToNat] at ho7; rw [← Ny176.out] at ho7)); have HO178 := A_ (Kd.R_lower (Kd.R_newM (M := fun k_ => (w.heap.size ≤ k_)) ho7 (below_size (hB_ w)) (fun k_ h_ => h_)) (below_size (hB_ w))); replace HB := A_ (below_step (hB_ w) hb); clear hb ho7))
   go_loopg [5, 6, 19] k (fun kq v5 v6 v19 w' => ∃ (x5_1 : List Int) (x6_1 : Int) (x19_1 : Int), v6 = .int .u64 x6_1 ∧ v19 = .int .i64 x19_1 ∧ AsC (nat_Scale.l0 kq a1 x5_1 x6_1 l0 (l0.length : Int) x19_1 = some r) ∧ AsC (kq ≤ k) ∧ AsC (Kd.R (Kd.int .u64) 57 w' w.heap.size (fun k_ => (w.heap.size ≤ k_)) v5 x5_1) ∧ AsC (Below w.heap.size w w'))
   case atStart => exact ⟨(y176), (0), (0), (by first | rfl | (simp; done) | (simp [*]; done)), (by first | rfl | (simp; done) | (simp [*]; done)), H', ⟨Nat.le_refl _⟩, ⟨Kd.R_mono (r_ HO178) (fun _ hk => hk.1)⟩, ⟨hB_ w⟩⟩
   case round =>
    clear H'; try clear p2; try clear c4; try clear c4b0; try clear c4b1; try clear c5; try clear c5b0; try clear c5b1; try clear p6
    obtain ⟨x5_1, x6_1, x19_1, rfl, rfl, HA, HK1, HO_5, HB⟩ := hrel
    cases gk with
    | zero => exact absurd HA.out (by simp [nat_Scale.l0])
    | succ k1 =>
     have H := HA.out; clear HA
     simp only [nat_Scale.l0] at H
     by_cases c8 : x19_1 < (l0.length : Int)
     ·rw [if_pos c8] at H
      have c8b0 : decide (x19_1 < (l0.length : Int)) = true := decide_eq_true c8
      clear c8
      by_cases c9 : 0 ≤ x19_1
      ·rw [if_pos c9] at H
       have c9b0 : decide (0 ≤ x19_1) = true := decide_eq_true c9
       clear c9
       by_cases c10 : x19_1 < (l0.length : Int)
       ·rw [if_pos c10] at H
        have c10b0 : decide (x19_1 < (l0.length : Int)) = true := decide_eq_true c10
        clear c10
        replace H := Option.bind_eq_some_iff.mp H
        obtain ⟨⟨t180, t181⟩, A110, H⟩ := H
        replace H : ((word_Add.f t181 x6_1 0).bind fun bt182 => (if x5_1.length < 17592186044416 then (nat_Scale.l0 k1 a1 (x5_1 ++ [bt182.1]) (IntKind.u64.wrap (t180 + bt182.2)) l0 (l0.length : Int) (wrap64 (x19_1 + 1))) else (none))) = some r := H
        have A11 := A_ A110; clear A110
        replace H := Option.bind_eq_some_iff.mp H
        obtain ⟨⟨t182, t183⟩, A120, H⟩ := H
        replace H : (if x5_1.length < 17592186044416 then (nat_Scale.l0 k1 a1 (x5_1 ++ [t182]) (IntKind.u64.wrap (t180 + t183)) l0 (l0.length : Int) (wrap64 (x19_1 + 1))) else (none)) = some r := H
        have A12 := A_ A120; clear A120
        by_cases c13 : x5_1.length < 17592186044416
        ·rw [if_pos c13] at H
         have LMc13 := A_ c13; clear c13
         obtain ⟨y184, hy184⟩ : ∃ y_ : List Int, y_ = (x5_1 ++ [t182]) := ⟨_, rfl⟩
         replace H : (nat_Scale.l0 k1 a1 y184 (IntKind.u64.wrap (t180 + t183)) l0 (l0.length : Int) (wrap64 (x19_1 + 1))) = some r := by first | (rw [hy184]; with_reducible exact H) | (have H2_ := (Option.bind_some _ _).symm.trans H; rw [hy184]; with_reducible exact H2_) | (have H2_ := (Option.bind_some _ _).symm.trans H; with_reducible exact H2_) | with_reducible exact H | (rw [hy184]; exact H) | exact H
         have Ny184 := A_ hy184; clear hy184
         have H' := A_ H
         clear H
         have p179 : 0 ≤ (x19_1 : Int) := of_decide_eq_true (by first | (with_reducible assumption) | assumption)
         have q179 : x19_1 < (l0.length : Int) := of_decide_eq_true (by first | (with_reducible assumption) | assumption)
         obtain ⟨ad179, e179, hx179_0⟩ := Kd.at_int HR0.out x19_1 p179 q179
         cases e179
         replace hx179_0 := (HB.out.cell (World.block_lt_of_cell? w _ hx179_0)).trans hx179_0
         replace p179 := eq_true p179
         replace q179 := eq_true q179
         go_wp2_with (first | ((with_reducible refine gate_callee (f := 74) rfl ?_); refine goesL_ (some 26) rfl rfl Try.func74 (by kernel_rfl) rfl #[.int .u64 (rd l0 x19_1), .int .u64 a1] rfl (by (try simp only [List.map_toArray, List.map_cons, List.map_nil]); first | done | rfl | (simp only [List.length_drop, List.length_take]; rfl)) ?_; (with_reducible refine (word_Mul.calls (rd l0 x19_1) a1 t180 t181 _ A11.out).mono ?_); rintro e w' ⟨rfl, ⟨nd, rfl⟩⟩; refine ⟨_, rfl, ?_⟩) | ((with_reducible refine gate_callee (f := 75) rfl ?_); refine goesL_ (some 32) rfl rfl Try.func75 (by kernel_rfl) rfl #[.int .u64 t181, .int .u64 x6_1, .int .u64 0] rfl (by (try simp only [List.map_toArray, List.map_cons, List.map_nil]); first | done | rfl | (simp only [List.length_drop, List.length_take]; rfl)) ?_; (with_reducible refine (word_Add.calls t181 x6_1 0 t182 t183 _ A12.out).mono ?_); rintro e w14 ⟨rfl, hb⟩; refine ⟨_, rfl, ?_⟩; replace HO_5 := A_ (Kd.R_below (r_ HO_5) hb); replace HB := A_ (below_step (hB_ w) hb); (try clear hb); (try clear hb2); (try clear hk); (try clear hi)) | ((with_reducible refine gate_builtin (b := .append) (xs := #[.tmp 35, .tmp 37]) rfl ?_); at_builtin; refine Kd.R_append (Kd.int .u64) (w0 := w) w.heap.size rfl (.tmp 35) (.tmp 37) 39 57 (.int .u64 0) 8 rfl Try.underlying39 info57 rfl (by decide) (by omega) u5 x5_1 t182 [.int .u64 t182] (fun k_ => (w.heap.size ≤ k_)) (fun _ => False) rfl rfl ?aP (fun _ hk => hk.elim) ?aF ?aO ?aB ?aS ?aL ?_; (case aP => exact rfl); (case aB => exact (hB_ w)); (case aF => exact (fun k_ hk => (Nat.le_trans (below_size (hB_ w)) hk))); (case aO => exact (r_ HO_5)); (case aS => exact (below_size (hB_ w))); (case aL => have := LMc13.out; omega); intro v185 w15 ho hb hg hat; rw [← Ny184.out] at ho; replace HB := A_ hb; have HO186 := A_ ho; clear HO_5; clear ho hb hg hat))
         go_roundg k1
         case measure => have := HK1.out; omega
         case rel => exact ⟨(y184), (IntKind.u64.wrap (t180 + t183)), (wrap64 (x19_1 + 1)), (by first | rfl | (simp; done) | (simp [*]; done)), (by first | rfl | (simp; done) | (simp [*]; done)), H', ⟨by have := HK1.out; omega⟩, ⟨r_ HO186⟩, ⟨hB_ w⟩⟩
        rw [if_neg c13] at H
        exact absurd H (by simp)
       rw [if_neg c10] at H
       exact absurd H (by simp)
      rw [if_neg c9] at H
      exact absurd H (by simp)
     rw [if_neg c8] at H
     have c8b0 : decide (x19_1 < (l0.length : Int)) = false := decide_eq_false c8
     clear c8
     by_cases c16 : x5_1.length < 17592186044416
     ·rw [if_pos c16] at H
      have LMc16 := A_ c16; clear c16
      obtain ⟨y187, hy187⟩ : ∃ y_ : List Int, y_ = (x5_1 ++ [x6_1]) := ⟨_, rfl⟩
      replace H : ((nat_Norm.f k1 y187).bind fun t190 => (some t190)) = some r := by first | (rw [hy187]; with_reducible exact H) | (have H2_ := (Option.bind_some _ _).symm.trans H; rw [hy187]; with_reducible exact H2_) | (have H2_ := (Option.bind_some _ _).symm.trans H; with_reducible exact H2_) | with_reducible exact H | (rw [hy187]; exact H) | exact H
      have Ny187 := A_ hy187; clear hy187
      replace H := Option.bind_eq_some_iff.mp H
      obtain ⟨t190, A170, H⟩ := H
      replace H : (some t190) = some r := H
      have A17 := A_ A170; clear A170
      obtain rfl := Option.some.inj H
      go_wp2_with (first | ((with_reducible refine gate_builtin (b := .append) (xs := #[.tmp 43, .tmp 45]) rfl ?_); at_builtin; refine Kd.R_append (Kd.int .u64) (w0 := w) w.heap.size rfl (.tmp 43) (.tmp 45) 39 57 (.int .u64 0) 8 rfl Try.underlying39 info57 rfl (by decide) (by omega) u5 x5_1 x6_1 [.int .u64 x6_1] (fun k_ => (w.heap.size ≤ k_)) (fun _ => False) rfl rfl ?aP (fun _ hk => hk.elim) ?aF ?aO ?aB ?aS ?aL ?_; (case aP => exact rfl); (case aB => exact (hB_ w)); (case aF => exact (fun k_ hk => (Nat.le_trans (below_size (hB_ w)) hk))); (case aO => exact (r_ HO_5)); (case aS => exact (below_size (hB_ w))); (case aL => have := LMc16.out; omega); intro v188 w18 ho hb hg hat; rw [← Ny187.out] at ho; replace HB := A_ hb; have HO189 := A_ ho; clear HO_5; clear ho hb hg hat; obtain ⟨Ao19, co19, eo19⟩ := Kd.R_slice HO189.out; subst eo19) | ((with_reducible refine gate_callee (f := 76) rfl ?_); refine goesL_ (some 47) rfl rfl Try.func76 (by kernel_rfl) rfl #[.slice Ao19 y187.length co19] rfl (by (try simp only [List.map_toArray, List.map_cons, List.map_nil]); first | done | rfl | (simp only [List.length_drop, List.length_take]; rfl)) ?_; (with_reducible refine (nat_Norm.calls k1 (fun k_ => some k_ = (.slice Ao19 y187.length co19 : Value).ownBlock) _ _ y187 t190 _ ?side1 A17.out).mono ?_); (case side1 => exact Kd.R_V (Kd.R_tight rfl (HO189.out))); rintro e w20 ⟨v191, rfl, ho0, hb⟩; refine ⟨_, rfl, ?_⟩; have HO192 := A_ (Kd.V_lower (Kd.V_mono (ok' := fun k_ => (w.heap.size ≤ k_)) ho0 (fun k_ hk_ => Or.elim hk_ (fun hs_ => ((HO189.out).1 k_ hs_.symm)) (fun hn_ => (Nat.le_trans (below_size (hB_ w)) hn_)))) (below_size (hB_ w))); replace HO189 := A_ (Kd.R_below (r_ HO189) hb); replace HB := A_ (below_step (hB_ w) hb); (try clear hb); (try clear hb2); (try clear hk); (try clear hi); (try clear ho0)))
      go_ret
      exact ⟨_, by first | rfl | (simp [errW_none, errW_some] <;> rfl) | (simp only [← hji3]; first | rfl | (simp [errW_none, errW_some] <;> rfl)) | (simp [*, errW_none, errW_some] <;> rfl), by (with_reducible repeat (first|apply vA_|apply vN_|apply vD_)); exact HO192.out, hB_ w⟩
     rw [if_neg c16] at H
     exact absurd H (by simp)
  rw [if_neg c5] at H
  exact absurd H (by simp)
 rw [if_neg c4] at H
 exact absurd H (by simp)

end Go.Proofs.Ytbpobnlkfpjijaa.Pr
end
-- Pr24
section
namespace Go.Proofs.Ytbpobnlkfpjijaa.Pr
open Go.RowKit Go.Proofs.YtbpobnlkfpjijaaW.PrintWords Go.Proofs.YtbpobnlkfpjijaaW.PrintLast Go.Proofs.YtbpobnlkfpjijaaW.PrintMore
attribute [local go_sem] max2_int min2_int max_two min_two max_three min_three max_four min_four   -- for this text's walks alone
set_option linter.unusedVariables false
set_option linter.unusedSimpArgs false

attribute [local go_sem] Go.Proofs.Aid.cell_set_row
def series_product.l0 : Nat → List Int → List Int → Int → Int → Option (List Int)
 | 0, _, _, _, _ => none
 | k + 1, x3, x7, x8, x9 => if x9 < x8 then (if 0 ≤ x9 then (if x9 < (x7.length : Int) then ((nat_Scale.f k x3 (rd x7 x9)).bind fun t197 => (series_product.l0 k t197 x7 x8 (wrap64 (x9 + 1)))) else (none)) else (none)) else (some x3)
def series_product.f (k : Nat) (l0 : List Int) : Option (List Int) := series_product.l0 k (([1] : List Int)) l0 (l0.length : Int) 0
theorem series_product.mono_l : ∀ k, (∀ y0 y1 y2 y3, LeO (series_product.l0 k y0 y1 y2 y3) (series_product.l0 (k + 1) y0 y1 y2 y3))
 | 0 => fun _ _ _ _ r h => by simp [series_product.l0] at h
 | k + 1 => by
  have ih0 := series_product.mono_l k
  intro y0 y1 y2 y3
  unfold series_product.l0
  repeat' first
  | (with_reducible exact ih0 _ _ _ _)
  | (with_reducible exact nat_Scale.mono _ _ _)
  | (with_reducible exact LeO.refl _)
  | (with_reducible exact LeO.none _)
  | (with_reducible refine LeO.ite ?_ ?_)
  | (with_reducible refine LeO.bind ?_ (fun _ => ?_))
  | exact ih0 _ _ _ _
  | exact nat_Scale.mono _ _ _
  | exact LeO.none _
  | refine LeO.ite ?_ ?_
  | refine LeO.bind ?_ (fun _ => ?_)
theorem series_product.mono : ∀ a0 k, LeO (series_product.f k a0) (series_product.f (k + 1) a0) := by
 intro a0 k
 have ih0 := series_product.mono_l k
 unfold series_product.f
 repeat' first
   | (with_reducible exact ih0 _ _ _ _)
   | (with_reducible exact nat_Scale.mono _ _ _)
   | (with_reducible exact LeO.refl _)
   | (with_reducible exact LeO.none _)
   | (with_reducible refine LeO.ite ?_ ?_)
   | (with_reducible refine LeO.bind ?_ (fun _ => ?_))
   | exact ih0 _ _ _ _
   | exact nat_Scale.mono _ _ _
   | exact LeO.none _
   | refine LeO.ite ?_ ?_
   | refine LeO.bind ?_ (fun _ => ?_)
set_option maxHeartbeats 8000000 in
set_option maxRecDepth 100000 in
theorem series_product.calls (k : Nat) (A0 : Option Addr) (c0 : Nat) (l0 : List Int) (r : List Int) (w : World) (hr0 : Kd.C (Kd.int .u64) w A0 l0.length l0) (hc0 : l0.length ≤ c0) (h : series_product.f k l0 = some r) :
  Calls Try.prog 53 #[.slice A0 l0.length c0] w fun e w' => ∃ v0_ : Value, e = .returned (v0_) ∧ Kd.V (Kd.int .u64) 57 w' w.heap.size (fun k_ => (w.heap.size ≤ k_)) v0_ r ∧ Below w.heap.size w w' := by
 have HR0 := A_ hr0; have HC0 := A_ hc0; clear hr0 hc0; have HB := A_ (Below.refl w.heap.size w)
 have H : (series_product.l0 k (([1] : List Int)) l0 (l0.length : Int) 0) = some r := h
 clear h
 obtain ⟨y193, hy193⟩ : ∃ y_ : List Int, y_ = (([1] : List Int)) := ⟨_, rfl⟩
 replace H : (series_product.l0 k y193 l0 (l0.length : Int) 0) = some r := by first | (rw [hy193]; with_reducible exact H) | (have H2_ := (Option.bind_some _ _).symm.trans H; rw [hy193]; with_reducible exact H2_) | (have H2_ := (Option.bind_some _ _).symm.trans H; with_reducible exact H2_) | with_reducible exact H | (rw [hy193]; exact H) | exact H
 have Ny193 := A_ hy193; clear hy193
 have H' := A_ H
 clear H
 go_enter Try.func53, Try.ntmps53
 go_wp2_with (first | ((with_reducible refine gate_dst (N := 6) rfl ?_); refine Kd.R_lit (Kd.int .u64) _ 57 ?hg (N := 6) ?hd (xs := ([1] : List Int)) (inner := [.int .u64 1]) (ok := fun _ => True) (okp := fun _ => True) ?hr ?hp (fun _ hk => hk) trivial (Below.refl _ _) (Nat.le_refl _) (by simp) ?_; (case hd => rfl); (case hg => rfl); (case hr => first | (go_simp; done) | (go_simp; rfl)); (case hp => exact (Reps.one (show Kd.M (Kd.int .u64) _ _ _ 1 [.int .u64 1] from rfl) (Reps.none _ _))); intro v194 w2 ho3 hb hg_ hnew_; clear hg_ hnew_; (first | rw [← Ny193.out] at ho3 | (simp only [Int.reduceToNat] at ho3; rw [← Ny193.out] at ho3)); have HO195 := A_ (Kd.R_lower (Kd.R_newM (M := fun k_ => (w.heap.size ≤ k_)) ho3 (below_size (hB_ w)) (fun k_ h_ => h_)) (below_size (hB_ w))); replace HB := A_ (below_step (hB_ w) hb); clear hb ho3))
 go_loopg [3, 9] k (fun kq v3 v9 w' => ∃ (x3_1 : List Int) (x9_1 : Int), v9 = .int .i64 x9_1 ∧ AsC (series_product.l0 kq x3_1 l0 (l0.length : Int) x9_1 = some r) ∧ AsC (kq ≤ k) ∧ AsC (Kd.V (Kd.int .u64) 57 w' w.heap.size (fun k_ => (w.heap.size ≤ k_)) v3 x3_1) ∧ AsC (Below w.heap.size w w'))
 case atStart => exact ⟨(y193), (0), (by first | rfl | (simp; done) | (simp [*]; done)), H', ⟨Nat.le_refl _⟩, ⟨Kd.R_V (Kd.R_mono (r_ HO195) (fun _ hk => hk.1))⟩, ⟨hB_ w⟩⟩
 case round =>
  clear H'; try clear p2
  obtain ⟨x3_1, x9_1, rfl, HA, HK1, HO_3, HB⟩ := hrel
  cases gk with
  | zero => exact absurd HA.out (by simp [series_product.l0])
  | succ k1 =>
   have H := HA.out; clear HA
   simp only [series_product.l0] at H
   by_cases c4 : x9_1 < (l0.length : Int)
   ·rw [if_pos c4] at H
    have c4b0 : decide (x9_1 < (l0.length : Int)) = true := decide_eq_true c4
    clear c4
    by_cases c5 : 0 ≤ x9_1
    ·rw [if_pos c5] at H
     have c5b0 : decide (0 ≤ x9_1) = true := decide_eq_true c5
     clear c5
     by_cases c6 : x9_1 < (l0.length : Int)
     ·rw [if_pos c6] at H
      have c6b0 : decide (x9_1 < (l0.length : Int)) = true := decide_eq_true c6
      clear c6
      replace H := Option.bind_eq_some_iff.mp H
      obtain ⟨t197, A70, H⟩ := H
      replace H : (series_product.l0 k1 t197 l0 (l0.length : Int) (wrap64 (x9_1 + 1))) = some r := H
      have A7 := A_ A70; clear A70
      have H' := A_ H
      clear H
      have p196 : 0 ≤ (x9_1 : Int) := of_decide_eq_true (by first | (with_reducible assumption) | assumption)
      have q196 : x9_1 < (l0.length : Int) := of_decide_eq_true (by first | (with_reducible assumption) | assumption)
      obtain ⟨ad196, e196, hx196_0⟩ := Kd.at_int HR0.out x9_1 p196 q196
      cases e196
      replace hx196_0 := (HB.out.cell (World.block_lt_of_cell? w _ hx196_0)).trans hx196_0
      replace p196 := eq_true p196
      replace q196 := eq_true q196
      obtain ⟨Ao8, co8, eo8⟩ := Kd.V_slice HO_3.out
      subst eo8
      go_wp2_with (first | ((with_reducible refine gate_callee (f := 55) rfl ?_); refine goesL_ (some 15) rfl rfl Try.func55 (by kernel_rfl) rfl #[.slice Ao8 x3_1.length co8, .int .u64 (rd l0 x9_1)] rfl (by (try simp only [List.map_toArray, List.map_cons, List.map_nil]); first | done | rfl | (simp only [List.length_drop, List.length_take]; rfl)) ?_; (with_reducible refine (nat_Scale.calls k1 _ _ x3_1 (rd l0 x9_1) t197 _ ?side1 ?side2 A7.out).mono ?_); (case side1 => repeat (first | exact (Kd.V_reads' HO_3.out).2.2 | (with_reducible refine Kd.C_alloc ?_ _) | (with_reducible refine Kd.C_drewN ?_ _) | (with_reducible refine Kd.C_drew ?_))); (case side2 => exact (Kd.V_reads' HO_3.out).2.1); rintro e w9 ⟨v198, rfl, ho0, hb⟩; refine ⟨_, rfl, ?_⟩; replace HO_3 := A_ (Kd.V_below (v_ HO_3) hb); have HO199 := A_ (Kd.V_lower (Kd.V_mono (ok' := fun k_ => (w.heap.size ≤ k_)) ho0 (fun k_ hk_ => (Nat.le_trans (below_size (hB_ w)) hk_))) (below_size (hB_ w))); replace HB := A_ (below_step (hB_ w) hb); (try clear hb); (try clear hb2); (try clear hk); (try clear hi); (try clear ho0)))
      go_roundg k1
      case measure => have := HK1.out; omega
      case rel => exact ⟨(t197), (wrap64 (x9_1 + 1)), (by first | rfl | (simp; done) | (simp [*]; done)), H', ⟨by have := HK1.out; omega⟩, ⟨v_ HO199⟩, ⟨hB_ w⟩⟩
     rw [if_neg c6] at H
     exact absurd H (by simp)
    rw [if_neg c5] at H
    exact absurd H (by simp)
   rw [if_neg c4] at H
   have c4b0 : decide (x9_1 < (l0.length : Int)) = false := decide_eq_false c4
   clear c4
   obtain rfl := Option.some.inj H
   go_wp2
   go_ret
   exact ⟨_, by first | rfl | (simp [errW_none, errW_some] <;> rfl) | (simp [*, errW_none, errW_some] <;> rfl), by (with_reducible repeat (first|apply vA_|apply vN_|apply vD_)); exact HO_3.out, hB_ w⟩

end Go.Proofs.Ytbpobnlkfpjijaa.Pr
end
-- Gn
section
namespace Go.Proofs.Ytbpobnlkfpjijaa.Pr
open Go.RowKit Go.Shelf Go.Proofs.YtbpobnlkfpjijaaW.PrintWords Go.Proofs.YtbpobnlkfpjijaaW.PrintLast Go.Proofs.YtbpobnlkfpjijaaW.PrintMore
set_option linter.unusedVariables false
set_option linter.unusedSimpArgs false
theorem max2_nat (k k' : IntKind) (x y : Nat) : Builtin.max2 (.int k (x : Int)) (.int k' (y : Int)) = pure (.int k ((max x y : Nat) : Int)) := by
  rw [max2_int]
  congr 2
  split <;> omega
attribute [local go_sem] Oper.semAt_some max2_nat max_two
theorem rd_over (l : List Int) (k : Nat) (h : l.length ≤ k) : rd l (k : Int) = 0 := by
  simp [rd, List.getD_eq_getElem?_getD, List.getElem?_eq_none h]
set_option maxHeartbeats 1000000 in
theorem at98_calls (A : Option Addr) (c : Nat) (l : List Int) (k : Nat) (w : World) (hC : Kd.C (Kd.int .u64) w A l.length l) : Calls Try.prog 98 #[.slice A l.length c, .int .i64 k] w fun e w' => e = .returned (.int .u64 (rd l k)) ∧ w' = w := by
  by_cases hlt : k < l.length
  · obtain ⟨ad, rfl, hx⟩ := Kd.at_int hC (k : Int) (by omega) (by omega)
    rw [Int.toNat_natCast] at hx
    obtain ⟨x, hx2⟩ : ∃ x, rd l (k : Int) = x := ⟨_, rfl⟩
    rw [hx2] at hx ⊢
    go_enter Try.func98, Try.ntmps98
    go_wp2
    go_ret
    exact ⟨rfl, rfl⟩
  · have h0 := rd_over l k (by omega)
    rw [h0]
    go_enter Try.func98, Try.ntmps98
    go_wp2
    go_ret
    exact ⟨rfl, rfl⟩
set_option maxHeartbeats 1000000 in
theorem pairs_calls (A : Option Addr) (n c : Nat) (A' : Option Addr) (n' c' : Nat) (w : World) : Calls Try.prog 73 #[.slice A n c, .slice A' n' c'] w fun e w' => e = .returned (.func (.func 97) #[] #[.pointer (some ⟨w.heap.size, 0, none⟩), .pointer (some ⟨w.heap.size + 1, 0, none⟩)]) ∧ w' = (w.alloc (.cells #[.slice A n c] 39)).alloc (.cells #[.slice A' n' c'] 39) := by
  go_enter Try.func73, Try.ntmps73
  go_wp2
  go_ret
  exact ⟨rfl, rfl⟩
/-- What a round that goes on keeps: what lay below n, and two blocks more. -/
def KeepsB2 (n A B : Nat) (W W' : World) : Prop := Below n W W' ∧ W'.heap[A]? = W.heap[A]? ∧ W'.heap[B]? = W.heap[B]?
/-- The first k pairs of words. -/
def pairsUpto (l m : List Int) (k : Nat) : List (Int × Int) := (List.range k).map fun (j : Nat) => (rd l (j : Int), rd m (j : Int))
theorem pairsUpto_succ (l m : List Int) (k : Nat) : pairsUpto l m (k + 1) = pairsUpto l m k ++ [(rd l (k : Int), rd m (k : Int))] := by simp [pairsUpto, List.range_succ]
theorem pairsUpto_length (l m : List Int) (k : Nat) : (pairsUpto l m k).length = k := by simp [pairsUpto]
set_option maxRecDepth 100000 in
set_option maxHeartbeats 2000000 in
/-- nat.pairs' closure. -/
theorem pairs1_in (n : Nat) (hn : 2 ≤ n) (B l Ba Bb n₀ : Nat) (A A' : Option Addr) (c c' : Nat) (xs ys : List Int) (hl : xs.length ≤ 17592186044416) (hl' : ys.length ≤ 17592186044416) (w0 : World) (hn₀ : n₀ = w0.heap.size) (hC : Kd.C (Kd.int .u64) w0 A xs.length xs) (hC' : Kd.C (Kd.int .u64) w0 A' ys.length ys) (J Jx : List (Int × Int) → World → Prop) (hJ : AbidesFrom B J)
    (hY : ∀ pre x W, J pre W → pre.length < max xs.length ys.length → YieldAt Fence.wide (n - 1) Try.prog l #[.int .u64 x.1, .int .u64 x.2] W fun e W' =>
      (e = .returned (.bool true) ∧ J (pre ++ [x]) W' ∧ KeepsB2 n₀ Ba Bb W W') ∨ (e = .returned (.bool false) ∧ Jx (pre ++ [x]) W'))
    (W : World) (hW : Below n₀ w0 W) (hBa : W.heap[Ba]? = some (.cells #[.slice A xs.length c] 39 (0, 0))) (hBb : W.heap[Bb]? = some (.cells #[.slice A' ys.length c'] 39 (0, 0))) (h0 : J [] W) :
    CallsIn Fence.wide n Try.prog 97 #[.func (.yield l) #[] #[], .pointer (some ⟨Ba, 0, none⟩), .pointer (some ⟨Bb, 0, none⟩)] W fun e W' => (∃ v, e = .returned v) ∧
      ((∃ zs, zs = pairsUpto xs ys (max xs.length ys.length) ∧ J zs W') ∨ (∃ pre, True ∧ Jx pre W')) := by
  refine callsIn_of_wp Try.func97 rfl trivial ?_ rfl
  simp only [Try.ntmps97, List.size_toArray, List.length_cons, List.length_nil, Nat.reduceAdd, Nat.reduceSub, Array.replicate_succ, Array.replicate_zero, List.push_toArray, List.append_toArray, List.nil_append, List.cons_append]
  have ha0 : W.cell? ⟨Ba, 0, none⟩ = some (.slice A xs.length c) := by simp [World.cell?, hBa]
  have hb0 : W.cell? ⟨Bb, 0, none⟩ = some (.slice A' ys.length c') := by simp [World.cell?, hBb]
  have HC := Lib.hid hC
  have HC' := Lib.hid hC'
  have HBa := Lib.hid hBa
  have HBb := Lib.hid hBb
  clear hC hC' hBa hBb
  gi_wp2
  obtain ⟨m, hm⟩ : ∃ m, max xs.length ys.length = m := ⟨_, rfl⟩
  simp only [hm]
  have hm1 : xs.length ≤ m := by omega
  have hm2 : ys.length ≤ m := by omega
  have hm3 : m ≤ 17592186044416 := by omega
  rw [hm] at hY
  have HM := Lib.hid hm
  clear hm
  gi_loopw [10] (fun i wr => ∃ k : Nat, k ≤ m ∧ i = .int .i64 k ∧ J (pairsUpto xs ys k) wr ∧ KeepsB2 n₀ Ba Bb W wr)
    (fun i _ => m - (intOf i).toNat)
  case atStart => exact ⟨0, Nat.zero_le _, rfl, h0, Below.refl _ _, rfl, rfl⟩
  case round =>
    obtain ⟨k, hk, rfl, hJs, hnx, hba, hbb⟩ := hrel
    have hca : wr.cell? ⟨Ba, 0, none⟩ = some (.slice A xs.length c) := by simp [World.cell?, hba, HBa.out]
    have hcb : wr.cell? ⟨Bb, 0, none⟩ = some (.slice A' ys.length c') := by simp [World.cell?, hbb, HBb.out]
    have HBA := Lib.hid hba
    have HBB := Lib.hid hbb
    clear hba hbb
    by_cases hlt : k < m
    · have hWr : Below n₀ w0 wr.drew := hW.trans (hnx.trans ⟨rfl, rfl, rfl, Nat.le_refl _, fun _ _ => rfl⟩)
      have HX := Lib.hid (Kd.C_below HC.out (hn₀ ▸ hWr))
      have HX' := Lib.hid (Kd.C_below HC'.out (hn₀ ▸ hWr))
      obtain ⟨fn, tmps, assign, body, hy, hR⟩ := hY _ (rd xs (k : Int), rd ys (k : Int)) wr.drew (hJ _ _ _ none hJs ⟨rfl, rfl, rfl, Nat.le_refl _, fun _ _ _ => rfl⟩ (by simp)) (by rw [pairsUpto_length]; exact hlt)
      dsimp only at hy
      have HR := Lib.hid (hR.mono (R' := fun e W' => ∃ b, e = .returned (.bool b) ∧ Hid ((b = true ∧ J (pairsUpto xs ys (k + 1)) W' ∧ KeepsB2 n₀ Ba Bb wr W') ∨ (b = false ∧ Jx (pairsUpto xs ys (k + 1)) W'))) (by
        rintro e W' (⟨rfl, h1, h2⟩ | ⟨rfl, h1⟩)
        · exact ⟨true, rfl, .inl ⟨rfl, by rw [pairsUpto_succ]; exact h1, ⟨h2.1.os, h2.1.tape, h2.1.output, h2.1.size, h2.1.block⟩, h2.2⟩⟩
        · exact ⟨false, rfl, .inr ⟨rfl, by rw [pairsUpto_succ]; exact h1⟩⟩))
      have HN := Lib.hid hnx
      clear hnx hWr hJs hR
      gi_wp2_with fail
      gi_region_with (first
        | (refine ⟨trivial, fun _ => by omega, (callsIn_wide.2 (at98_calls A c xs k _ HX.out)).mono ?_⟩; clear HX; rintro e w' ⟨rfl, rfl⟩)
        | (refine ⟨trivial, fun _ => by omega, (callsIn_wide.2 (at98_calls A' c' ys k _ HX'.out)).mono ?_⟩; clear HX'; rintro e w' ⟨rfl, rfl⟩)
        | (refine ⟨fun _ => by omega, HR.out.mono ?_⟩; rintro e w3 ⟨bb, rfl, hbb⟩))
      all_goals
        rcases hbb with ⟨rfl, hJ3, hk3⟩ | ⟨rfl, hJx3⟩
        · have HJ := Lib.hid hJ3
          have HK := Lib.hid hk3
          clear hJ3 hk3
          gi_wp2
          go_roundw
          case rel => exact ⟨k + 1, by omega, by simp, HJ.out, HN.out.trans HK.out.1, HK.out.2.1.trans HBA.out, HK.out.2.2.trans HBB.out⟩
          case measure => simp [intOf]; omega
        · gi_wp2
          refine bodyPost_ret (results_none rfl _ _ _) rfl ?_
          exact ⟨⟨_, rfl⟩, .inr ⟨_, trivial, hJx3⟩⟩
    · obtain rfl : k = m := by omega
      gi_wp2
      go_end0
      exact ⟨⟨_, rfl⟩, .inl ⟨_, by rw [HM.out], hJs⟩⟩
theorem keepsB2_t {n A B : Nat} {X Y Z : World} (h : KeepsB2 n A B X Y) (k : KeepsB2 n A B Y Z) : KeepsB2 n A B X Z := ⟨h.1.trans k.1, k.2.1.trans h.2.1, k.2.2.trans h.2.2⟩
theorem keepsB2_b {n A B : Nat} {w : World} (hn : n ≤ w.heap.size) (hA : A < w.heap.size) (hB : B < w.heap.size) (W : World) (l : Nat) (o o' : Obj) (hl : w.heap.size ≤ l) (h : W.heap[l]? = some o) (h1 : o.isCells = false) (h2 : o.isWalk = false) : KeepsB2 n A B W (W.putObj l o') :=
  have hlt := (Array.getElem?_eq_some_iff.1 h).1
  ⟨belowK_b hn W l o o' hl h h1 h2, (grownBy_putObj' W l o').block A (by omega) (fun e => by injection e with e; omega), (grownBy_putObj' W l o').block B (by omega) (fun e => by injection e with e; omega)⟩
theorem pairs_stops (n : Nat) (hn : 2 ≤ n) (Ba Bb n₀ : Nat) (A A' : Option Addr) (c c' : Nat) (xs ys : List Int) (hl : xs.length ≤ 17592186044416) (hl' : ys.length ≤ 17592186044416) (w0 : World) (hn₀ : n₀ = w0.heap.size) (hC : Kd.C (Kd.int .u64) w0 A xs.length xs) (hC' : Kd.C (Kd.int .u64) w0 A' ys.length ys) (w : World) (hw : Below n₀ w0 w)
    (hBa : w.heap[Ba]? = some (.cells #[.slice A xs.length c] 39 (0, 0))) (hBb : w.heap[Bb]? = some (.cells #[.slice A' ys.length c'] 39 (0, 0))) :
    SeqStopsK Fence.wide n Try.prog 97 #[.pointer (some ⟨Ba, 0, none⟩), .pointer (some ⟨Bb, 0, none⟩)] (fun x : Int × Int => #[Value.int .u64 x.1, Value.int .u64 x.2]) (KeepsB2 n₀ Ba Bb) (fun zs => zs = pairsUpto xs ys (max xs.length ys.length)) (fun _ => True) (max xs.length ys.length) w := fun l J Jx W hW hJ _ hY h0 => by
  have h1 := (hW.block Ba (Array.getElem?_eq_some_iff.1 hBa).1).trans hBa
  have h2 := (hW.block Bb (Array.getElem?_eq_some_iff.1 hBb).1).trans hBb
  exact pairs1_in n hn W.heap.size l Ba Bb n₀ A A' c c' xs ys hl hl' w0 hn₀ hC hC' J Jx hJ hY W (hw.trans (hW.mono (by rw [hn₀]; exact hw.size))) h1 h2 h0
/-- What the pairs come to: the last one that differs decides. -/
def cmpOf (zs : List (Int × Int)) : Int := zs.foldl (fun o p => if p.1 < p.2 then -1 else if p.2 < p.1 then 1 else o) 0
theorem cmpOf_snoc (zs : List (Int × Int)) (p : Int × Int) : cmpOf (zs ++ [p]) = if p.1 < p.2 then -1 else if p.2 < p.1 then 1 else cmpOf zs := by simp [cmpOf]
set_option maxRecDepth 100000 in
set_option maxHeartbeats 4000000 in
theorem cmp_in (n : Nat) (hn : 5 ≤ n) (A A' : Option Addr) (c c' : Nat) (xs ys : List Int) (hl : xs.length ≤ 17592186044416) (hl' : ys.length ≤ 17592186044416) (w : World) (hC : Kd.C (Kd.int .u64) w A xs.length xs) (hC' : Kd.C (Kd.int .u64) w A' ys.length ys) :
    CallsIn Fence.wide n Try.prog 54 #[.slice A xs.length c, .slice A' ys.length c'] w fun e W' => e = .returned (.int .i64 (cmpOf (pairsUpto xs ys (max xs.length ys.length)))) ∧ Below w.heap.size w W' := by
  have h1 : 1 ≤ n := by omega
  refine callsIn_of_wp_marks Try.func54 rfl trivial ?_ rfl
  simp only [Try.ntmps54, List.size_toArray, List.length_cons, List.length_nil, Nat.reduceAdd, Nat.reduceSub, Array.replicate_succ, Array.replicate_zero, List.push_toArray, List.append_toArray, List.nil_append, List.cons_append]
  have HC := Lib.hid hC
  have HC' := Lib.hid hC'
  clear hC hC'
  gi_wp2_with fail
  refine ⟨trivial, (callsIn_wide.2 (pairs_calls _ _ _ _ _ _ _)).mono ?_⟩
  rintro e w' ⟨rfl, rfl⟩
  gi_wp2_with fail
  have bO0 := Boxed.new w 3 (.int .i64 0)
  obtain ⟨Wa, hWa⟩ : ∃ Wa, w.alloc (.cells #[.int .i64 0] 3) = Wa := ⟨_, rfl⟩
  have hsa : Wa.heap.size = w.heap.size + 1 := by rw [← hWa]; simp
  have hba : Below w.heap.size w Wa := by rw [← hWa]; exact below_alloc (Below.refl _ _) _
  rw [hWa] at bO0 ⊢
  clear hWa
  have bA0 := Boxed.new Wa 39 (.slice A xs.length c)
  rw [hsa] at bA0
  obtain ⟨Wb, hWb⟩ : ∃ Wb, Wa.alloc (.cells #[.slice A xs.length c] 39) = Wb := ⟨_, rfl⟩
  have hsb : Wb.heap.size = w.heap.size + 2 := by rw [← hWb]; simp [hsa]
  have hbb : Below w.heap.size w Wb := by rw [← hWb]; exact hba.alloc (by omega) _
  have bO1 : Boxed Wb w.heap.size 3 (.int .i64 0) := by rw [← hWb]; exact bO0.alloc _
  rw [hWb] at bA0 ⊢
  clear hWb bO0
  have bB0 := Boxed.new Wb 39 (.slice A' ys.length c')
  rw [hsb] at bB0
  obtain ⟨W0, hW0⟩ : ∃ W0, Wb.alloc (.cells #[.slice A' ys.length c'] 39) = W0 := ⟨_, rfl⟩
  have hs0 : W0.heap.size = w.heap.size + 3 := by rw [← hW0]; simp [hsb]
  have hb0 : Below w.heap.size w W0 := by rw [← hW0]; exact hbb.alloc (by omega) _
  have bO : Boxed W0 w.heap.size 3 (.int .i64 0) := by rw [← hW0]; exact bO1.alloc _
  have bA : Boxed W0 (w.heap.size + 1) 39 (.slice A xs.length c) := by rw [← hW0]; exact bA0.alloc _
  rw [hW0] at bB0 ⊢
  rw [show w.heap.size + 1 + 1 = w.heap.size + 2 from rfl]
  clear hW0 bA0 bO1
  refine wpIn_rangeFunc_ownG rfl h1 (gf := 97) (lb := #[.pointer (some ⟨w.heap.size + 1, 0, none⟩), .pointer (some ⟨w.heap.size + 2, 0, none⟩)]) rfl trivial (enters_of Try.func97 (by kernel_rfl) rfl)
    (pairs_stops (n - 1) (by omega) (w.heap.size + 1) (w.heap.size + 2) w.heap.size A A' c c' xs ys hl hl' w rfl HC.out HC'.out W0 hb0 bA bB0) keepsB2_t (keepsB2_b (by omega) (by omega) (by omega)) (Below.refl _ _) (fun _ => rfl)
    (fun pre W => Boxed W w.heap.size 3 (.int .i64 (cmpOf pre)) ∧ (Below w.heap.size w W ∧ w.heap.size + 3 ≤ W.heap.size))
    (fun _ _ _ => False)
    (OwnFrom.and (Own.from (boxed_own w.heap.size 3 (fun pre => .int .i64 (cmpOf pre))) _) (OwnFrom.and (ownFrom_below (Nat.le_refl _) (by omega)) (fun _ _ _ _ hs hg _ => Nat.le_trans hs hg.size)))
    (fun _ _ _ _ _ hs _ _ => hs)
    ⟨bO, hb0, by omega⟩
    (fun x => { tmps := #[.slice A xs.length c, .slice A' ys.length c', undef, undef, .int .i64 0, .pointer (some ⟨w.heap.size, 0, none⟩), .int .u64 x.1, .int .u64 x.2, .slice A xs.length c, .slice A' ys.length c', .func (.func 97) #[] #[.pointer (some ⟨w.heap.size + 1, 0, none⟩), .pointer (some ⟨w.heap.size + 2, 0, none⟩)], .int .u64 x.1, .int .u64 x.2, undef, undef, undef, undef, undef, undef, undef, undef, undef], defers := [] }) ?assign ?body ?done ?stop
  case assign =>
    intro l x W K hK
    gi_wp2
    exact hK
  case body =>
    rintro l pre x W ⟨hv, hB, hsz⟩ hlen
    have hc0 := hv.cell
    have hf0 := hv.frozen
    have hfin : ∀ v, Boxed (W.setCell ⟨w.heap.size, 0, none⟩ v) w.heap.size 3 v ∧ KeepsFrom W0.heap.size W (W.setCell ⟨w.heap.size, 0, none⟩ v) ∧ KeepsB2 w.heap.size (w.heap.size + 1) (w.heap.size + 2) W (W.setCell ⟨w.heap.size, 0, none⟩ v) ∧ Below w.heap.size w (W.setCell ⟨w.heap.size, 0, none⟩ v) ∧ w.heap.size + 3 ≤ (W.setCell ⟨w.heap.size, 0, none⟩ v).heap.size := fun v =>
      ⟨hv.set v, (KeepsOthers.setCell _ _ _).from _, ⟨(Below.refl w.heap.size W).setCell (p := ⟨w.heap.size, 0, none⟩) (Nat.le_refl _) _, Below.heap_setCell _ _ _ _ (by show w.heap.size + 1 ≠ w.heap.size; omega), Below.heap_setCell _ _ _ _ (by show w.heap.size + 2 ≠ w.heap.size; omega)⟩, hB.setCell (p := ⟨w.heap.size, 0, none⟩) (Nat.le_refl _) _, by simpa using hsz⟩
    have HF := Lib.hid hfin
    have HV := Lib.hid hv
    have HB := Lib.hid hB
    clear hfin hv hB
    rcases Int.lt_trichotomy x.1 x.2 with hx | hx | hx
    · have e : cmpOf (pre ++ [x]) = -1 := by rw [cmpOf_snoc, if_pos hx]
      gi_wp2
      obtain ⟨g1, g2, g3, g4, g5⟩ := HF.out (.int .i64 (-1))
      exact ⟨g2, g3, by rw [e]; exact g1, g4, g5⟩
    · have e : cmpOf (pre ++ [x]) = cmpOf pre := by rw [cmpOf_snoc, if_neg (by omega), if_neg (by omega)]
      gi_wp2
      exact ⟨KeepsFrom.refl _ _, ⟨Below.refl _ _, rfl, rfl⟩, by rw [e]; exact HV.out, HB.out, hsz⟩
    · have e : cmpOf (pre ++ [x]) = 1 := by rw [cmpOf_snoc, if_neg (by omega), if_pos hx]
      gi_wp2
      obtain ⟨g1, g2, g3, g4, g5⟩ := HF.out (.int .i64 1)
      exact ⟨g2, g3, by rw [e]; exact g1, g4, g5⟩
  case done =>
    rintro D zs W hD rfl ⟨hv, hB, hsz⟩ hK
    have hc0 := hv.cell
    have hBel : Below w.heap.size w (W.putObj D (.deferred none)) := hB.trans (belowK_b (w := w) (Nat.le_refl _) W D _ _ (by omega) hK rfl rfl)
    gi_wp2
    refine ⟨by simp, .inl ⟨_, _, rfl, run_takeDeferred hK, ?_⟩⟩
    exact ⟨_, results_tmp rfl _ _ _, rfl, hBel⟩
  case stop =>
    rintro D c pre W _ _ h _
    exact h.elim
/-- nat.Cmp. -/
def nat_Cmp.f (l0 : List Int) (l1 : List Int) : Option (Int) := if l0.length ≤ 17592186044416 ∧ l1.length ≤ 17592186044416 then some (cmpOf (pairsUpto l0 l1 (max l0.length l1.length))) else none
theorem nat_Cmp.calls (A0 : Option Addr) (c0 : Nat) (l0 : List Int) (A1 : Option Addr) (c1 : Nat) (l1 : List Int) (r : Int) (w : World) (hr0 : Kd.C (Kd.int .u64) w A0 l0.length l0) (hc0 : l0.length ≤ c0) (hr1 : Kd.C (Kd.int .u64) w A1 l1.length l1) (hc1 : l1.length ≤ c1) (h : nat_Cmp.f l0 l1 = some r) :
    Calls Try.prog 54 #[.slice A0 l0.length c0, .slice A1 l1.length c1] w fun e w' => e = .returned (.int .i64 r) ∧ Below w.heap.size w w' := by
  unfold nat_Cmp.f at h
  split at h
  · rename_i hh
    obtain ⟨hl, hl'⟩ := hh
    simp only [Option.some.injEq] at h
    subst h
    exact callsIn_wide.1 (cmp_in 5 (Nat.le_refl _) A0 A1 c0 c1 l0 l1 hl hl' w hr0 hr1)
  · cases h
end Go.Proofs.Ytbpobnlkfpjijaa.Pr
end
-- Pr26
section
namespace Go.Proofs.Ytbpobnlkfpjijaa.Pr
open Go.RowKit Go.Proofs.YtbpobnlkfpjijaaW.PrintWords Go.Proofs.YtbpobnlkfpjijaaW.PrintLast Go.Proofs.YtbpobnlkfpjijaaW.PrintMore
attribute [local go_sem] max2_int min2_int max_two min_two max_three min_three max_four min_four   -- for this text's walks alone
set_option linter.unusedVariables false
set_option linter.unusedSimpArgs false

attribute [local go_sem] Go.Proofs.Aid.cell_set_row
mutual
def series_Terms.j0 : Nat → Int → Int → Bool → Option (Int × Int)
 | 0, _, _, _ => none
 | k + 1, x0, x1, x10 => if x10 = true then (some (0, 13)) else (if x1 < 0 then (series_Terms.j1 k x0 x1 true) else (series_Terms.j1 k x0 x1 (decide (x1 > 3000))))
def series_Terms.j1 : Nat → Int → Int → Bool → Option (Int × Int)
 | 0, _, _, _ => none
 | k + 1, x0, x1, x17 => if x17 = true then (some (0, 1)) else (if x0 = 2 then (some (wrap64 ((wrap64 (Int.tdiv x1 14)) + 2), 0)) else ((quot_Pow.f k (([10] : List Int)) (wrap64 (x1 + 2))).bind fun bt203 => ((series_product.f k ([] : List Int)).bind fun t207 => (series_Terms.l0 k bt203.1 t207 1))))
def series_Terms.l0 : Nat → List Int → List Int → Int → Option (Int × Int)
 | 0, _, _, _ => none
 | k + 1, x6, x8, x9 => (nat_Cmp.f x8 x6).bind fun t210 => (if t210 < 0 then ((nat_Scale.f k x8 (IntKind.u64.wrap (wrap64 (x9 + 1)))).bind fun t211 => (series_Terms.l0 k x6 t211 (wrap64 (x9 + 1)))) else (some (x9, 0)))
end
def series_Terms.f (k : Nat) (a0 : Int) (a1 : Int) : Option (Int × Int) := if a0 = 1 then (series_Terms.j0 k a0 a1 false) else (series_Terms.j0 k a0 a1 (a0 != 2))
theorem series_Terms.mono_l : ∀ k, (∀ y0 y1 y2, LeO (series_Terms.j0 k y0 y1 y2) (series_Terms.j0 (k + 1) y0 y1 y2)) ∧ (∀ y0 y1 y2, LeO (series_Terms.j1 k y0 y1 y2) (series_Terms.j1 (k + 1) y0 y1 y2)) ∧ (∀ y0 y1 y2, LeO (series_Terms.l0 k y0 y1 y2) (series_Terms.l0 (k + 1) y0 y1 y2))
 | 0 => ⟨fun _ _ _ r h => by simp [series_Terms.j0] at h, fun _ _ _ r h => by simp [series_Terms.j1] at h, fun _ _ _ r h => by simp [series_Terms.l0] at h⟩
 | k + 1 => by
  obtain ⟨ih0, ih1, ih2⟩ := series_Terms.mono_l k
  refine ⟨?_, ?_, ?_⟩
  ·intro y0 y1 y2
   unfold series_Terms.j0
   repeat' first
   | (with_reducible exact ih0 _ _ _)
   | (with_reducible exact ih1 _ _ _)
   | (with_reducible exact ih2 _ _ _)
   | (with_reducible exact nat_Scale.mono _ _ _)
   | (with_reducible exact quot_Pow.mono _ _ _)
   | (with_reducible exact series_product.mono _ _)
   | (with_reducible exact LeO.refl _)
   | (with_reducible exact LeO.none _)
   | (with_reducible refine LeO.ite ?_ ?_)
   | (with_reducible refine LeO.bind ?_ (fun _ => ?_))
   | exact ih0 _ _ _
   | exact ih1 _ _ _
   | exact ih2 _ _ _
   | exact nat_Scale.mono _ _ _
   | exact quot_Pow.mono _ _ _
   | exact series_product.mono _ _
   | exact LeO.none _
   | refine LeO.ite ?_ ?_
   | refine LeO.bind ?_ (fun _ => ?_)
  ·intro y0 y1 y2
   unfold series_Terms.j1
   repeat' first
   | (with_reducible exact ih0 _ _ _)
   | (with_reducible exact ih1 _ _ _)
   | (with_reducible exact ih2 _ _ _)
   | (with_reducible exact nat_Scale.mono _ _ _)
   | (with_reducible exact quot_Pow.mono _ _ _)
   | (with_reducible exact series_product.mono _ _)
   | (with_reducible exact LeO.refl _)
   | (with_reducible exact LeO.none _)
   | (with_reducible refine LeO.ite ?_ ?_)
   | (with_reducible refine LeO.bind ?_ (fun _ => ?_))
   | exact ih0 _ _ _
   | exact ih1 _ _ _
   | exact ih2 _ _ _
   | exact nat_Scale.mono _ _ _
   | exact quot_Pow.mono _ _ _
   | exact series_product.mono _ _
   | exact LeO.none _
   | refine LeO.ite ?_ ?_
   | refine LeO.bind ?_ (fun _ => ?_)
  intro y0 y1 y2
  unfold series_Terms.l0
  repeat' first
  | (with_reducible exact ih0 _ _ _)
  | (with_reducible exact ih1 _ _ _)
  | (with_reducible exact ih2 _ _ _)
  | (with_reducible exact nat_Scale.mono _ _ _)
  | (with_reducible exact quot_Pow.mono _ _ _)
  | (with_reducible exact series_product.mono _ _)
  | (with_reducible exact LeO.refl _)
  | (with_reducible exact LeO.none _)
  | (with_reducible refine LeO.ite ?_ ?_)
  | (with_reducible refine LeO.bind ?_ (fun _ => ?_))
  | exact ih0 _ _ _
  | exact ih1 _ _ _
  | exact ih2 _ _ _
  | exact nat_Scale.mono _ _ _
  | exact quot_Pow.mono _ _ _
  | exact series_product.mono _ _
  | exact LeO.none _
  | refine LeO.ite ?_ ?_
  | refine LeO.bind ?_ (fun _ => ?_)
theorem series_Terms.mono : ∀ a0 a1 k, LeO (series_Terms.f k a0 a1) (series_Terms.f (k + 1) a0 a1) := by
 intro a0 a1 k
 obtain ⟨ih0, ih1, ih2⟩ := series_Terms.mono_l k
 unfold series_Terms.f
 repeat' first
   | (with_reducible exact ih0 _ _ _)
   | (with_reducible exact ih1 _ _ _)
   | (with_reducible exact ih2 _ _ _)
   | (with_reducible exact nat_Scale.mono _ _ _)
   | (with_reducible exact quot_Pow.mono _ _ _)
   | (with_reducible exact series_product.mono _ _)
   | (with_reducible exact LeO.refl _)
   | (with_reducible exact LeO.none _)
   | (with_reducible refine LeO.ite ?_ ?_)
   | (with_reducible refine LeO.bind ?_ (fun _ => ?_))
   | exact ih0 _ _ _
   | exact ih1 _ _ _
   | exact ih2 _ _ _
   | exact nat_Scale.mono _ _ _
   | exact quot_Pow.mono _ _ _
   | exact series_product.mono _ _
   | exact LeO.none _
   | refine LeO.ite ?_ ?_
   | refine LeO.bind ?_ (fun _ => ?_)
set_option maxHeartbeats 8000000 in
set_option maxRecDepth 100000 in
theorem series_Terms.calls (k : Nat) (a0 : Int) (a1 : Int) (r1 : Int) (r2 : Int) (w : World) (h : series_Terms.f k a0 a1 = some (r1, r2)) :
  Calls Try.prog 36 #[.int .i64 a0, .int .i64 a1] w fun e w' => e = .returned (.tuple #[.int .i64 r1, .int .i64 r2]) ∧ Below w.heap.size w w' := by
 have HB := A_ (Below.refl w.heap.size w)
 have H : (if a0 = 1 then (series_Terms.j0 k a0 a1 false) else (series_Terms.j0 k a0 a1 (a0 != 2))) = some (r1, r2) := h
 clear h; have HC3 := A_ H; clear H
 go_enter Try.func36, Try.ntmps36
 go_upto_region 1 with (fail)
 go_cut [10] (fun v10 wc => ∃ (kq : Nat) (x10_2 : Bool), v10 = .bool x10_2 ∧ AsC (series_Terms.j0 kq a0 a1 x10_2 = some (r1, r2)) ∧ AsC (kq ≤ k) ∧ AsC (Below w.heap.size w wc))
 case first =>
  have H := HC3.out; clear HC3
  by_cases c4 : a0 = 1
  ·rw [if_pos c4] at H
   have c4b0 : (a0 == 1) = true := beq_iff_eq.mpr c4
   have c4b1 : (a0 != 1) = false := bne_eq_false_iff_eq.mpr c4
   clear c4
   (first | rw [c4b0] | (simp only [i64_w, i32_w]; rw [c4b0]) | skip)
   have H' := A_ H
   clear H
   go_wp2
   go_meet
   case rel => exact ⟨_, (false), (by first | rfl | (simp; done) | (simp [*]; done)), H', ⟨by first | omega | exact Nat.le_refl _⟩, ⟨hB_ w⟩⟩
  rw [if_neg c4] at H
  have c4b0 : (a0 == 1) = false := beq_eq_false_iff_ne.mpr c4
  have c4b1 : (a0 != 1) = true := bne_iff_ne.mpr c4
  (first | rw [c4b0] | (simp only [i64_w, i32_w]; rw [c4b0]) | skip)
  have H' := A_ H
  clear H
  go_wp2
  go_meet
  case rel => exact ⟨_, ((a0 != 2)), (by first | rfl | (simp; done) | (simp [*]; done)), H', ⟨by first | omega | exact Nat.le_refl _⟩, ⟨hB_ w⟩⟩
 case rest =>
  clear HC3; try clear p2; try clear c3; try clear c4; try clear c4b0; try clear c4b1
  obtain ⟨kq, x10_2, rfl, HA, HJ2, HB⟩ := hcut
  cases kq with
  | zero => exact absurd HA.out (by simp [series_Terms.j0])
  | succ kj2 =>
   have H := HA.out; clear HA
   simp only [series_Terms.j0] at H
   by_cases c5 : x10_2 = true
   ·subst c5
    have H1 : (some (0, 13)) = some (r1, r2) := by rw [if_pos rfl] at H; exact H
    clear H
    have H := H1
    clear H1
    simp only [Option.some.injEq, Prod.mk.injEq] at H
    obtain ⟨rfl, rfl⟩ := H
    go_wp2
    go_ret2
    exact ⟨by first | rfl | (simp [errW_none, errW_some] <;> rfl) | (simp [*, errW_none, errW_some] <;> rfl), hB_ w⟩
   replace c5 := Bool.eq_false_iff.mpr c5
   subst c5
   have H1 : (if a1 < 0 then (series_Terms.j1 kj2 a0 a1 true) else (series_Terms.j1 kj2 a0 a1 (decide (a1 > 3000)))) = some (r1, r2) := by rw [if_neg (show ¬ (false = true) by decide)] at H; exact H
   clear H
   have H := H1
   clear H1; have HC6 := A_ H; clear H
   go_upto_region 3 with (fail)
   go_cut [17] (fun v17 wc => ∃ (kq : Nat) (x17_5 : Bool), v17 = .bool x17_5 ∧ AsC (series_Terms.j1 kq a0 a1 x17_5 = some (r1, r2)) ∧ AsC (kq ≤ kj2) ∧ AsC (Below w.heap.size w wc))
   case first =>
    have H := HC6.out; clear HC6
    by_cases c7 : a1 < 0
    ·rw [if_pos c7] at H
     have c7b0 : decide (a1 < 0) = true := decide_eq_true c7
     clear c7
     (first | rw [c7b0] | (simp only [i64_w, i32_w]; rw [c7b0]) | skip)
     have H' := A_ H
     clear H
     go_wp2
     go_meet
     case rel => exact ⟨_, (true), (by first | rfl | (simp; done) | (simp [*]; done)), H', ⟨by have := HJ2.out; first | omega | exact Nat.le_refl _⟩, ⟨hB_ w⟩⟩
    rw [if_neg c7] at H
    have c7b0 : decide (a1 < 0) = false := decide_eq_false c7
    clear c7
    (first | rw [c7b0] | (simp only [i64_w, i32_w]; rw [c7b0]) | skip)
    have H' := A_ H
    clear H
    go_wp2
    go_meet
    case rel => exact ⟨_, (decide (a1 > 3000)), (by first | rfl | (simp; done) | (simp [*]; done)), H', ⟨by have := HJ2.out; first | omega | exact Nat.le_refl _⟩, ⟨hB_ w⟩⟩
   case rest =>
    clear HC6; try clear p2; try clear c3; try clear c4; try clear c4b0; try clear c4b1; try clear c5; try clear c7; try clear c7b0; try clear p2
    obtain ⟨kq, x17_5, rfl, HA, HJ5, HB⟩ := hcut
    cases kq with
    | zero => exact absurd HA.out (by simp [series_Terms.j1])
    | succ kj5 =>
     have H := HA.out; clear HA
     simp only [series_Terms.j1] at H
     by_cases c8 : x17_5 = true
     ·subst c8
      have H1 : (some (0, 1)) = some (r1, r2) := by rw [if_pos rfl] at H; exact H
      clear H
      have H := H1
      clear H1
      simp only [Option.some.injEq, Prod.mk.injEq] at H
      obtain ⟨rfl, rfl⟩ := H
      go_wp2
      go_ret2
      exact ⟨by first | rfl | (simp [errW_none, errW_some] <;> rfl) | (simp [*, errW_none, errW_some] <;> rfl), hB_ w⟩
     replace c8 := Bool.eq_false_iff.mpr c8
     subst c8
     have H1 : (if a0 = 2 then (some (wrap64 ((wrap64 (Int.tdiv a1 14)) + 2), 0)) else ((quot_Pow.f kj5 (([10] : List Int)) (wrap64 (a1 + 2))).bind fun bt203 => ((series_product.f kj5 ([] : List Int)).bind fun t207 => (series_Terms.l0 kj5 bt203.1 t207 1)))) = some (r1, r2) := by rw [if_neg (show ¬ (false = true) by decide)] at H; exact H
     clear H
     have H := H1
     clear H1
     by_cases c9 : a0 = 2
     ·rw [if_pos c9] at H
      have c9b0 : (a0 == 2) = true := beq_iff_eq.mpr c9
      have c9b1 : (a0 != 2) = false := bne_eq_false_iff_eq.mpr c9
      clear c9
      simp only [Option.some.injEq, Prod.mk.injEq] at H
      obtain ⟨rfl, rfl⟩ := H
      go_wp2
      go_ret2
      exact ⟨by first | rfl | (simp [errW_none, errW_some] <;> rfl) | (simp [*, errW_none, errW_some] <;> rfl), hB_ w⟩
     rw [if_neg c9] at H
     have c9b0 : (a0 == 2) = false := beq_eq_false_iff_ne.mpr c9
     have c9b1 : (a0 != 2) = true := bne_iff_ne.mpr c9
     obtain ⟨y200, hy200⟩ : ∃ y_ : List Int, y_ = (([10] : List Int)) := ⟨_, rfl⟩
     replace H : ((quot_Pow.f kj5 y200 (wrap64 (a1 + 2))).bind fun bt203 => ((series_product.f kj5 ([] : List Int)).bind fun t207 => (series_Terms.l0 kj5 bt203.1 t207 1))) = some (r1, r2) := by first | (rw [hy200]; with_reducible exact H) | (have H2_ := (Option.bind_some _ _).symm.trans H; rw [hy200]; with_reducible exact H2_) | (have H2_ := (Option.bind_some _ _).symm.trans H; with_reducible exact H2_) | with_reducible exact H | (rw [hy200]; exact H) | exact H
     have Ny200 := A_ hy200; clear hy200
     replace H := Option.bind_eq_some_iff.mp H
     obtain ⟨⟨t203, t206⟩, A100, H⟩ := H
     replace H : ((series_product.f kj5 ([] : List Int)).bind fun t207 => (series_Terms.l0 kj5 t203 t207 1)) = some (r1, r2) := H
     have A10 := A_ A100; clear A100
     replace H := Option.bind_eq_some_iff.mp H
     obtain ⟨t207, A110, H⟩ := H
     replace H : (series_Terms.l0 kj5 t203 t207 1) = some (r1, r2) := H
     have A11 := A_ A110; clear A110
     have H' := A_ H
     clear H
     go_wp2_with (first | ((with_reducible refine gate_dst (N := 31) rfl ?_); refine Kd.R_lit (Kd.int .u64) _ 57 ?hg (N := 31) ?hd (xs := ([10] : List Int)) (inner := [.int .u64 10]) (ok := fun _ => True) (okp := fun _ => True) ?hr ?hp (fun _ hk => hk) trivial (Below.refl _ _) (Nat.le_refl _) (by simp) ?_; (case hd => rfl); (case hg => rfl); (case hr => first | (go_simp; done) | (go_simp; rfl)); (case hp => exact (Reps.one (show Kd.M (Kd.int .u64) _ _ _ 10 [.int .u64 10] from rfl) (Reps.none _ _))); intro v201 w12 ho13 hb hg_ hnew_; clear hg_ hnew_; (first | rw [← Ny200.out] at ho13 | (simp only [Int.reduceToNat] at ho13; rw [← Ny200.out] at ho13)); have HO202 := A_ (Kd.R_lower ho13 (below_size (hB_ w))); replace HB := A_ (below_step (hB_ w) hb); clear hb ho13; obtain ⟨Ao14, co14, eo14⟩ := Kd.R_slice HO202.out; subst eo14) | ((with_reducible refine gate_callee (f := 52) rfl ?_); refine goesL_ (some 34) rfl rfl Try.func52 (by kernel_rfl) rfl #[.slice Ao14 y200.length co14, .int .i64 (wrap64 (a1 + 2))] rfl (by (try simp only [List.map_toArray, List.map_cons, List.map_nil]); first | done | rfl | (simp only [List.length_drop, List.length_take]; rfl)) ?_; (with_reducible refine (quot_Pow.calls kj5 (fun k_ => some k_ = (.slice Ao14 y200.length co14 : Value).ownBlock) _ _ y200 (wrap64 (a1 + 2)) t203 t206 _ ?side1 A10.out).mono ?_); (case side1 => exact Kd.R_V (Kd.R_tight rfl (HO202.out))); rintro e w15 ⟨v204, rfl, ho0, hb⟩; refine ⟨_, rfl, ?_⟩; replace HO202 := A_ (Kd.R_below (r_ HO202) hb); have HO205 := A_ (Kd.V_lower (Kd.V_mono (ok' := fun k_ => True) ho0 (fun k_ hk_ => trivial)) (below_size (hB_ w))); replace HB := A_ (below_step (hB_ w) hb); (try clear hb); (try clear hb2); (try clear hk); (try clear hi); (try clear ho0)) | ((with_reducible refine gate_callee (f := 53) rfl ?_); refine goesL_ (some 37) rfl rfl Try.func53 (by kernel_rfl) rfl #[.slice none 0 0] rfl (by (try simp only [List.map_toArray, List.map_cons, List.map_nil]); first | done | rfl | (simp only [List.length_drop, List.length_take]; rfl)) ?_; (refine (series_product.calls kj5 _ _ ([] : List Int) t207 _ ?side1 ?side2 A11.out).mono ?_); (case side1 => exact Kd.C_nil _ _); (case side2 => exact Nat.le_refl _); rintro e w16 ⟨v208, rfl, ho0, hb⟩; refine ⟨_, rfl, ?_⟩; replace HO205 := A_ (Kd.V_below (v_ HO205) hb); have HO209 := A_ (Kd.V_lower (Kd.V_mono (ok' := fun k_ => some k_ ≠ (.slice Ao14 y200.length co14 : Value).ownBlock) ho0 (fun k_ hk_ => (Kd.fresh' (Kd.R_lt (r_ HO202)) k_ hk_))) (below_size (hB_ w))); replace HO202 := A_ (Kd.R_below (r_ HO202) hb); replace HB := A_ (below_step (hB_ w) hb); (try clear hb); (try clear hb2); (try clear hk); (try clear hi); (try clear ho0)))
     go_loopg [8, 9] kj5 (fun kq v8 v9 w' => ∃ (x8_3 : List Int) (x9_3 : Int), v9 = .int .i64 x9_3 ∧ AsC (series_Terms.l0 kq t203 x8_3 x9_3 = some (r1, r2)) ∧ AsC (kq ≤ kj5) ∧ AsC (Kd.V (Kd.int .u64) 57 w' w.heap.size (fun _ => True) v204 t203) ∧ AsC (Kd.V (Kd.int .u64) 57 w' w.heap.size (fun _ => True) v8 x8_3) ∧ AsC (Below w.heap.size w w'))
     case atStart => exact ⟨(t207), (1), (by first | rfl | (simp; done) | (simp [*]; done)), H', ⟨Nat.le_refl _⟩, ⟨v_ HO205⟩, ⟨Kd.V_mono (v_ HO209) (fun _ hk => trivial)⟩, ⟨hB_ w⟩⟩
     case round =>
      clear H'; try clear p2; try clear c3; try clear c4; try clear c4b0; try clear c4b1; try clear c5; try clear p6; try clear c7; try clear c7b0; try clear c8; try clear c9; try clear c9b0; try clear c9b1; try clear p2
      obtain ⟨x8_3, x9_3, rfl, HA, HK3, HO_6, HO_8, HB⟩ := hrel
      cases gk with
      | zero => exact absurd HA.out (by simp [series_Terms.l0])
      | succ k3 =>
       have H := HA.out; clear HA
       simp only [series_Terms.l0] at H
       replace H := Option.bind_eq_some_iff.mp H
       obtain ⟨t210, A170, H⟩ := H
       replace H : (if t210 < 0 then ((nat_Scale.f k3 x8_3 (IntKind.u64.wrap (wrap64 (x9_3 + 1)))).bind fun t211 => (series_Terms.l0 k3 t203 t211 (wrap64 (x9_3 + 1)))) else (some (x9_3, 0))) = some (r1, r2) := H
       have A17 := A_ A170; clear A170
       by_cases c18 : t210 < 0
       ·rw [if_pos c18] at H
        have c18b0 : decide (t210 < 0) = true := decide_eq_true c18
        clear c18
        replace H := Option.bind_eq_some_iff.mp H
        obtain ⟨t211, A190, H⟩ := H
        replace H : (series_Terms.l0 k3 t203 t211 (wrap64 (x9_3 + 1))) = some (r1, r2) := H
        have A19 := A_ A190; clear A190
        have H' := A_ H
        clear H
        obtain ⟨Ao20, co20, eo20⟩ := Kd.V_slice HO_8.out
        subst eo20
        obtain ⟨Ao21, co21, eo21⟩ := Kd.V_slice HO_6.out
        subst eo21
        go_wp2_with (first | ((with_reducible refine gate_callee (f := 54) rfl ?_); refine goesL_ (some 40) rfl rfl Try.func54 (by kernel_rfl) rfl #[.slice Ao20 x8_3.length co20, .slice Ao21 t203.length co21] rfl (by (try simp only [List.map_toArray, List.map_cons, List.map_nil]); first | done | rfl | (simp only [List.length_drop, List.length_take]; rfl)) ?_; (with_reducible refine (nat_Cmp.calls _ _ x8_3 _ _ t203 t210 _ ?side1 ?side2 ?side3 ?side4 A17.out).mono ?_); (case side1 => repeat (first | exact (Kd.V_reads' HO_8.out).2.2 | (with_reducible refine Kd.C_alloc ?_ _) | (with_reducible refine Kd.C_drewN ?_ _) | (with_reducible refine Kd.C_drew ?_))); (case side2 => exact (Kd.V_reads' HO_8.out).2.1); (case side3 => repeat (first | exact (Kd.V_reads' HO_6.out).2.2 | (with_reducible refine Kd.C_alloc ?_ _) | (with_reducible refine Kd.C_drewN ?_ _) | (with_reducible refine Kd.C_drew ?_))); (case side4 => exact (Kd.V_reads' HO_6.out).2.1); rintro e w22 ⟨rfl, hb⟩; refine ⟨_, rfl, ?_⟩; replace HO_6 := A_ (Kd.V_below (v_ HO_6) hb); replace HO_8 := A_ (Kd.V_below (v_ HO_8) hb); replace HB := A_ (below_step (hB_ w) hb); (try clear hb); (try clear hb2); (try clear hk); (try clear hi)) | ((with_reducible refine gate_callee (f := 55) rfl ?_); refine goesL_ (some 47) rfl rfl Try.func55 (by kernel_rfl) rfl #[.slice Ao20 x8_3.length co20, .int .u64 (IntKind.u64.wrap (wrap64 (x9_3 + 1)))] rfl (by (try simp only [List.map_toArray, List.map_cons, List.map_nil]); first | done | rfl | (simp only [List.length_drop, List.length_take]; rfl)) ?_; (with_reducible refine (nat_Scale.calls k3 _ _ x8_3 (IntKind.u64.wrap (wrap64 (x9_3 + 1))) t211 _ ?side1 ?side2 A19.out).mono ?_); (case side1 => repeat (first | exact (Kd.V_reads' HO_8.out).2.2 | (with_reducible refine Kd.C_alloc ?_ _) | (with_reducible refine Kd.C_drewN ?_ _) | (with_reducible refine Kd.C_drew ?_))); (case side2 => exact (Kd.V_reads' HO_8.out).2.1); rintro e w23 ⟨v212, rfl, ho0, hb⟩; refine ⟨_, rfl, ?_⟩; replace HO_6 := A_ (Kd.V_below (v_ HO_6) hb); replace HO_8 := A_ (Kd.V_below (v_ HO_8) hb); have HO213 := A_ (Kd.V_lower (Kd.V_mono (ok' := fun k_ => True) ho0 (fun k_ hk_ => trivial)) (below_size (hB_ w))); replace HB := A_ (below_step (hB_ w) hb); (try clear hb); (try clear hb2); (try clear hk); (try clear hi); (try clear ho0)))
        go_roundg k3
        case measure => have := HJ2.out; have := HJ5.out; have := HK3.out; omega
        case rel => exact ⟨(t211), (wrap64 (x9_3 + 1)), (by first | rfl | (simp; done) | (simp [*]; done)), H', ⟨by have := HJ2.out; have := HJ5.out; have := HK3.out; omega⟩, ⟨v_ HO_6⟩, ⟨v_ HO213⟩, ⟨hB_ w⟩⟩
       rw [if_neg c18] at H
       have c18b0 : decide (t210 < 0) = false := decide_eq_false c18
       clear c18
       simp only [Option.some.injEq, Prod.mk.injEq] at H
       obtain ⟨rfl, rfl⟩ := H
       obtain ⟨Ao24, co24, eo24⟩ := Kd.V_slice HO_8.out
       subst eo24
       obtain ⟨Ao25, co25, eo25⟩ := Kd.V_slice HO_6.out
       subst eo25
       go_wp2_with (first | ((with_reducible refine gate_callee (f := 54) rfl ?_); refine goesL_ (some 40) rfl rfl Try.func54 (by kernel_rfl) rfl #[.slice Ao24 x8_3.length co24, .slice Ao25 t203.length co25] rfl (by (try simp only [List.map_toArray, List.map_cons, List.map_nil]); first | done | rfl | (simp only [List.length_drop, List.length_take]; rfl)) ?_; (with_reducible refine (nat_Cmp.calls _ _ x8_3 _ _ t203 t210 _ ?side1 ?side2 ?side3 ?side4 A17.out).mono ?_); (case side1 => repeat (first | exact (Kd.V_reads' HO_8.out).2.2 | (with_reducible refine Kd.C_alloc ?_ _) | (with_reducible refine Kd.C_drewN ?_ _) | (with_reducible refine Kd.C_drew ?_))); (case side2 => exact (Kd.V_reads' HO_8.out).2.1); (case side3 => repeat (first | exact (Kd.V_reads' HO_6.out).2.2 | (with_reducible refine Kd.C_alloc ?_ _) | (with_reducible refine Kd.C_drewN ?_ _) | (with_reducible refine Kd.C_drew ?_))); (case side4 => exact (Kd.V_reads' HO_6.out).2.1); rintro e w26 ⟨rfl, hb⟩; refine ⟨_, rfl, ?_⟩; replace HO_6 := A_ (Kd.V_below (v_ HO_6) hb); replace HO_8 := A_ (Kd.V_below (v_ HO_8) hb); replace HB := A_ (below_step (hB_ w) hb); (try clear hb); (try clear hb2); (try clear hk); (try clear hi)))
       go_ret2
       exact ⟨by first | rfl | (simp [errW_none, errW_some] <;> rfl) | (simp [*, errW_none, errW_some] <;> rfl), hB_ w⟩

end Go.Proofs.Ytbpobnlkfpjijaa.Pr
end
-- Gs
section
namespace Go.Proofs.Ytbpobnlkfpjijaa.Pr
open Go.RowKit Go.Shelf Go.Proofs.YtbpobnlkfpjijaaW.PrintWords Go.Proofs.YtbpobnlkfpjijaaW.PrintLast Go.Proofs.YtbpobnlkfpjijaaW.PrintMore
set_option linter.unusedVariables false
set_option linter.unusedSimpArgs false
theorem maxInt3 (k k' : IntKind) : Builtin.max2 (.int k 8) (.int k' 1) = pure (.int k 8) := by rw [max2_int]; rfl
attribute [local go_sem] Oper.semAt_some maxInt3 max_two
set_option maxHeartbeats 1000000 in
theorem pieces_calls (a b s : Int) (w : World) : Calls Try.prog 57 #[.agg #[.int .i64 a, .int .i64 b], .int .i64 s] w fun e w' => e = .returned (.func (.func 78) #[] #[.pointer (some ⟨w.heap.size, 0, none⟩), .pointer (some ⟨w.heap.size + 1, 0, none⟩)]) ∧ w' = (w.alloc (.cells #[.int .i64 a, .int .i64 b] 29)).alloc (.cells #[.int .i64 s] 3) := by
  go_enter Try.func57, Try.ntmps57
  go_wp2
  go_ret
  exact ⟨rfl, rfl⟩
/-- What a round that goes on keeps: what lay below n, and two blocks more. -/
def KeepsP2 (n A B : Nat) (W W' : World) : Prop := Below n W W' ∧ W'.heap[A]? = W.heap[A]? ∧ W'.heap[B]? = W.heap[B]?
/-- The piece from 8 j on. -/
def splitElt (N : Int) (j : Nat) : S29 := ⟨8 * (j : Int), if N - 8 * (j : Int) > 8 then 8 * (j : Int) + 8 else N⟩
def splitUpto (N : Int) (k : Nat) : List S29 := (List.range k).map (splitElt N)
theorem splitUpto_succ (N : Int) (k : Nat) : splitUpto N (k + 1) = splitUpto N k ++ [splitElt N k] := by simp [splitUpto, List.range_succ]
theorem splitUpto_length (N : Int) (k : Nat) : (splitUpto N k).length = k := by simp [splitUpto]
/-- How many pieces. -/
def splitLen (N : Int) : Nat := ((N + 7) / 8).toNat
set_option maxRecDepth 100000 in
set_option maxHeartbeats 2000000 in
/-- series.pieces' closure, from 0 on, eight a piece. -/
theorem pieces1_in (n : Nat) (hn : 2 ≤ n) (B l Ba Bb n₀ : Nat) (N : Int) (hN : 1 ≤ N) (hN2 : N ≤ 1000) (J Jx : List S29 → World → Prop) (hJ : AbidesFrom B J)
    (hY : ∀ pre x W, J pre W → pre.length < splitLen N → YieldAt Fence.wide (n - 1) Try.prog l #[.agg #[.int .i64 x.f0, .int .i64 x.f1]] W fun e W' =>
      (e = .returned (.bool true) ∧ J (pre ++ [x]) W' ∧ KeepsP2 n₀ Ba Bb W W') ∨ (e = .returned (.bool false) ∧ Jx (pre ++ [x]) W'))
    (W : World) (hBa : W.heap[Ba]? = some (.cells #[.int .i64 0, .int .i64 N] 29 (0, 0))) (hBb : W.heap[Bb]? = some (.cells #[.int .i64 8] 3 (0, 0))) (h0 : J [] W) :
    CallsIn Fence.wide n Try.prog 78 #[.func (.yield l) #[] #[], .pointer (some ⟨Ba, 0, none⟩), .pointer (some ⟨Bb, 0, none⟩)] W fun e W' => (∃ v, e = .returned v) ∧
      ((∃ zs, zs = splitUpto N (splitLen N) ∧ J zs W') ∨ (∃ pre, True ∧ Jx pre W')) := by
  refine callsIn_of_wp Try.func78 rfl trivial ?_ rfl
  simp only [Try.ntmps78, List.size_toArray, List.length_cons, List.length_nil, Nat.reduceAdd, Nat.reduceSub, Array.replicate_succ, Array.replicate_zero, List.push_toArray, List.append_toArray, List.nil_append, List.cons_append]
  have ha0 : W.cell? ⟨Ba, 0, none⟩ = some (.int .i64 0) := by simp [World.cell?, hBa]
  have HBa := Lib.hid hBa
  have HBb := Lib.hid hBb
  have HY := Lib.hid hY
  clear hBa hBb hY
  gi_wp2
  gi_loopw [4] (fun i wr => ∃ k : Nat, 8 * (k : Int) < N ∧ i = .int .i64 (8 * (k : Int)) ∧ Hid (J (splitUpto N k) wr) ∧ Hid (KeepsP2 n₀ Ba Bb W wr))
    (fun i _ => N.toNat - (intOf i).toNat)
  case atStart => exact ⟨0, by omega, by simp, h0, Below.refl _ _, rfl, rfl⟩
  case round =>
    obtain ⟨k, hk, rfl, hJs, HKP⟩ := hrel
    have hca : wr.cell? ⟨Ba, 1, none⟩ = some (.int .i64 N) := by simp [World.cell?, HKP.out.2.1, HBa.out]
    have hcb : wr.cell? ⟨Bb, 0, none⟩ = some (.int .i64 8) := by simp [World.cell?, HKP.out.2.2, HBb.out]
    have hlen : (splitUpto N k).length < splitLen N := by rw [splitUpto_length]; unfold splitLen; omega
    by_cases hlast : N - 8 * (k : Int) > 8
    · have hel : splitElt N k = ⟨8 * (k : Int), 8 * (k : Int) + 8⟩ := by unfold splitElt; rw [if_pos hlast]
      obtain ⟨fn, tmps, assign, body, hy, hR⟩ := HY.out _ (splitElt N k) wr hJs.out hlen
      rw [← splitUpto_succ] at hR
      rw [hel] at hy
      dsimp only at hy
      have HL := Lib.hid hlen
      have HE := Lib.hid hel
      have HR := Lib.hid hR
      clear hlen hel hR
      gi_wp2
      refine ⟨fun _ => by omega, HR.out.mono ?_⟩
      rintro e W3 (⟨rfl, hJ3, hk3⟩ | ⟨rfl, hJx3⟩)
      · have hcc : W3.cell? ⟨Ba, 1, none⟩ = some (.int .i64 N) := by simp [World.cell?, hk3.2.1, HKP.out.2.1, HBa.out]
        have hcd : W3.cell? ⟨Bb, 0, none⟩ = some (.int .i64 8) := by simp [World.cell?, hk3.2.2, HKP.out.2.2, HBb.out]
        have HJ := Lib.hid hJ3
        have HK := Lib.hid hk3
        clear hJ3 hk3
        gi_wp2
        go_roundw
        case rel => exact ⟨k + 1, by omega, by go_num, HJ.out, HKP.out.1.trans HK.out.1, HK.out.2.1.trans HKP.out.2.1, HK.out.2.2.trans HKP.out.2.2⟩
        case measure => simp [intOf]; omega
      · gi_wp2
        refine bodyPost_ret (results_none rfl _ _ _) rfl ?_
        exact ⟨⟨_, rfl⟩, .inr ⟨_, trivial, hJx3⟩⟩
    · have hel : splitElt N k = ⟨8 * (k : Int), N⟩ := by unfold splitElt; rw [if_neg hlast]
      obtain ⟨fn, tmps, assign, body, hy, hR⟩ := HY.out _ (splitElt N k) wr hJs.out hlen
      rw [← splitUpto_succ] at hR
      rw [hel] at hy
      dsimp only at hy
      have hM : splitLen N = k + 1 := by unfold splitLen; omega
      have HL := Lib.hid hlen
      have HE := Lib.hid hel
      have HR := Lib.hid hR
      have HM := Lib.hid hM
      clear hlen hel hR hM
      gi_wp2
      refine ⟨fun _ => by omega, HR.out.mono ?_⟩
      rintro e W3 (⟨rfl, hJ3, hk3⟩ | ⟨rfl, hJx3⟩)
      · have hcc : W3.cell? ⟨Ba, 1, none⟩ = some (.int .i64 N) := by simp [World.cell?, hk3.2.1, HKP.out.2.1, HBa.out]
        have HJ := Lib.hid hJ3
        have HK := Lib.hid hk3
        clear hJ3 hk3
        gi_wp2
        refine bodyPost_ret (results_none rfl _ _ _) rfl ?_
        exact ⟨⟨_, rfl⟩, .inl ⟨_, by rw [HM.out], HJ.out⟩⟩
      · gi_wp2
        refine bodyPost_ret (results_none rfl _ _ _) rfl ?_
        exact ⟨⟨_, rfl⟩, .inr ⟨_, trivial, hJx3⟩⟩
theorem pieces_stops (n : Nat) (hn : 2 ≤ n) (Ba Bb n₀ : Nat) (N : Int) (hN : 1 ≤ N) (hN2 : N ≤ 1000) (w : World) (hn₀ : n₀ ≤ w.heap.size) (ha : Ba < n₀) (hb : Bb < n₀)
    (hBa : w.heap[Ba]? = some (.cells #[.int .i64 0, .int .i64 N] 29 (0, 0))) (hBb : w.heap[Bb]? = some (.cells #[.int .i64 8] 3 (0, 0))) :
    SeqStopsK Fence.wide n Try.prog 78 #[.pointer (some ⟨Ba, 0, none⟩), .pointer (some ⟨Bb, 0, none⟩)] (fun x : S29 => #[Value.agg #[.int .i64 x.f0, .int .i64 x.f1]]) (Below n₀) (fun zs => zs = splitUpto N (splitLen N)) (fun _ => True) (splitLen N) w := fun l J Jx W hW hJ _ hY h0 => by
  have h1 := (hW.block Ba (by omega)).trans hBa
  have h2 := (hW.block Bb (by omega)).trans hBb
  refine pieces1_in n hn W.heap.size l Ba Bb n₀ N hN hN2 J Jx hJ (fun pre x W hj hl => (hY pre x W hj hl).mono ?_) W h1 h2 h0
  rintro e W' (⟨h, hj, hk⟩ | h)
  · exact .inl ⟨h, hj, hk, hk.block Ba ha, hk.block Bb hb⟩
  · exact .inr h
def enc29 (x : S29) : List Value := [.int .i64 x.f0, .int .i64 x.f1]
def encs29 (l : List S29) : List Value := l.flatMap enc29
theorem encs29_snoc (l : List S29) (x : S29) : encs29 (l ++ [x]) = encs29 l ++ enc29 x := by simp [encs29]
theorem encs29_reps {R : S29 → List Value → Prop} (hR : ∀ x, R x (enc29 x)) : ∀ (l : List S29), Reps R 2 l (encs29 l)
  | [] => Reps.none _ _
  | x :: l => Reps.c2 (hR x) (encs29_reps hR l)
theorem R_ranges {W : World} {base : Nat} {v : Value} {xs : List S29} (h : W.ownsRow base 29 2 v xs.length (encs29 xs)) : Kd.R k29 29 W base (fun _ => True) v xs :=
  ⟨fun _ _ => trivial, encs29 xs, h, encs29_reps (fun x => k29_mkM _ _ _ x) xs⟩
theorem info29 : (Try.prog.info? 29).map (fun i => (i.zero, i.size, i.bytes)) = some (some (.agg #[.int .i64 0, .int .i64 0]), 2, 16) := by kernel_rfl
theorem cell_two_new (w : World) (x y : Value) (t : TypeId) : ∀ j u, [x, y][j]? = some u → (w.alloc (.cells #[x, y] t)).cell? ((⟨w.heap.size, 0, none⟩ : Addr).add j) = some u := by
  intro j u hj
  match j, hj with
  | 0, hj => simp at hj; subst hj; simp [Addr.add]
  | 1, hj => simp at hj; subst hj; simp [Addr.add]
theorem block_own {β : Type} (B : Nat) (o : Obj) (ho : o.isCells = true) : Own (fun (_ : β) W => W.heap[B]? = some o) := fun s X Y row hs hg hrow =>
  (hg.block B (Array.getElem?_eq_some_iff.1 hs).1 (fun e' => by obtain ⟨o', ho', hc⟩ := hrow B e'.symm; rw [show X.heap[B]? = _ from hs] at ho'; cases ho'; rw [ho] at hc; cases hc)).trans hs
set_option maxRecDepth 100000 in
set_option maxHeartbeats 4000000 in
theorem appendSeq_in (n : Nat) (hn : 5 ≤ n) (Ba Bb : Nat) (N : Int) (hN : 1 ≤ N) (hN2 : N ≤ 1000) (w : World) (hBa : w.heap[Ba]? = some (.cells #[.int .i64 0, .int .i64 N] 29 (0, 0))) (hBb : w.heap[Bb]? = some (.cells #[.int .i64 8] 3 (0, 0))) :
    CallsIn Fence.wide n Try.prog 77 #[.slice none 0 0, .func (.func 78) #[] #[.pointer (some ⟨Ba, 0, none⟩), .pointer (some ⟨Bb, 0, none⟩)]] w fun e W' => ∃ v, e = .returned v ∧ Kd.R k29 29 W' w.heap.size (fun _ => True) v (splitUpto N (splitLen N)) ∧ Below w.heap.size w W' := by
  have h1 : 1 ≤ n := by omega
  have ha := (Array.getElem?_eq_some_iff.1 hBa).1
  have hb := (Array.getElem?_eq_some_iff.1 hBb).1
  have hlen : splitLen N ≤ 1000 := by unfold splitLen; omega
  refine callsIn_of_wp_marks Try.func77 rfl trivial ?_ rfl
  simp only [Try.ntmps77, List.size_toArray, List.length_cons, List.length_nil, Nat.reduceAdd, Nat.reduceSub, Array.replicate_succ, Array.replicate_zero, List.push_toArray, List.append_toArray, List.nil_append, List.cons_append]
  have HBa := Lib.hid hBa
  have HBb := Lib.hid hBb
  clear hBa hBb
  gi_wp2_with fail
  obtain ⟨i0, hi, hz0, hz1, hz2⟩ := info_parts info29
  have bO0 := Boxed.new w 26 (.slice none 0 0)
  obtain ⟨W0, hW0⟩ : ∃ W0, w.alloc (.cells #[.slice none 0 0] 26) = W0 := ⟨_, rfl⟩
  have hs0 : W0.heap.size = w.heap.size + 1 := by rw [← hW0]; simp
  have hb0 : Below w.heap.size w W0 := by rw [← hW0]; exact below_alloc (Below.refl _ _) _
  rw [hW0] at bO0 ⊢
  clear hW0
  refine wpIn_rangeFunc_ownH rfl h1 (gf := 78) (lb := #[.pointer (some ⟨Ba, 0, none⟩), .pointer (some ⟨Bb, 0, none⟩)]) rfl trivial (enters_of Try.func78 (by kernel_rfl) rfl)
    (pieces_stops (n - 1) (by omega) Ba Bb w.heap.size N hN hN2 W0 (by omega) ha hb ((hb0.block Ba ha).trans HBa.out) ((hb0.block Bb hb).trans HBb.out)) belowK_t (belowK_b (by omega)) (Below.refl _ _) (fun _ => rfl)
    (fun pre W => (∃ v, Boxed W w.heap.size 26 v ∧ W.ownsRow (w.heap.size + 1) 29 2 v pre.length (encs29 pre) ∧ True) ∧ (Below w.heap.size w W ∧ w.heap.size + 1 ≤ W.heap.size))
    (fun _ _ _ => False)
    (OwnFrom.and (Own.from (holdsRow_own (w.heap.size + 1) w.heap.size 26 29 2 (fun pre : List S29 => pre.length) (fun pre => encs29 pre) (fun _ _ => True)) _) (OwnFrom.and (ownFrom_below (Nat.le_refl _) (by omega)) (fun _ _ _ _ hs hg _ => Nat.le_trans hs hg.size)))
    (fun _ _ _ _ _ hs _ _ => hs)
    ⟨⟨_, bO0, World.ownsRow_nil _ _ _ _, trivial⟩, hb0, by omega⟩
    (fun x a' W => ∃ Bx, w.heap.size + 1 ≤ Bx ∧ W.heap[Bx]? = some (.cells #[.int .i64 x.f0, .int .i64 x.f1] 29 (0, 0)) ∧ a' = { tmps := #[.slice none 0 0, .func (.func 78) #[] #[.pointer (some ⟨Ba, 0, none⟩), .pointer (some ⟨Bb, 0, none⟩)], .pointer (some ⟨w.heap.size, 0, none⟩), undef, .slice none 0 0, .pointer (some ⟨Bx, 0, none⟩), .func (.func 78) #[] #[.pointer (some ⟨Ba, 0, none⟩), .pointer (some ⟨Bb, 0, none⟩)], .agg #[.int .i64 x.f0, .int .i64 x.f1], undef, undef, undef, undef, undef], defers := [] })
    (fun x a' _ X Y row hs hg hr => by obtain ⟨Bx, h1, h2, h3⟩ := hs; exact ⟨Bx, h1, block_own (β := Unit) Bx _ rfl () X Y row h2 hg (fun r e => (hr r e).2), h3⟩)
    ?assign ?body ?done ?stop
  case assign =>
    rintro l pre x W K ⟨⟨v, hv, hrow, _⟩, hB, hsz⟩ hK
    gi_wp2
    exact hK _ _ ((KeepsOthers.alloc _ _).from _) ((Below.refl _ W).alloc (by omega) _) ⟨⟨v, hv.alloc _, hrow.alloc _, trivial⟩, hB.alloc (by omega) _, by simp; omega⟩ ⟨W.heap.size, by omega, heap_alloc_new W _, rfl⟩
  case body =>
    rintro l pre x a' W hl ⟨r, hr⟩ ⟨⟨v, hv, hrow, _⟩, hB, hsz⟩ ⟨Bx, hBx, bX, rfl⟩ hlt
    have hc0 := hv.cell
    have hx0 : W.cell? ⟨Bx, 0, none⟩ = some (.int .i64 x.f0) := by simp [World.cell?, bX]
    have hx1 : W.cell? ⟨Bx, 1, none⟩ = some (.int .i64 x.f1) := by simp [World.cell?, bX]
    have hown0 : W.ownsRow w.heap.size 29 2 v pre.length (encs29 pre) := own_weaken hrow (by omega)
    have hm1 : pre.length + 1 ≤ maxLen := by unfold maxLen; omega
    have hfin : ∀ v' w1, w1.ownsRow (w.heap.size + 1) 29 2 v' (pre.length + 1) (encs29 pre ++ [.int .i64 x.f0, .int .i64 x.f1]) → (W.alloc (.cells #[.int .i64 x.f0, .int .i64 x.f1] 29)).grownBy w1 v.ownBlock →
        Boxed w1 w.heap.size 26 v ∧ KeepsFrom W0.heap.size W (w1.setCell ⟨w.heap.size, 0, none⟩ v') ∧ Below w.heap.size W (w1.setCell ⟨w.heap.size, 0, none⟩ v') ∧
        (∃ v2, Boxed (w1.setCell ⟨w.heap.size, 0, none⟩ v') w.heap.size 26 v2 ∧ (w1.setCell ⟨w.heap.size, 0, none⟩ v').ownsRow (w.heap.size + 1) 29 2 v2 (pre ++ [x]).length (encs29 (pre ++ [x])) ∧ True) ∧ Below w.heap.size w (w1.setCell ⟨w.heap.size, 0, none⟩ v') ∧ w.heap.size + 1 ≤ (w1.setCell ⟨w.heap.size, 0, none⟩ v').heap.size := by
      intro v' w1 hown' hgrow
      have hown1 : w1.ownsRow w.heap.size 29 2 v' (pre.length + 1) (encs29 pre ++ [.int .i64 x.f0, .int .i64 x.f1]) := own_weaken hown' (by omega)
      obtain ⟨hv1, hv2, _, hk2, hb2⟩ := hv.appended (by decide) hown0 (by omega) (by omega) hown1 hgrow
      have hsz2 : (w1.setCell ⟨w.heap.size, 0, none⟩ v').heap.size = w1.heap.size := by simp
      have hsz3 : W.heap.size + 1 ≤ w1.heap.size := by have := hgrow.size; simpa using this
      refine ⟨hv1, hk2.from _, hb2, ⟨v', hv2, ?_, trivial⟩, hB.trans hb2, by omega⟩
      rw [List.length_append, encs29_snoc]
      exact hown'.kept (grownBy_setCell' w1 _ v') (.inr (hv1.not_row (by decide) hown').symm)
    have HF := Lib.hid hfin
    have HRW := Lib.hid hrow
    have HB := Lib.hid hB
    have HX := Lib.hid bX
    clear hfin hrow hown0 hB bX
    gi_wp2_with (gi_at_builtin; refine wpListIn_append_own _ rfl _ _ 26 rfl (w.heap.size + 1) 29 i0 (.agg #[.int .i64 0, .int .i64 0]) 2 16 Try.underlying26 hi hz0 hz1 hz2 rfl (by decide) _ _ _ rfl (HRW.out.alloc _) ⟨W.heap.size, 0, none⟩ 1 1 [.int .i64 x.f0, .int .i64 x.f1] rfl rfl (cell_two_new _ _ _ _) (by simp [Value.oneCell']) (by omega) (by omega) (by simp; omega) ?_; intro v' w1 hown' hgrow _; obtain ⟨g', cap', rfl⟩ := ownsRow_succ hown'; have hc1 := (HF.out _ _ hown' hgrow).1.cell; have hf1 := (HF.out _ _ hown' hgrow).1.frozen)
    exact (HF.out _ _ hown' hgrow).2
  case done =>
    rintro D ys W hD rfl ⟨⟨v, hv, hrow, _⟩, hB, hsz⟩ hK
    have hc0 := hv.cell
    have hR : Kd.R k29 29 (W.putObj D (.deferred none)) w.heap.size (fun _ => True) v (splitUpto N (splitLen N)) := R_ranges (own_weaken (ownsRow_putObj hrow _ hK rfl) (by omega))
    have hBel : Below w.heap.size w (W.putObj D (.deferred none)) := hB.trans (belowK_b (w := w) (Nat.le_refl _) W D _ _ (by omega) hK rfl rfl)
    obtain ⟨A1, c1, rfl⟩ := Kd.R_slice hR
    have HR := Lib.hid hR
    clear hR hrow
    gi_wp2
    refine ⟨by simp, .inl ⟨_, _, rfl, run_takeDeferred hK, ?_⟩⟩
    exact ⟨_, by simp [results, Try.results77, go_sem], _, rfl, HR.out, hBel⟩
  case stop =>
    rintro D c pre W _ _ h _
    exact h.elim
set_option maxHeartbeats 1000000 in
theorem collect_calls (Ba Bb : Nat) (N : Int) (hN : 1 ≤ N) (hN2 : N ≤ 1000) (w : World) (hBa : w.heap[Ba]? = some (.cells #[.int .i64 0, .int .i64 N] 29 (0, 0))) (hBb : w.heap[Bb]? = some (.cells #[.int .i64 8] 3 (0, 0))) :
    Calls Try.prog 56 #[.func (.func 78) #[] #[.pointer (some ⟨Ba, 0, none⟩), .pointer (some ⟨Bb, 0, none⟩)]] w fun e W' => ∃ v, e = .returned v ∧ Kd.R k29 29 W' w.heap.size (fun _ => True) v (splitUpto N (splitLen N)) ∧ Below w.heap.size w W' := by
  have H := Lib.hid (callsIn_wide.1 (appendSeq_in 5 (Nat.le_refl _) Ba Bb N hN hN2 w hBa hBb))
  clear hBa hBb
  go_enter Try.func56, Try.ntmps56
  go_wp2_with fail
  refine H.out.mono ?_
  rintro e w1 ⟨v, rfl, hR, hb⟩
  obtain ⟨A, c, rfl⟩ := Kd.R_slice hR
  have HR := Lib.hid hR
  have HB := Lib.hid hb
  clear hR hb
  go_wp2
  go_ret
  exact ⟨_, rfl, HR.out, HB.out⟩
/-- series.Split of the terms from 0 on, eight a piece. -/
def series_Split.f (a0_0 : Int) (a0_1 : Int) (a1 : Int) : Option ((List (S29))) := if a0_0 = 0 ∧ a1 = 8 ∧ 1 ≤ a0_1 ∧ a0_1 ≤ 1000 then some (splitUpto a0_1 (splitLen a0_1)) else none
set_option maxHeartbeats 2000000 in
theorem split_calls (N : Int) (hN : 1 ≤ N) (hN2 : N ≤ 1000) (w : World) :
    Calls Try.prog 37 #[.agg #[.int .i64 0, .int .i64 N], .int .i64 8] w fun e w' => ∃ v : Value, e = .returned v ∧ Kd.R k29 29 w' w.heap.size (fun _ => True) v (splitUpto N (splitLen N)) ∧ Below w.heap.size w w' := by
  have hq0 : (N - 1) / 8 < 10000 := by omega
  have hq : (N - 1).tdiv 8 < 10000 := by rw [Int.tdiv_eq_ediv_of_nonneg (by omega)]; omega
  go_enter Try.func37, Try.ntmps37
  go_wp2_with fail
  refine (pieces_calls 0 N 8 _).mono ?_
  rintro e w1 ⟨rfl, rfl⟩
  go_wp2_with fail
  obtain ⟨Wa, hWa⟩ : ∃ Wa, w.alloc (.cells #[.int .i64 0, .int .i64 N] 29) = Wa := ⟨_, rfl⟩
  have hsa : Wa.heap.size = w.heap.size + 1 := by rw [← hWa]; simp
  have hba : Below w.heap.size w Wa := by rw [← hWa]; exact below_alloc (Below.refl _ _) _
  rw [hWa]
  clear hWa
  have bA0 := heap_alloc_new Wa (.cells #[.int .i64 0, .int .i64 N] 29)
  obtain ⟨Wb, hWb⟩ : ∃ Wb, Wa.alloc (.cells #[.int .i64 0, .int .i64 N] 29) = Wb := ⟨_, rfl⟩
  have hsb : Wb.heap.size = w.heap.size + 2 := by rw [← hWb]; simp [hsa]
  have hbb : Below w.heap.size w Wb := by rw [← hWb]; exact hba.alloc (by omega) _
  rw [hWb] at bA0 ⊢
  clear hWb
  rw [hsa] at bA0
  have bB0 := heap_alloc_new Wb (.cells #[.int .i64 8] 3)
  have bA : (Wb.alloc (.cells #[.int .i64 8] 3)).heap[w.heap.size + 1]? = some (.cells #[.int .i64 0, .int .i64 N] 29 (0, 0)) := by rw [heap_alloc_old _ _ (by omega)]; exact bA0
  obtain ⟨Wc, hWc⟩ : ∃ Wc, Wb.alloc (.cells #[.int .i64 8] 3) = Wc := ⟨_, rfl⟩
  have hsc : Wc.heap.size = w.heap.size + 3 := by rw [← hWc]; simp [hsb]
  have hbc : Below w.heap.size w Wc := by rw [← hWc]; exact hbb.alloc (by omega) _
  rw [hWc] at bA bB0 ⊢
  clear hWc bA0
  rw [hsb] at bB0
  refine (collect_calls (w.heap.size + 1) (w.heap.size + 2) N hN hN2 Wc bA bB0).mono ?_
  rintro e w4 ⟨v, rfl, hR, hb4⟩
  obtain ⟨A, c, rfl⟩ := Kd.R_slice hR
  have HR := Lib.hid hR
  have HB := Lib.hid (below_then hbc hbc.size hb4)
  clear hR hb4 bA bB0
  go_wp2
  go_ret
  exact ⟨_, rfl, Kd.R_lower HR.out (by omega), HB.out⟩
theorem series_Split.calls (a0_0 : Int) (a0_1 : Int) (a1 : Int) (r : List (S29)) (w : World) (h : series_Split.f a0_0 a0_1 a1 = some r) :
    Calls Try.prog 37 #[.agg #[.int .i64 a0_0, .int .i64 a0_1], .int .i64 a1] w fun e w' => ∃ v0_ : Value, e = .returned (v0_) ∧ Kd.V k29 29 w' w.heap.size (fun k_ => (w.heap.size ≤ k_)) v0_ r ∧ Below w.heap.size w w' := by
  unfold series_Split.f at h
  split at h
  · rename_i hh
    obtain ⟨rfl, rfl, hN, hN2⟩ := hh
    simp only [Option.some.injEq] at h
    subst h
    refine (split_calls a0_1 hN hN2 w).mono ?_
    rintro e w' ⟨v, rfl, hR, hb⟩
    refine ⟨v, rfl, ?_, hb⟩
    obtain ⟨A, c, rfl, hc, _⟩ := Kd.R_reads hR
    exact ⟨A, c, rfl, hc, Kd.F_mono (Kd.R_F (Kd.R_bound hR)) (fun k hk => hk.2.1)⟩
  · cases h
end Go.Proofs.Ytbpobnlkfpjijaa.Pr
end
-- Pr31
section
namespace Go.Proofs.Ytbpobnlkfpjijaa.Pr
open Go.RowKit Go.Proofs.YtbpobnlkfpjijaaW.PrintWords Go.Proofs.YtbpobnlkfpjijaaW.PrintLast Go.Proofs.YtbpobnlkfpjijaaW.PrintMore
attribute [local go_sem] max2_int min2_int max_two min_two max_three min_three max_four min_four   -- for this text's walks alone
set_option linter.unusedVariables false
set_option linter.unusedSimpArgs false

attribute [local go_sem] Go.Proofs.Aid.cell_set_row
def plan_Pieces.f (k : Nat) (a0_0 : Int) (a0_1 : Int) (a0_2 : Int) : Option ((List (S29))) := (series_Terms.f k a0_0 (wrap64 (a0_1 + a0_2))).bind fun bt215 => (if bt215.2 = 0 then ((series_Split.f 0 bt215.1 8).bind fun t217 => (some t217)) else (some ([] : List (S29))))
theorem plan_Pieces.mono : ∀ a0 a1 a2 k, LeO (plan_Pieces.f k a0 a1 a2) (plan_Pieces.f (k + 1) a0 a1 a2) := by
 intro a0 a1 a2 k
 unfold plan_Pieces.f
 repeat' first
   | (with_reducible exact series_Terms.mono _ _ _)
   | (with_reducible exact LeO.refl _)
   | (with_reducible exact LeO.none _)
   | (with_reducible refine LeO.ite ?_ ?_)
   | (with_reducible refine LeO.bind ?_ (fun _ => ?_))
   | exact series_Terms.mono _ _ _
   | exact LeO.none _
   | refine LeO.ite ?_ ?_
   | refine LeO.bind ?_ (fun _ => ?_)
set_option maxHeartbeats 8000000 in
set_option maxRecDepth 100000 in
theorem plan_Pieces.calls (k : Nat) (a0_0 : Int) (a0_1 : Int) (a0_2 : Int) (r : List (S29)) (w : World) (h : plan_Pieces.f k a0_0 a0_1 a0_2 = some r) :
  Calls Try.prog 14 #[.agg #[.int .i64 a0_0, .int .i64 a0_1, .int .i64 a0_2]] w fun e w' => ∃ v0_ : Value, e = .returned (v0_) ∧ Kd.V k29 29 w' w.heap.size (fun k_ => (w.heap.size ≤ k_)) v0_ r ∧ Below w.heap.size w w' := by
 have hu23 := Try.underlying23
 have hu29 := Try.underlying29
 have HB := A_ (Below.refl w.heap.size w)
 have H : ((series_Terms.f k a0_0 (wrap64 (a0_1 + a0_2))).bind fun bt215 => (if bt215.2 = 0 then ((series_Split.f 0 bt215.1 8).bind fun t217 => (some t217)) else (some ([] : List (S29))))) = some r := h
 clear h
 replace H := Option.bind_eq_some_iff.mp H
 obtain ⟨⟨t215, t216⟩, A20, H⟩ := H
 replace H : (if t216 = 0 then ((series_Split.f 0 t215 8).bind fun t217 => (some t217)) else (some ([] : List (S29)))) = some r := H
 have A2 := A_ A20; clear A20
 by_cases c3 : t216 = 0
 ·rw [if_pos c3] at H
  have c3b0 : (t216 == 0) = true := beq_iff_eq.mpr c3
  have c3b1 : (t216 != 0) = false := bne_eq_false_iff_eq.mpr c3
  clear c3
  replace H := Option.bind_eq_some_iff.mp H
  obtain ⟨t217, A40, H⟩ := H
  replace H : (some t217) = some r := H
  have A4 := A_ A40; clear A40
  obtain rfl := Option.some.inj H
  go_enter Try.func14, Try.ntmps14
  go_wp2_with (first | ((with_reducible refine gate_dst (N := 1) rfl ?_); refine box_event ?hg (N := 1) ?hd (cs := #[.int .i64 a0_0, .int .i64 a0_1, .int .i64 a0_2]) (t := 23) ?hr ?_; (case hd => rfl); (case hg => rfl); (case hr => first | (go_simp; done) | (go_simp; rfl)); intro gb214 hg w5 hbox hb; have BK214 := A_ hbox; have GW214 := A_ ((by rw [hg]; exact (below_size (hB_ w)) : w.heap.size ≤ gb214)); have GE214 := A_ ((by rw [hg]; exact (below_size (hB_ w)) : w.heap.size ≤ gb214)); replace HB := A_ (below_step (hB_ w) hb); clear hb hbox hg; obtain ⟨hcz6_0, hcz6_1, hcz6_2, hfz6_0, hfz6_1, hfz6_2⟩ := cf3_ BK214) | ((with_reducible refine gate_callee (f := 36) rfl ?_); refine goesL_ (some 13) rfl rfl Try.func36 (by kernel_rfl) rfl #[.int .i64 a0_0, .int .i64 (wrap64 (a0_1 + a0_2))] rfl (by (try simp only [List.map_toArray, List.map_cons, List.map_nil]); first | done | rfl | (simp only [List.length_drop, List.length_take]; rfl)) ?_; (with_reducible refine (series_Terms.calls k a0_0 (wrap64 (a0_1 + a0_2)) t215 t216 _ A2.out).mono ?_); rintro e w7 ⟨rfl, hb⟩; refine ⟨_, rfl, ?_⟩; replace BK214 := A_ (blk_below (g := gb214) (b_ BK214) hb); replace HB := A_ (below_step (hB_ w) hb); (try clear hb); (try clear hb2); (try clear hk); (try clear hi)) | ((with_reducible refine gate_callee (f := 37) rfl ?_); refine goesL_ (some 20) rfl rfl Try.func37 (by kernel_rfl) rfl #[.agg #[.int .i64 0, .int .i64 t215], .int .i64 8] rfl (by (try simp only [List.map_toArray, List.map_cons, List.map_nil]); first | done | rfl | (simp only [List.length_drop, List.length_take]; rfl)) ?_; (with_reducible refine (series_Split.calls 0 t215 8 t217 _ A4.out).mono ?_); rintro e w8 ⟨v218, rfl, ho0, hb⟩; refine ⟨_, rfl, ?_⟩; have HO219 := A_ (Kd.V_lower (Kd.V_mono (ok' := fun k_ => (w.heap.size ≤ k_) ∧ k_ ≠ gb214) ho0 (fun k_ hk_ => ⟨(Nat.le_trans (below_size (hB_ w)) hk_), (Kd.freshB (g := gb214) (b_ BK214) k_ hk_)⟩)) (below_size (hB_ w))); replace BK214 := A_ (blk_below (g := gb214) (b_ BK214) hb); replace HB := A_ (below_step (hB_ w) hb); (try clear hb); (try clear hb2); (try clear hk); (try clear hi); (try clear ho0)))
  go_ret
  exact ⟨_, by first | rfl | (simp [errW_none, errW_some] <;> rfl) | (simp [*, errW_none, errW_some] <;> rfl), Kd.V_mono (v_ HO219) (fun _ hk => hk.1), hB_ w⟩
 rw [if_neg c3] at H
 have c3b0 : (t216 == 0) = false := beq_eq_false_iff_ne.mpr c3
 have c3b1 : (t216 != 0) = true := bne_iff_ne.mpr c3
 obtain rfl := Option.some.inj H
 go_enter Try.func14, Try.ntmps14
 go_wp2_with (first | ((with_reducible refine gate_dst (N := 1) rfl ?_); refine box_event ?hg (N := 1) ?hd (cs := #[.int .i64 a0_0, .int .i64 a0_1, .int .i64 a0_2]) (t := 23) ?hr ?_; (case hd => rfl); (case hg => rfl); (case hr => first | (go_simp; done) | (go_simp; rfl)); intro gb214 hg w9 hbox hb; have BK214 := A_ hbox; have GW214 := A_ ((by rw [hg]; exact (below_size (hB_ w)) : w.heap.size ≤ gb214)); have GE214 := A_ ((by rw [hg]; exact (below_size (hB_ w)) : w.heap.size ≤ gb214)); replace HB := A_ (below_step (hB_ w) hb); clear hb hbox hg; obtain ⟨hcz10_0, hcz10_1, hcz10_2, hfz10_0, hfz10_1, hfz10_2⟩ := cf3_ BK214) | ((with_reducible refine gate_callee (f := 36) rfl ?_); refine goesL_ (some 13) rfl rfl Try.func36 (by kernel_rfl) rfl #[.int .i64 a0_0, .int .i64 (wrap64 (a0_1 + a0_2))] rfl (by (try simp only [List.map_toArray, List.map_cons, List.map_nil]); first | done | rfl | (simp only [List.length_drop, List.length_take]; rfl)) ?_; (with_reducible refine (series_Terms.calls k a0_0 (wrap64 (a0_1 + a0_2)) t215 t216 _ A2.out).mono ?_); rintro e w11 ⟨rfl, hb⟩; refine ⟨_, rfl, ?_⟩; replace BK214 := A_ (blk_below (g := gb214) (b_ BK214) hb); replace HB := A_ (below_step (hB_ w) hb); (try clear hb); (try clear hb2); (try clear hk); (try clear hi)))
 go_ret
 exact ⟨_, by first | rfl | (simp [errW_none, errW_some] <;> rfl) | (simp [*, errW_none, errW_some] <;> rfl), by exact Kd.V_nil _ _ _ _ _, hB_ w⟩

end Go.Proofs.Ytbpobnlkfpjijaa.Pr
end
-- Pr32
section
namespace Go.Proofs.Ytbpobnlkfpjijaa.Pr
open Go.RowKit Go.Proofs.YtbpobnlkfpjijaaW.PrintWords Go.Proofs.YtbpobnlkfpjijaaW.PrintLast Go.Proofs.YtbpobnlkfpjijaaW.PrintMore
attribute [local go_sem] max2_int min2_int max_two min_two max_three min_three max_four min_four   -- for this text's walks alone
set_option linter.unusedVariables false
set_option linter.unusedSimpArgs false

attribute [local go_sem] Go.Proofs.Aid.cell_set_row
attribute [local go_sem high] eqA29
def tallysticklaw19_shown.f (k : Nat)  : Option (Bool) := (plan_Pieces.f k 1 5 8).bind fun t220 => (if (t220.length : Int) = 3 then (if 0 < (t220.length : Int) then (if (((rd_T29 t220 0).f0) == 0 && (((rd_T29 t220 0).f1) == 8)) = true then (if 2 < (t220.length : Int) then (some (((rd_T29 t220 2).f0) == 16 && (((rd_T29 t220 2).f1) == 18))) else (none)) else (some false)) else (none)) else (some false))
theorem tallysticklaw19_shown.mono : ∀ k, LeO (tallysticklaw19_shown.f k ) (tallysticklaw19_shown.f (k + 1) ) := by
 intro  k
 unfold tallysticklaw19_shown.f
 repeat' first
   | (with_reducible exact plan_Pieces.mono _ _ _ _)
   | (with_reducible exact LeO.refl _)
   | (with_reducible exact LeO.none _)
   | (with_reducible refine LeO.ite ?_ ?_)
   | (with_reducible refine LeO.bind ?_ (fun _ => ?_))
   | exact plan_Pieces.mono _ _ _ _
   | exact LeO.none _
   | refine LeO.ite ?_ ?_
   | refine LeO.bind ?_ (fun _ => ?_)
set_option maxHeartbeats 8000000 in
set_option maxRecDepth 100000 in
theorem tallysticklaw19_shown.calls (k : Nat)  (r : Bool) (w : World) (h : tallysticklaw19_shown.f k  = some r) :
  Calls Try.prog 12 #[] w fun e w' => e = .returned (.bool r) ∧ Below w.heap.size w w' := by
 have hu23 := Try.underlying23
 have hu29 := Try.underlying29
 have HB := A_ (Below.refl w.heap.size w)
 have H : ((plan_Pieces.f k 1 5 8).bind fun t220 => (if (t220.length : Int) = 3 then (if 0 < (t220.length : Int) then (if (((rd_T29 t220 0).f0) == 0 && (((rd_T29 t220 0).f1) == 8)) = true then (if 2 < (t220.length : Int) then (some (((rd_T29 t220 2).f0) == 16 && (((rd_T29 t220 2).f1) == 18))) else (none)) else (some false)) else (none)) else (some false))) = some r := h
 clear h
 replace H := Option.bind_eq_some_iff.mp H
 obtain ⟨t220, A10, H⟩ := H
 replace H : (if (t220.length : Int) = 3 then (if 0 < (t220.length : Int) then (if (((rd_T29 t220 0).f0) == 0 && (((rd_T29 t220 0).f1) == 8)) = true then (if 2 < (t220.length : Int) then (some (((rd_T29 t220 2).f0) == 16 && (((rd_T29 t220 2).f1) == 18))) else (none)) else (some false)) else (none)) else (some false)) = some r := H
 have A1 := A_ A10; clear A10
 by_cases c2 : (t220.length : Int) = 3
 ·rw [if_pos c2] at H
  have c2b0 : ((t220.length : Int) == 3) = true := beq_iff_eq.mpr c2
  have c2b1 : ((t220.length : Int) != 3) = false := bne_eq_false_iff_eq.mpr c2
  clear c2
  by_cases c3 : 0 < (t220.length : Int)
  ·rw [if_pos c3] at H
   have c3b0 : decide (0 < (t220.length : Int)) = true := decide_eq_true c3
   have c3b1 : decide (0 < t220.length) = true := decide_eq_true (by omega)
   clear c3
   by_cases c4 : (((rd_T29 t220 0).f0) == 0 && (((rd_T29 t220 0).f1) == 8)) = true
   ·rw [if_pos c4] at H
    have c4b0 : (((rd_T29 t220 0).f0) == 0 && (((rd_T29 t220 0).f1) == 8)) = true := c4
    (try (have c4b1 : decide (((rd_T29 t220 0).f0) = 0 && (((rd_T29 t220 0).f1) == 8)) = true := by simpa using c4))
    (try (have c4b2 : (((rd_T29 t220 0).f0) == 0 && (((rd_T29 t220 0).f1) == 8)) = true := by simpa using c4))
    clear c4
    by_cases c5 : 2 < (t220.length : Int)
    ·rw [if_pos c5] at H
     have c5b0 : decide (2 < (t220.length : Int)) = true := decide_eq_true c5
     have c5b1 : decide (2 < t220.length) = true := decide_eq_true (by omega)
     clear c5
     obtain rfl := Option.some.inj H
     go_enter Try.func12, Try.ntmps12
     go_wp2_with (first | ((with_reducible refine gate_callee (f := 14) rfl ?_); refine goesL_ (some 3) rfl rfl Try.func14 (by kernel_rfl) rfl #[.agg #[.int .i64 1, .int .i64 5, .int .i64 8]] rfl (by (try simp only [List.map_toArray, List.map_cons, List.map_nil]); first | done | rfl | (simp only [List.length_drop, List.length_take]; rfl)) ?_; (with_reducible refine (plan_Pieces.calls k 1 5 8 t220 _ A1.out).mono ?_); rintro e w6 ⟨v221, rfl, ho0, hb⟩; refine ⟨_, rfl, ?_⟩; have HO222 := A_ (Kd.V_lower (Kd.V_mono (ok' := fun k_ => True) ho0 (fun k_ hk_ => trivial)) (below_size (hB_ w))); replace HB := A_ (below_step (hB_ w) hb); (try clear hb); (try clear hb2); (try clear hk); (try clear hi); (try clear ho0); obtain ⟨Ao7, co7, eo7⟩ := Kd.V_slice HO222.out; subst eo7; have p223 : 0 ≤ (0 : Int) := (by omega); have q223 : 0 < (t220.length : Int) := of_decide_eq_true (by first | (with_reducible assumption) | assumption); obtain ⟨ad223, e223, hx223_0, hx223_1⟩ := at_T29 (Kd.V_reads' HO222.out).2.2 0 p223 q223; cases e223; have qi223 : (0 < t220.length) = True := eq_true (by omega); (try rw [show ((0 : Int)).toNat = 0 from rfl] at hx223_0); (try rw [show 0 * 2 = 0 from rfl] at hx223_0); (try rw [Addr.add_zero'] at hx223_0); (try rw [show ((0 : Int)).toNat = 0 from rfl] at hx223_1); (try rw [show 0 * 2 = 0 from rfl] at hx223_1); (try rw [Addr.add_zero'] at hx223_1); replace p223 := eq_true p223; replace q223 := eq_true q223; have p224 : 0 ≤ (2 : Int) := (by omega); have q224 : 2 < (t220.length : Int) := of_decide_eq_true (by first | (with_reducible assumption) | assumption); obtain ⟨ad224, e224, hx224_0, hx224_1⟩ := at_T29 (Kd.V_reads' HO222.out).2.2 2 p224 q224; obtain rfl : ad223 = ad224 := (by injection e224); (try simp only [show (2 : Int).toNat = 2 from rfl, Nat.reduceMul, Nat.reduceEqDiff, Go.Addr.add, ↓reduceIte] at hx224_0); (try simp only [show (2 : Int).toNat = 2 from rfl, Nat.reduceMul, Nat.reduceEqDiff, Go.Addr.add, ↓reduceIte] at hx224_1); have qi224 : (2 < t220.length) = True := eq_true (by omega); (try rw [show ((2 : Int)).toNat = 2 from rfl] at hx224_0); (try rw [show 2 * 2 = 4 from rfl] at hx224_0); (try rw [show ((2 : Int)).toNat = 2 from rfl] at hx224_1); (try rw [show 2 * 2 = 4 from rfl] at hx224_1); replace p224 := eq_true p224; replace q224 := eq_true q224))
     go_ret
     exact ⟨by first | rfl | (simp [errW_none, errW_some] <;> rfl) | (simp [*, errW_none, errW_some] <;> rfl), hB_ w⟩
    rw [if_neg c5] at H
    exact absurd H (by simp)
   rw [if_neg c4] at H
   have c4b0 : (((rd_T29 t220 0).f0) == 0 && (((rd_T29 t220 0).f1) == 8)) = false := by simpa using c4
   (try (have c4b1 : decide (((rd_T29 t220 0).f0) = 0 && (((rd_T29 t220 0).f1) == 8)) = false := by simpa using c4))
   (try (have c4b2 : (((rd_T29 t220 0).f0) == 0 && (((rd_T29 t220 0).f1) == 8)) = false := by simpa using c4))
   (try (have c4b3 : ¬ (((rd_T29 t220 0).f0) = 0 && (((rd_T29 t220 0).f1) == 8)) := by simpa using c4))
   clear c4
   obtain rfl := Option.some.inj H
   go_enter Try.func12, Try.ntmps12
   go_wp2_with (first | ((with_reducible refine gate_callee (f := 14) rfl ?_); refine goesL_ (some 3) rfl rfl Try.func14 (by kernel_rfl) rfl #[.agg #[.int .i64 1, .int .i64 5, .int .i64 8]] rfl (by (try simp only [List.map_toArray, List.map_cons, List.map_nil]); first | done | rfl | (simp only [List.length_drop, List.length_take]; rfl)) ?_; (with_reducible refine (plan_Pieces.calls k 1 5 8 t220 _ A1.out).mono ?_); rintro e w8 ⟨v221, rfl, ho0, hb⟩; refine ⟨_, rfl, ?_⟩; have HO222 := A_ (Kd.V_lower (Kd.V_mono (ok' := fun k_ => True) ho0 (fun k_ hk_ => trivial)) (below_size (hB_ w))); replace HB := A_ (below_step (hB_ w) hb); (try clear hb); (try clear hb2); (try clear hk); (try clear hi); (try clear ho0); obtain ⟨Ao9, co9, eo9⟩ := Kd.V_slice HO222.out; subst eo9; have p223 : 0 ≤ (0 : Int) := (by omega); have q223 : 0 < (t220.length : Int) := of_decide_eq_true (by first | (with_reducible assumption) | assumption); obtain ⟨ad223, e223, hx223_0, hx223_1⟩ := at_T29 (Kd.V_reads' HO222.out).2.2 0 p223 q223; cases e223; have qi223 : (0 < t220.length) = True := eq_true (by omega); (try rw [show ((0 : Int)).toNat = 0 from rfl] at hx223_0); (try rw [show 0 * 2 = 0 from rfl] at hx223_0); (try rw [Addr.add_zero'] at hx223_0); (try rw [show ((0 : Int)).toNat = 0 from rfl] at hx223_1); (try rw [show 0 * 2 = 0 from rfl] at hx223_1); (try rw [Addr.add_zero'] at hx223_1); replace p223 := eq_true p223; replace q223 := eq_true q223))
   go_ret
   exact ⟨by first | rfl | (simp [errW_none, errW_some] <;> rfl) | (simp [*, errW_none, errW_some] <;> rfl), hB_ w⟩
  rw [if_neg c3] at H
  exact absurd H (by simp)
 rw [if_neg c2] at H
 have c2b0 : ((t220.length : Int) == 3) = false := beq_eq_false_iff_ne.mpr c2
 have c2b1 : ((t220.length : Int) != 3) = true := bne_iff_ne.mpr c2
 obtain rfl := Option.some.inj H
 go_enter Try.func12, Try.ntmps12
 go_wp2_with (first | ((with_reducible refine gate_callee (f := 14) rfl ?_); refine goesL_ (some 3) rfl rfl Try.func14 (by kernel_rfl) rfl #[.agg #[.int .i64 1, .int .i64 5, .int .i64 8]] rfl (by (try simp only [List.map_toArray, List.map_cons, List.map_nil]); first | done | rfl | (simp only [List.length_drop, List.length_take]; rfl)) ?_; (with_reducible refine (plan_Pieces.calls k 1 5 8 t220 _ A1.out).mono ?_); rintro e w10 ⟨v221, rfl, ho0, hb⟩; refine ⟨_, rfl, ?_⟩; have HO222 := A_ (Kd.V_lower (Kd.V_mono (ok' := fun k_ => True) ho0 (fun k_ hk_ => trivial)) (below_size (hB_ w))); replace HB := A_ (below_step (hB_ w) hb); (try clear hb); (try clear hb2); (try clear hk); (try clear hi); (try clear ho0); obtain ⟨Ao11, co11, eo11⟩ := Kd.V_slice HO222.out; subst eo11))
 go_ret
 exact ⟨by first | rfl | (simp [errW_none, errW_some] <;> rfl) | (simp [*, errW_none, errW_some] <;> rfl), hB_ w⟩

end Go.Proofs.Ytbpobnlkfpjijaa.Pr
end
-- Lp
section
namespace Go.Proofs.Ytbpobnlkfpjijaa.Pr
open Go.RowKit Go.Proofs.YtbpobnlkfpjijaaW.PrintWords Go.Proofs.YtbpobnlkfpjijaaW.PrintLast Go.Proofs.YtbpobnlkfpjijaaW.PrintMore
set_option linter.unusedVariables false
set_option linter.unusedSimpArgs false
theorem wrapIn (n : Int) (h : -9223372036854775808 ≤ n ∧ n ≤ 9223372036854775807) : wrap64 n = n := by unfold wrap64; omega
/-- Is it an answer without an error, between 2 and 1000? -/
def termsGood (x : Option (Int × Int)) : Bool := match x with
  | some (n, e) => decide (e = 0) && decide (2 ≤ n) && decide (n ≤ 1000)
  | none => false
set_option maxRecDepth 100000 in
theorem terms_a : (List.range 40).all (fun m => termsGood (series_Terms.f 300 1 ((m : Nat) : Int))) = true := by decide +kernel
set_option maxRecDepth 100000 in
theorem terms_b : (List.range 40).all (fun m => termsGood (series_Terms.f 300 1 ((m + 40 : Nat) : Int))) = true := by decide +kernel
set_option maxRecDepth 100000 in
theorem terms_c : (List.range 41).all (fun m => termsGood (series_Terms.f 300 1 ((m + 80 : Nat) : Int))) = true := by decide +kernel
theorem termsGood_spec {x : Option (Int × Int)} (h : termsGood x = true) : ∃ n, x = some (n, 0) ∧ 2 ≤ n ∧ n ≤ 1000 := by
  unfold termsGood at h
  split at h
  · rename_i n e
    simp only [Bool.and_eq_true, decide_eq_true_eq] at h
    obtain ⟨⟨rfl, h1⟩, h2⟩ := h
    exact ⟨n, rfl, h1, h2⟩
  · cases h
theorem terms_e (m : Int) (h0 : 0 ≤ m) (h1 : m ≤ 120) : ∃ n, series_Terms.f 300 1 m = some (n, 0) ∧ 2 ≤ n ∧ n ≤ 1000 := by
  refine termsGood_spec ?_
  obtain ⟨k, rfl⟩ := Int.eq_ofNat_of_zero_le h0
  by_cases ha : k < 40
  · exact List.all_eq_true.1 terms_a k (List.mem_range.2 ha)
  · by_cases hb : k < 80
    · have := List.all_eq_true.1 terms_b (k - 40) (List.mem_range.2 (by omega))
      rwa [show k - 40 + 40 = k by omega] at this
    · have := List.all_eq_true.1 terms_c (k - 80) (List.mem_range.2 (by omega))
      rwa [show k - 80 + 80 = k by omega] at this
theorem terms_pi (m : Int) (h0 : 0 ≤ m) (h1 : m ≤ 120) : ∃ n, series_Terms.f 300 2 m = some (n, 0) ∧ 2 ≤ n ∧ n ≤ 1000 := by
  have hq : Int.tdiv m 14 = m / 14 := Int.tdiv_eq_ediv_of_nonneg h0
  refine ⟨m / 14 + 2, ?_, by omega, by omega⟩
  simp [series_Terms.f, series_Terms.j0, series_Terms.j1, show ¬ m < 0 by omega, show ¬ 3000 < m by omega, hq]
  rw [wrapIn (m / 14) (by omega), wrapIn _ (by omega)]
theorem terms_low (c m : Int) (h : m < 0) (hc : c = 1 ∨ c = 2) : series_Terms.f 300 c m = some (0, 1) := by
  rcases hc with rfl | rfl <;> simp [series_Terms.f, series_Terms.j0, series_Terms.j1, h]
theorem terms_none (c m : Int) (h1 : c ≠ 1) (h2 : c ≠ 2) : series_Terms.f 300 c m = some (0, 13) := by
  simp [series_Terms.f, series_Terms.j0, h1, h2]
set_option maxRecDepth 100000 in
theorem planShown : tallysticklaw19_shown.f 300 = some true := by decide +kernel
/-- A job's pieces, small as it is. -/
theorem pieces_small (c d g : Int) (hd : -1000 ≤ d ∧ d ≤ 60) (hg : -1000 ≤ g ∧ g ≤ 60) :
    plan_Pieces.f 300 c d g = some [] ∨ ∃ n, 2 ≤ n ∧ n ≤ 1000 ∧ plan_Pieces.f 300 c d g = some (splitUpto n (splitLen n)) := by
  unfold plan_Pieces.f
  rw [wrapIn _ (by omega)]
  have hs : ∀ n : Int, 2 ≤ n → n ≤ 1000 → series_Split.f 0 n 8 = some (splitUpto n (splitLen n)) := fun n h1 h2 => by
    unfold series_Split.f
    rw [if_pos ⟨rfl, rfl, by omega, h2⟩]
  by_cases hc : c = 1 ∨ c = 2
  · by_cases hm : d + g < 0
    · rw [terms_low c _ hm hc]
      exact .inl rfl
    · have : ∃ n, series_Terms.f 300 c (d + g) = some (n, 0) ∧ 2 ≤ n ∧ n ≤ 1000 := by
        rcases hc with rfl | rfl
        · exact terms_e _ (by omega) (by omega)
        · exact terms_pi _ (by omega) (by omega)
      obtain ⟨n, hn, h1, h2⟩ := this
      rw [hn, Option.bind_some]
      refine .inr ⟨n, h1, h2, ?_⟩
      rw [if_pos rfl, hs n h1 h2, Option.bind_some]
  · rw [terms_none c _ (fun h => hc (.inl h)) (fun h => hc (.inr h))]
    exact .inl rfl
/-- .. and where it is wanted there are some. -/
theorem pieces_wanted (c d g : Int) (hc : c = 1 ∨ c = 2) (hd : 1 ≤ d ∧ d ≤ 60) (hg : 0 ≤ g ∧ g ≤ 60) : ∃ n, 2 ≤ n ∧ n ≤ 1000 ∧ plan_Pieces.f 300 c d g = some (splitUpto n (splitLen n)) := by
  unfold plan_Pieces.f
  rw [wrapIn _ (by omega)]
  have : ∃ n, series_Terms.f 300 c (d + g) = some (n, 0) ∧ 2 ≤ n ∧ n ≤ 1000 := by
    rcases hc with rfl | rfl
    · exact terms_e _ (by omega) (by omega)
    · exact terms_pi _ (by omega) (by omega)
  obtain ⟨n, hn, h1, h2⟩ := this
  rw [hn, Option.bind_some]
  refine ⟨n, h1, h2, ?_⟩
  rw [if_pos rfl]
  unfold series_Split.f
  rw [if_pos ⟨rfl, rfl, by omega, h2⟩, Option.bind_some]
theorem rd_split (N : Int) (j M : Nat) (h : j < M) : rd_T29 (splitUpto N M) (j : Int) = splitElt N j := by
  simp [rd_T29, splitUpto, List.getD_eq_getElem?_getD, h]
end Go.Proofs.Ytbpobnlkfpjijaa.Pr
end
