-- Laid by a program (wip/merge.py): texts of this claim, one behind the other.
import Derived.Test.YtbpobnlkfpjijaaDoorRY1
import Derived.Laws.StructEq
import Derived.Test.YtbpobnlkfpjijaaDoorRProg
import Derived.Below
import Derived.Deep.Draws
import Derived.Deep.AppendLies
import Derived.Maps.AppendAt
import Derived.OwnWalk
import Derived.Laws.BytesArg
import Derived.Laws.MakeOwn
import Derived.Laws.OwnMore
import Derived.Deep.OwnRows
import Derived.Tactics
import Derived.Lib.ConvBytes
import Derived.Laws.Slices
import Derived.WalkKit
import Derived.KernelRfl
import Derived.RowKit3
import Derived.Deep.LoopGhost
import Derived.Deep.QuietTactic
import Derived.BigQuiet
import Derived.WideLaws
import Derived.Deep.DeepCutAuto
import Derived.Deep.CutBlock
import Derived.Deep.RegionHeld3
import Derived.Laws.Rows
import Derived.Lib.AppendStr
import Derived.ArgAppend
import Derived.Laws.IdiomCopy
import Derived.OrdersHeld
import Derived.Laws.BitsLemmas
import Derived.RowKit
import Derived.Laws.Cover1
import Derived.Lib.Hide
import Derived.Laws.AppendOwn
import Derived.Laws.EntriesVeiled
import Derived.RegionTactic
import Derived.BigRegion
import Derived.LaidEql
import Derived.Stop.Asserts
import Derived.RowKitTokens
import Derived.Shelf.Strings.Builder1
import Derived.Shelf.Strings.Builder2
import Derived.Shelf.Strings.OnBuilder
import Derived.Shelf.Strconv.Itoa0
import Derived.Shelf.Strconv.Itoa1
import Derived.Shelf.LaysM
import Derived.Shelf.Strconv.Itoa2
import Derived.Shelf.Strconv.Itoa3
import Derived.Lib.ItoaLen
import Derived.Sort.Grow
-- Aid
section
namespace Go.Proofs.Aid
set_option linter.unusedSimpArgs false
set_option linter.unusedVariables false
set_option linter.unnecessarySimpa false
open Go.RowKit Go.Proofs.YtbpobnlkfpjijaaDoorRW.PrintWords
theorem cell_set_row (w : World) (B o o1 : Nat) (v : Value) : (w.setCell ⟨B, o, none⟩ v).cell? ⟨B, o1, none⟩ = if o = o1 then (w.cell? ⟨B, o, none⟩).map (fun _ => v) else w.cell? ⟨B, o1, none⟩ := by
  split
  · rename_i h; subst h
    cases hc : w.cell? ⟨B, o, none⟩ with
    | none =>
      simp only [World.cell?, World.setCell, Array.getElem?_modify] at hc ⊢
      cases hb : w.heap[B]? with
      | none => simp
      | some ob => cases ob <;> simp_all
    | some u => exact World.cell?_setCell_same w _ _ hc
  · rename_i h; exact World.cell?_setCell_other w _ _ _ (by simp [h])
theorem readsRow_len {α : Type} {R : α → List Value → Prop} {sz n m : Nat} {w : World} {A : Option Addr} {ps : List α} (e : n = m) (h : ReadsRow R sz w A n ps) : ReadsRow R sz w A m ps := e ▸ h
/-- The block in which a shared row lies. -/
theorem V_block {α : Type} {d : Kd α} {e base n c : Nat} {ok : Nat → Prop} {W : World} {ad : Addr} {xs : List α} (h : Kd.V d e W base ok (.slice (some ad) n c) xs) (i : Int) (h0 : 0 ≤ i) (h1 : i < (xs.length : Int)) (hs : 0 < d.sz) : ok ad.block := by
  have hF := (Kd.V_at h).2.2
  rcases xs with _ | ⟨x, xs⟩
  · simp at h1; omega
  · obtain ⟨ad', _, he, _, _, _, hb⟩ := Kd.F_get hF x i h0 h1
    injection he with he; subst he
    exact hb hs
/-- 'xs[:j:j]'. -/
theorem cut_to_cap {P : Program} (t e : TypeId) (kh : IntKind) {i : TypeInfo} (ht : P.underlying t = some (.slice e)) (hi : P.info? e = some i) (A : Option Addr) (n c : Nat) (j : Int) (h0 : 0 ≤ j) (hm : j ≤ n) (hc : n ≤ c) :
    ∀ W : World, (Instr.slice t (.slice A n c) none (some (.int kh j)) (some (.int kh j))).run P W = .ok (.slice A j.toNat j.toNat) W := by
  intro W
  have hel : P.elem t = e := by simp [Program.elem, ht]
  have hu : P.underlying t = some (.slice (P.elem t)) := by rw [hel]; exact ht
  have ha : (A.map fun x => x.add 0) = A := by cases A <;> simp [Addr.add]
  rw [run_slice_hm W t A n c hu kh kh j j h0 (Int.le_refl _) (by omega), hel]
  simp [sizeOf, typeInfo, hi, sliced, Result.andThen, ha]
section
variable {P : Program} {ops : Array Oper} {rest : List Oper} {o : Oper} {a : Act} {Q : Exit → Act → World → Prop} {α : Type}
/-- 'make([]T, 0, c)'. -/
theorem R_make_cap (d : Kd α) {w0 W : World} (base e : Nat) (hgd : o.guard = none) {N : Tmp} (hd : o.dst = some N) (t : TypeId) (x y : Operand) (ho : o.op = .makeSlice t x y) (n : Int) (hx : a.eval x = .int .i64 0) (hy : a.eval y = .int .i64 n)
    (ht : P.underlying t = some (.slice e)) (z : Value) (bytes : Nat) (hinfo : (P.info? e).map (fun i => (i.zero, i.size, i.bytes)) = some (some z, d.sz, bytes)) (hz : z.cells.size = d.sz) (hs0 : 0 < d.sz) (hb0 : 0 < bytes)
    {ok : Nat → Prop} (hfresh : ok W.heap.size) (h0 : 0 ≤ n) (hl : n.toNat * bytes ≤ 281474976710656) (HB : Below base w0 W) (hbase : base ≤ W.heap.size)
    (h : ∀ v1 w1, d.R e w1 base ok v1 [] → Below base w0 w1 → W.grownBy w1 none → (∃ b, v1.ownBlock = some b ∧ W.heap.size ≤ b) → wpList P ops Q rest (a.put o.dst v1) w1) : wpList P ops Q (o :: rest) a W := by
  obtain ⟨m, rfl⟩ := Int.eq_ofNat_of_zero_le h0
  simp only [Int.toNat_natCast] at hl
  obtain ⟨i0, hi, hzz⟩ := Option.map_eq_some_iff.1 hinfo
  simp only [Prod.mk.injEq] at hzz
  obtain ⟨hz0, hz1, hz2⟩ := hzz
  have hm : m ≤ 281474976710656 := Nat.le_trans (Nat.le_mul_of_pos_right _ hb0) hl
  have hr := run_make (P := P) W t e i0 z ht hi hz0 .i64 .i64 (0 : Int) (m : Int) (by omega) (by omega)
    (by
      have h3 : ((i0.bytes * m : Nat) : Int) ≤ 281474976710656 := by rw [hz2, Nat.mul_comm]; omega
      rwa [Int.natCast_mul] at h3) (by omega)
  simp only [Int.toNat_natCast] at hr
  rw [hz1] at hr
  refine wpList_plain hgd fun K hK => ?_
  unfold Oper.wp execOp
  simp only [ho, hx, hy, hr, Sem.run_bind, Sem.run_pure, Result.andThen_ok]
  have hR : d.R e (W.alloc (.cells (madeCells z.cells (m * d.sz)) e)) base ok (.slice (some ⟨W.heap.size, 0, none⟩) 0 m) [] := by
    refine ⟨fun k hk => ?_, [], ⟨by simp, .inr ⟨W.heap.size, m, _, rfl, hbase, heap_alloc_new W _, by simp, by simp only [maxLen]; omega, by simp [size_madeCells], by simp⟩⟩, Reps.none _ _⟩
    simp [Value.ownBlock] at hk
    subst hk
    exact hfresh
  exact hK _ _ (h _ _ hR (HB.alloc hbase _) (World.grownBy_alloc _ _ _) ⟨W.heap.size, by simp [Value.ownBlock], Nat.le_refl _⟩)
end
end Go.Proofs.Aid
end
-- WTab
section
namespace Go.Proofs.YtbpobnlkfpjijaaDoorRW.PrintLast
open Go.Proofs.YtbpobnlkfpjijaaDoorRW.PrintWords (Aside0)
def needsOf (md : Region.Mode) (o : Oper) : List Nat := (o.after.toList.filter (fun e => Region.binds md e)).map (fun e => e.on)
def clashOf (md : Region.Mode) (ops : Array Oper) (i : Nat) (oi : Oper) : List Nat := (List.range ops.size).filter fun j => !(j == i) && match ops[j]? with
  | some oj => !(oj.after.any (fun e => Region.binds md e && e.on == i) || oi.apart ops oj)
  | none => false
def rtab (md : Region.Mode) (ops : Array Oper) : Bool × List (List Nat × List Nat) := (Region.noSelect ops, (List.range ops.size).map fun i => match ops[i]? with
  | some o => (needsOf md o, clashOf md ops i o)
  | none => ([], []))
def readyAt (T : List (List Nat × List Nat)) (l : List Bool) (i : Nat) : Bool := !l.getD i true && match T[i]? with
  | some r => r.1.all (fun j => l.getD j false)
  | none => false
def readyT (T : List (List Nat × List Nat)) (l : List Bool) : List Nat := (List.range T.length).filter (readyAt T l)
def freeT (T : List (List Nat × List Nat)) (l : List Bool) (i : Nat) : Bool := match T[i]? with
  | some r => r.2.all (fun j => l.getD j true)
  | none => false
def closedT (T : List (List Nat × List Nat)) (l : List Bool) : Bool := (List.range T.length).all fun j => !l.getD j false || match T[j]? with
  | some r => r.1.all (fun k => l.getD k false)
  | none => true
def reachT (T : List (List Nat × List Nat)) (i : Nat) : Nat → Nat → Bool
  | 0, _ => false
  | fuel + 1, d => match T[d]? with
    | some r => r.1.any fun j => j == i || reachT T i fuel j
    | none => false
def lastT (T : List (List Nat × List Nat)) (l : List Bool) (ds : List Nat) (i : Nat) : Bool := ds.all fun d => l.getD d true || reachT T i T.length d
section
variable {md : Region.Mode} {ops : Array Oper} {T : Bool × List (List Nat × List Nat)} {l l' li lj lk : Array Bool} {ds : List Nat} {i j k : Nat}
theorem gd (l : Array Bool) (j : Nat) (b : Bool) : l.getD j b = l.toList.getD j b := by simp [Array.getD_eq_getD_getElem?, List.getD_eq_getElem?_getD]
theorem needs_all (o : Oper) (p : Nat → Bool) : o.after.all (fun e => !Region.binds md e || p e.on) = (needsOf md o).all p := by
  unfold needsOf
  rw [← Array.all_toList]
  induction o.after.toList with
  | nil => rfl
  | cons e r ih =>
    rw [List.all_cons, ih, List.filter_cons]
    cases h : Region.binds md e <;> simp
theorem needs_any (o : Oper) (p : Nat → Bool) : o.after.any (fun e => Region.binds md e && p e.on) = (needsOf md o).any p := by
  unfold needsOf
  rw [← Array.any_toList]
  induction o.after.toList with
  | nil => rfl
  | cons e r ih =>
    rw [List.any_cons, ih, List.filter_cons]
    cases h : Region.binds md e <;> simp
theorem rtab_length : (rtab md ops).2.length = ops.size := by simp [rtab]
theorem rtab_some {o : Oper} (h : ops[i]? = some o) : (rtab md ops).2[i]? = some (needsOf md o, clashOf md ops i o) := by
  have hi := (Array.getElem?_eq_some_iff.1 h).1
  unfold rtab
  rw [List.getElem?_map, List.getElem?_range hi, Option.map_some, h]
theorem rtab_none (h : ops[i]? = none) : (rtab md ops).2[i]? = none := by
  have hi : ops.size ≤ i := Array.getElem?_eq_none_iff.1 h
  exact List.getElem?_eq_none (by rw [rtab_length]; exact hi)
theorem readyAt_eq : readyAt (rtab md ops).2 l.toList i = (!l.getD i true && ((ops[i]?).map (·.after.all fun e => !Region.binds md e || l.getD e.on false)).getD false) := by
  unfold readyAt
  rw [gd]
  cases h : ops[i]? with
  | none => rw [rtab_none h]; rfl
  | some o =>
    rw [rtab_some h]
    simp only [Option.map_some, Option.getD_some]
    rw [← needs_all]
    simp only [gd]
theorem ready_eq : Region.ready md ops l = readyT (rtab md ops).2 l.toList := by
  unfold Region.ready readyT
  rw [rtab_length]
  refine List.filter_congr (fun i _ => ?_)
  rw [readyAt_eq]
theorem free_eq : Region.free md ops l i = freeT (rtab md ops).2 l.toList i := by
  unfold Region.free freeT
  cases h : ops[i]? with
  | none => rw [rtab_none h]
  | some oi =>
    rw [rtab_some h]
    simp only [clashOf]
    rw [List.all_filter]
    congr 1
    funext j
    rw [gd]
    cases hj : ops[j]? with
    | none => cases (j == i) <;> cases (l.toList.getD j true) <;> simp
    | some oj =>
      cases (j == i) <;> cases (l.toList.getD j true) <;> cases (oj.after.any (fun e => Region.binds md e && e.on == i) || oi.apart ops oj) <;> simp_all
theorem closed_eq : Region.closedB md ops l = closedT (rtab md ops).2 l.toList := by
  unfold Region.closedB closedT
  rw [rtab_length]
  congr 1
  funext j
  rw [gd]
  cases h : ops[j]? with
  | none => rw [rtab_none h]
  | some o =>
    rw [rtab_some h]
    simp only
    rw [← needs_all]
    simp only [gd]
theorem reach_eq : ∀ (fuel d : Nat), Region.reachB md ops i fuel d = reachT (rtab md ops).2 i fuel d
  | 0, _ => rfl
  | fuel + 1, d => by
    unfold Region.reachB reachT
    cases h : ops[d]? with
    | none => rw [rtab_none h]
    | some o =>
      rw [rtab_some h]
      simp only
      rw [← needs_any]
      congr 1
      funext e
      rw [reach_eq fuel]
theorem last_eq : Region.lastB md ops l ds i = lastT (rtab md ops).2 l.toList ds i := by
  unfold Region.lastB lastT
  rw [rtab_length]
  congr 1
  funext d
  rw [gd, reach_eq]
theorem readyAt_mem (h : readyAt T.2 l.toList i = true) (hT : rtab md ops = T) : (Region.ready md ops l).contains i = true := by
  subst hT
  rw [ready_eq]
  unfold readyT
  rw [List.contains_iff_mem, List.mem_filter, List.mem_range]
  refine ⟨?_, h⟩
  unfold readyAt at h
  rw [Bool.and_eq_true] at h
  cases hq : (rtab md ops).2[i]? with
  | none => rw [hq] at h; simp at h
  | some r => exact (List.getElem?_eq_some_iff.1 hq).1
theorem set_of (h : (l.toList.set i true == l'.toList) = true) : (l.setIfInBounds i true == l') = true := by
  rw [beq_iff_eq] at h ⊢
  apply Array.ext'
  rw [Array.toList_setIfInBounds]
  exact h
def anyT (T : Bool × List (List Nat × List Nat)) (l l' : List Bool) (i : Nat) : Bool := T.1 && freeT T.2 l i && readyAt T.2 l i && (l.set i true == l')
theorem any_of (hT : rtab md ops = T) (h : anyT T l.toList l'.toList i = true) : anyB md ops l l' i = true := by
  simp only [anyT, Bool.and_eq_true] at h
  obtain ⟨⟨⟨h1, h2⟩, h3⟩, h4⟩ := h
  have h5 := readyAt_mem h3 hT
  have h6 := set_of h4
  subst hT
  simp only [anyB, Bool.and_eq_true]
  exact ⟨⟨⟨h1, by rw [free_eq]; exact h2⟩, h5⟩, h6⟩
def takeT (T : Bool × List (List Nat × List Nat)) (ds : List Nat) (l l' : List Bool) (i : Nat) : Bool := T.1 && freeT T.2 l i && readyAt T.2 l i && closedT T.2 l && lastT T.2 l ds i && (l.set i true == l')
theorem take_of (hT : rtab md ops = T) (h : takeT T ds l.toList l'.toList i = true) : takeB md ops ds l l' i = true := by
  simp only [takeT, Bool.and_eq_true] at h
  obtain ⟨⟨⟨⟨⟨h1, h2⟩, h3⟩, h4⟩, h5⟩, h6⟩ := h
  have h7 := readyAt_mem h3 hT
  have h8 := set_of h6
  subst hT
  simp only [takeB, Bool.and_eq_true]
  exact ⟨⟨⟨⟨⟨h1, by rw [free_eq]; exact h2⟩, h7⟩, by rw [closed_eq]; exact h4⟩, by rw [last_eq]; exact h5⟩, h8⟩
theorem one_of (hT : rtab md ops = T) (h : (readyT T.2 l.toList == [i] && l.toList.set i true == l'.toList) = true) : readyB md ops l l' i = true := by
  simp only [Bool.and_eq_true] at h
  obtain ⟨h1, h2⟩ := h
  subst hT
  simp only [readyB, Bool.and_eq_true]
  exact ⟨by rw [ready_eq]; exact h1, set_of h2⟩
theorem two_of (hT : rtab md ops = T) (h : (readyT T.2 l.toList == [i, j] && l.toList.set i true == li.toList && l.toList.set j true == lj.toList) = true) : (Region.ready md ops l == [i, j] && l.setIfInBounds i true == li && l.setIfInBounds j true == lj) = true := by
  simp only [Bool.and_eq_true] at h ⊢
  obtain ⟨⟨h1, h2⟩, h3⟩ := h
  subst hT
  exact ⟨⟨by rw [ready_eq]; exact h1, set_of h2⟩, set_of h3⟩
theorem done_of (hT : rtab md ops = T) (h : (readyT T.2 l.toList == []) = true) : (Region.ready md ops l == []) = true := by
  subst hT
  rw [ready_eq]
  exact h
def upM (B : List Nat) (d : Nat) : List Nat → Nat
  | [] => 0
  | n :: r => (2 ^ n ||| (if n < d then B.getD n 0 else 0)) ||| upM B d r
def waitsOk (T : List (List Nat × List Nat)) (B : List Nat) : Bool := (List.range T.length).all fun d => match T[d]? with
  | some r => (B.getD d 0 ||| upM B d r.1) == upM B d r.1
  | none => false
theorem upM_bit {B : List Nat} {d i : Nat} : ∀ {ns : List Nat}, (upM B d ns).testBit i = true → ∃ n ∈ ns, n = i ∨ (n < d ∧ (B.getD n 0).testBit i = true)
  | [], h => by simp [upM] at h
  | n :: r, h => by
    unfold upM at h
    rw [Nat.testBit_or, Nat.testBit_or, Bool.or_eq_true, Bool.or_eq_true] at h
    rcases h with (h | h) | h
    · rw [Nat.testBit_two_pow] at h
      exact ⟨n, List.mem_cons_self, .inl (by simpa using h)⟩
    · by_cases hn : n < d
      · rw [if_pos hn] at h
        exact ⟨n, List.mem_cons_self, .inr ⟨hn, h⟩⟩
      · rw [if_neg hn] at h
        simp at h
    · obtain ⟨m, hm, h2⟩ := upM_bit h
      exact ⟨m, List.mem_cons_of_mem _ hm, h2⟩
theorem reach_bit {T : List (List Nat × List Nat)} {B : List Nat} (hB : waitsOk T B = true) : ∀ (fuel d : Nat), d < fuel → d < T.length → (B.getD d 0).testBit i = true → reachT T i fuel d = true
  | 0, d, h, _, _ => by omega
  | fuel + 1, d, h, hd, hb => by
    have h1 := List.all_eq_true.1 hB d (List.mem_range.2 hd)
    cases hr : T[d]? with
    | none => rw [hr] at h1; simp at h1
    | some r =>
      rw [hr] at h1
      simp only [beq_iff_eq] at h1
      have h2 : (upM B d r.1).testBit i = true := by rw [← h1, Nat.testBit_or, hb, Bool.true_or]
      obtain ⟨n, hn, h3⟩ := upM_bit h2
      unfold reachT
      rw [hr]
      simp only
      rw [List.any_eq_true]
      refine ⟨n, hn, ?_⟩
      rcases h3 with rfl | ⟨h4, h5⟩
      · simp
      · rw [reach_bit hB fuel n (by omega) (by omega) h5, Bool.or_true]
def lastW (T : List (List Nat × List Nat)) (B : List Nat) (l : List Bool) (ds : List Nat) (i : Nat) : Bool := ds.all fun d => l.getD d true || (decide (d < T.length) && (B.getD d 0).testBit i)
def takeW (T : Bool × List (List Nat × List Nat)) (B : List Nat) (ds : List Nat) (l l' : List Bool) (i : Nat) : Bool := T.1 && freeT T.2 l i && readyAt T.2 l i && closedT T.2 l && lastW T.2 B l ds i && (l.set i true == l')
theorem take_ofW {B : List Nat} (hT : rtab md ops = T) (hB : waitsOk T.2 B = true) (h : takeW T B ds l.toList l'.toList i = true) : takeB md ops ds l l' i = true := by
  refine take_of hT ?_
  simp only [takeW, takeT, Bool.and_eq_true] at h ⊢
  obtain ⟨⟨⟨⟨⟨h1, h2⟩, h3⟩, h4⟩, h5⟩, h6⟩ := h
  refine ⟨⟨⟨⟨⟨h1, h2⟩, h3⟩, h4⟩, ?_⟩, h6⟩
  unfold lastW at h5
  unfold lastT
  rw [List.all_eq_true] at h5 ⊢
  intro d hd
  have h7 := h5 d hd
  rw [Bool.or_eq_true, Bool.and_eq_true, decide_eq_true_eq] at h7
  rcases h7 with h7 | ⟨h8, h9⟩
  · rw [h7, Bool.true_or]
  · rw [reach_bit hB _ d h8 h8 h9, Bool.or_true]
theorem with_tabW {P : Program} {Q : Exit → Act → World → Prop} {S : World → Prop} {n : Nat} {a : Act} {w : World} {B : List Nat} (hT : rtab md ops = T) (hB : waitsOk T.2 B = true) (h : Aside0 (rtab md ops = T) → Aside0 (waitsOk T.2 B = true) → wpAnyLast P md ops Q S ds n l a w) : wpAnyLast P md ops Q S ds n l a w := h ⟨hT⟩ ⟨hB⟩
end
def opsIn : Code → Nat → Option (Array Oper)
  | .region id ops _, k => if id == k then some ops else none
  | .seq a b, k => match opsIn a k with
    | some o => some o
    | none => opsIn b k
  | .cond _ a b, k => match opsIn a k with
    | some o => some o
    | none => opsIn b k
  | .block _ c, k => opsIn c k
  | .loop c, k => opsIn c k
  | .scope c, k => opsIn c k
  | .rangeFunc _ _ a b, k => match opsIn a k with
    | some o => some o
    | none => opsIn b k
  | _, _ => none
def opsOf (f : Func) (k : Nat) : Array Oper := ((f.body.bind fun c => opsIn c k)).getD #[]
end Go.Proofs.YtbpobnlkfpjijaaDoorRW.PrintLast
end
-- WFour
section
namespace Go.Proofs.YtbpobnlkfpjijaaDoorRW.PrintLast
section
variable {P : Program} {ops : Array Oper} {Q : Exit → Act → World → Prop} {md : Region.Mode} {S : World → Prop} {ds : List Nat} {T : Bool × List (List Nat × List Nat)}
end
end Go.Proofs.YtbpobnlkfpjijaaDoorRW.PrintLast
end
-- WFootNe
section
namespace Go.Proofs.YtbpobnlkfpjijaaDoorRW.PrintWords
open Go.RowKit
namespace Kd
section
variable {α : Type} {d : Kd α} {W : World} {g n : Nat} {S ok : Nat → Prop} {A : Option Addr} {ad : Addr} {xs : List α}
end
end Kd
end Go.Proofs.YtbpobnlkfpjijaaDoorRW.PrintWords
end
-- WAt
section
namespace Go.Proofs.YtbpobnlkfpjijaaDoorRW.PrintWords
open Go.RowKit
section
variable {w w' u : World} {m B g : Nat} {o : Obj} {row : Option Nat} {S : Nat → Prop} {a : Addr} {v : Value}
end
namespace Kd
section
variable {α : Type} {d : Kd α} {e base n m : Nat} {ok : Nat → Prop} {w w' : World} {v : Value} {A : Option Addr} {xs : List α}
end
end Kd
end Go.Proofs.YtbpobnlkfpjijaaDoorRW.PrintWords
end
-- WEqStruct
section
namespace Go.Proofs.YtbpobnlkfpjijaaDoorRW.PrintWords
open Go.RowKit
section
variable {P : Program} {d : Nat} {xs ys : Array Value} {f : Field} {fs : List Field} {a b : Value} {r s : Bool} {w : World}
theorem eqf_last (hn : (f.name == "_") = false) (ha : (part f.type xs f.offset).run P w = .ok a w) (hb : (part f.type ys f.offset).run P w = .ok b w) (he : (Op.equalIn d f.type a b).run P w = .ok r w) : (Op.eqFields d xs ys [f]).run P w = .ok r w := by
  have hn' : f.name ≠ "_" := by simpa using hn
  simp only [Op.eqFields, if_pos hn', Sem.run_bind, ha, hb, he, Result.andThen_ok]
  cases r <;> simp
theorem eqf_cons (hn : (f.name == "_") = false) (ha : (part f.type xs f.offset).run P w = .ok a w) (hb : (part f.type ys f.offset).run P w = .ok b w) (he : (Op.equalIn d f.type a b).run P w = .ok r w) (hr : (Op.eqFields d xs ys fs).run P w = .ok s w) : (Op.eqFields d xs ys (f :: fs)).run P w = .ok (r && s) w := by
  have hn' : f.name ≠ "_" := by simpa using hn
  rw [Op.eqFields]
  simp only [if_pos hn', Sem.run_bind, ha, hb, he, Result.andThen_ok]
  cases r
  · simp
  · simpa using hr
theorem eqA_of {t : TypeId} {fs : Array Field} (hu : P.underlying t = some (.struct fs)) (hp : P.stoodInHeld t = false) (h : (Op.eqFields d xs ys fs.toList).run P w = .ok r w) : (Op.equalIn (d + 1) t (.agg xs) (.agg ys)).run P w = .ok r w := by
  have hf : P.fieldsOf t = fs := by simp [Program.fieldsOf, hu]
  rw [run_equalIn_struct (P := P) w d t xs ys (by rw [hf]; exact hu) hp, hf]
  exact h
end
end Go.Proofs.YtbpobnlkfpjijaaDoorRW.PrintWords
end
-- WRepsOne
section
namespace Go.Proofs.YtbpobnlkfpjijaaDoorRW.PrintWords
theorem Reps.one {α : Type} {R : α → List Value → Prop} {ps : List α} {cs : List Value} {p : α} {v : Value} (hp : R p [v]) (h : Reps R 1 ps cs) : Reps R 1 (p :: ps) (v :: cs) := by
  refine ⟨by simp [h.1], fun j q hq => ?_⟩
  cases j with
  | zero =>
    simp only [List.getElem?_cons_zero, Option.some.injEq] at hq
    subst hq
    simpa using hp
  | succ j =>
    simp only [List.getElem?_cons_succ] at hq
    have h1 := h.2 j q hq
    simpa [Nat.mul_one] using h1
theorem Reps.front {α : Type} {R : α → List Value → Prop} {size : Nat} {ps : List α} {cs c all : List Value} {p : α} (hp : R p c) (hc : c.length = size) (h : Reps R size ps cs) (ha : c ++ cs = all) : Reps R size (p :: ps) all := by
  subst ha
  refine ⟨by rw [List.length_append, hc, h.1, List.length_cons, Nat.succ_mul, Nat.add_comm], fun j q hq => ?_⟩
  cases j with
  | zero =>
    simp only [List.getElem?_cons_zero, Option.some.injEq] at hq
    subst hq
    rw [Nat.zero_mul, List.drop_zero, List.take_append_of_le_length (by omega), List.take_of_length_le (by omega)]
    exact hp
  | succ j =>
    simp only [List.getElem?_cons_succ] at hq
    have h1 := h.2 j q hq
    rw [Nat.succ_mul, List.drop_append, List.drop_of_length_le (by rw [hc]; exact Nat.le_add_left _ _), List.nil_append, hc, Nat.add_sub_cancel]
    exact h1
theorem Reps.c2 {α : Type} {R : α → List Value → Prop} {ps : List α} {cs : List Value} {p : α} {va vb : Value} (hp : R p [va, vb]) (h : Reps R 2 ps cs) : Reps R 2 (p :: ps) (va :: vb :: cs) := Reps.front hp rfl h rfl
theorem Reps.c3 {α : Type} {R : α → List Value → Prop} {ps : List α} {cs : List Value} {p : α} {va vb vc : Value} (hp : R p [va, vb, vc]) (h : Reps R 3 ps cs) : Reps R 3 (p :: ps) (va :: vb :: vc :: cs) := Reps.front hp rfl h rfl
theorem Reps.c4 {α : Type} {R : α → List Value → Prop} {ps : List α} {cs : List Value} {p : α} {va vb vc vd : Value} (hp : R p [va, vb, vc, vd]) (h : Reps R 4 ps cs) : Reps R 4 (p :: ps) (va :: vb :: vc :: vd :: cs) := Reps.front hp rfl h rfl
theorem Reps.c5 {α : Type} {R : α → List Value → Prop} {ps : List α} {cs : List Value} {p : α} {va vb vc vd ve : Value} (hp : R p [va, vb, vc, vd, ve]) (h : Reps R 5 ps cs) : Reps R 5 (p :: ps) (va :: vb :: vc :: vd :: ve :: cs) := Reps.front hp rfl h rfl
theorem Reps.c6 {α : Type} {R : α → List Value → Prop} {ps : List α} {cs : List Value} {p : α} {va vb vc vd ve vf : Value} (hp : R p [va, vb, vc, vd, ve, vf]) (h : Reps R 6 ps cs) : Reps R 6 (p :: ps) (va :: vb :: vc :: vd :: ve :: vf :: cs) := Reps.front hp rfl h rfl
theorem Reps.c7 {α : Type} {R : α → List Value → Prop} {ps : List α} {cs : List Value} {p : α} {va vb vc vd ve vf vg : Value} (hp : R p [va, vb, vc, vd, ve, vf, vg]) (h : Reps R 7 ps cs) : Reps R 7 (p :: ps) (va :: vb :: vc :: vd :: ve :: vf :: vg :: cs) := Reps.front hp rfl h rfl
theorem Reps.c8 {α : Type} {R : α → List Value → Prop} {ps : List α} {cs : List Value} {p : α} {va vb vc vd ve vf vg vh : Value} (hp : R p [va, vb, vc, vd, ve, vf, vg, vh]) (h : Reps R 8 ps cs) : Reps R 8 (p :: ps) (va :: vb :: vc :: vd :: ve :: vf :: vg :: vh :: cs) := Reps.front hp rfl h rfl
theorem Reps.c9 {α : Type} {R : α → List Value → Prop} {ps : List α} {cs : List Value} {p : α} {va vb vc vd ve vf vg vh vi : Value} (hp : R p [va, vb, vc, vd, ve, vf, vg, vh, vi]) (h : Reps R 9 ps cs) : Reps R 9 (p :: ps) (va :: vb :: vc :: vd :: ve :: vf :: vg :: vh :: vi :: cs) := Reps.front hp rfl h rfl
theorem Reps.c10 {α : Type} {R : α → List Value → Prop} {ps : List α} {cs : List Value} {p : α} {va vb vc vd ve vf vg vh vi vj : Value} (hp : R p [va, vb, vc, vd, ve, vf, vg, vh, vi, vj]) (h : Reps R 10 ps cs) : Reps R 10 (p :: ps) (va :: vb :: vc :: vd :: ve :: vf :: vg :: vh :: vi :: vj :: cs) := Reps.front hp rfl h rfl
end Go.Proofs.YtbpobnlkfpjijaaDoorRW.PrintWords
end
-- WInv
section
namespace Go.Proofs.YtbpobnlkfpjijaaDoorRW.PrintLast
def up (b : Nat → Bool) (i : Nat) : Nat → Bool := fun j => if j = i then true else b j
section
variable {P : Program} {ops : Array Oper} {Q : Exit → Act → World → Prop} {md : Region.Mode} {T : Bool × List (List Nat × List Nat)} {B : List Nat} {O : List Nat} {b : Nat → Bool} {i j n : Nat}
end
end Go.Proofs.YtbpobnlkfpjijaaDoorRW.PrintLast
end
-- WInvWords
section
namespace Go.Proofs.YtbpobnlkfpjijaaDoorRW.PrintWords
open Go.RowKit
end Go.Proofs.YtbpobnlkfpjijaaDoorRW.PrintWords
namespace Go.Proofs.YtbpobnlkfpjijaaDoorRW.PrintLast
section
variable {ops : Array Oper} {a : Act} {o og : Oper} {g : Nat} {t : Tmp} {u : Bool}
end
end Go.Proofs.YtbpobnlkfpjijaaDoorRW.PrintLast
end
-- WGuard
section
namespace Go.Proofs.YtbpobnlkfpjijaaDoorRW.PrintWords
open Go.RowKit
section
variable {P : Program} {ops : Array Oper} {rest : List Oper} {o : Oper} {a : Act} {Q : Exit → Act → World → Prop} {W : World}
theorem gate_guard (hw : Region.wanted o (yielded ops a.tmps) = true) (h : wpList P ops Q ({ o with guard := none } :: rest) a W) : wpList P ops Q (o :: rest) a W := by
  have h1 : Region.wanted { o with guard := none } (yielded ops a.tmps) = true := rfl
  unfold wpList at h ⊢
  rw [if_pos h1] at h
  rw [if_pos hw]
  exact h
end
end Go.Proofs.YtbpobnlkfpjijaaDoorRW.PrintWords
end
-- Pr0
section
namespace Go.Proofs.YtbpobnlkfpjijaaDoorR.Pr
open Go.RowKit Go.Proofs.YtbpobnlkfpjijaaDoorRW.PrintWords Go.Proofs.YtbpobnlkfpjijaaDoorRW.PrintLast Go.Proofs.YtbpobnlkfpjijaaDoorRW.PrintMore
attribute [local go_sem] max2_int min2_int max_two min_two max_three min_three max_four min_four   -- for this text's walks alone
set_option linter.unusedVariables false
set_option linter.unusedSimpArgs false



def errW : Option Int → Value
  | none => .nilIface
  | some c => .iface 0 (.int .i64 c)
theorem errW_none : errW none = .nilIface := rfl
theorem errW_some (c : Int) : errW (some c) = .iface 0 (.int .i64 c) := rfl

theorem info5 : (Tryd.prog.info? 5).map (fun i => (i.zero, i.size, i.bytes)) = some (some (.int .u8 0), 1, 1) := by kernel_rfl
theorem info45 : (Tryd.prog.info? 45).map (fun i => (i.zero, i.size, i.bytes)) = some (some (.agg #[(.int .i64 0), (.int .i64 0), (.slice none 0 0), (.slice none 0 0), (.slice none 0 0), (.bool false)]), 6, 96) := by kernel_rfl
theorem info79 : (Tryd.prog.info? 79).map (fun i => (i.zero, i.size, i.bytes)) = some (some (.int .u64 0), 1, 8) := by kernel_rfl
-- the values' own types
structure S23 where
  f0 : Int
  f1 : Int
def z23 : S23 := ⟨(0 : Int), (0 : Int)⟩
def k23 : Kd S23 := Kd.iso (Kd.pair (Kd.int .i64) (Kd.int .i64)) (fun x : S23 => (x.f0, x.f1))
theorem k23_heap : Kd.Heap k23 := Kd.heap_iso _ (Kd.heap_pair (Kd.heap_int .i64) (Kd.heap_int .i64))
theorem k23_open {w : World} {x : S23} {cs : List Value} (h : k23.K w x cs) : cs = [.int .i64 x.f0, .int .i64 x.f1] := by
  obtain ⟨_, _, rfl, rfl, rfl⟩ := h
  exact rfl
theorem k23_openM {w : World} {base : Nat} {ok : Nat → Prop} {x : S23} {cs : List Value} (h : k23.M w base ok x cs) : cs = [.int .i64 x.f0, .int .i64 x.f1] := by
  obtain ⟨_, _, rfl, rfl, rfl⟩ := h
  exact rfl
theorem k23_mk (w : World) (x : S23)  : k23.K w x [.int .i64 x.f0, .int .i64 x.f1] := ⟨[.int .i64 x.f0], [.int .i64 x.f1], rfl, rfl, rfl⟩
theorem k23_mkM (w : World) (base : Nat) (ok : Nat → Prop) (x : S23)  : k23.M w base ok x [.int .i64 x.f0, .int .i64 x.f1] := ⟨[.int .i64 x.f0], [.int .i64 x.f1], rfl, rfl, rfl⟩
theorem k23_mkF (W : World) (ok : Nat → Prop) (x : S23) : Kd.FK k23 W ok x [.int .i64 x.f0, .int .i64 x.f1] := fun W2 _ => k23_mk W2 x
def rd_T23 (xs : List S23) (i : Int) : S23 := xs.getD i.toNat z23
theorem at_T23 {w : World} {A : Option Addr} {n : Nat} {xs : List S23} (h : Kd.C k23 w A n xs) (i : Int) (h0 : 0 ≤ i) (h1 : i < n) : ∃ ad , A = some ad ∧ w.cell? (ad.add (i.toNat * 2)) = some (.int .i64 (rd_T23 xs i).f0) ∧ w.cell? ⟨(ad.add (i.toNat * 2)).block, (ad.add (i.toNat * 2)).off + 1, none⟩ = some (.int .i64 (rd_T23 xs i).f1) := by
  obtain ⟨ad, c, e, _, hK, hc0⟩ := Kd.C_get h z23 i h0 h1
  have hc : ∀ j u, c[j]? = some u → w.cell? (ad.add (i.toNat * 2 + j)) = some u := hc0
  obtain rfl := k23_open hK
  exact ⟨ad, e, hc 0 _ rfl, by rw [← add_field _ _ 1 (by omega)]; exact hc 1 _ rfl⟩

structure S41 where
  f0 : ByteArray
  f1 : ByteArray
  f2 : ByteArray
def z41 : S41 := ⟨(⟨#[]⟩ : ByteArray), (⟨#[]⟩ : ByteArray), (⟨#[]⟩ : ByteArray)⟩
def k41 : Kd S41 := Kd.iso (Kd.pair Kd.string (Kd.pair Kd.string Kd.string)) (fun x : S41 => (x.f0, x.f1, x.f2))
theorem k41_heap : Kd.Heap k41 := Kd.heap_iso _ (Kd.heap_pair Kd.heap_string (Kd.heap_pair Kd.heap_string Kd.heap_string))
theorem k41_open {w : World} {x : S41} {cs : List Value} (h : k41.K w x cs) : cs = [.string x.f0, .string x.f1, .string x.f2] := by
  obtain ⟨_, _, rfl, rfl, ⟨_, _, rfl, rfl, rfl⟩⟩ := h
  exact rfl
theorem k41_openM {w : World} {base : Nat} {ok : Nat → Prop} {x : S41} {cs : List Value} (h : k41.M w base ok x cs) : cs = [.string x.f0, .string x.f1, .string x.f2] := by
  obtain ⟨_, _, rfl, rfl, ⟨_, _, rfl, rfl, rfl⟩⟩ := h
  exact rfl
theorem k41_mk (w : World) (x : S41)  : k41.K w x [.string x.f0, .string x.f1, .string x.f2] := ⟨[.string x.f0], [.string x.f1, .string x.f2], rfl, rfl, ⟨[.string x.f1], [.string x.f2], rfl, rfl, rfl⟩⟩
theorem k41_mkM (w : World) (base : Nat) (ok : Nat → Prop) (x : S41)  : k41.M w base ok x [.string x.f0, .string x.f1, .string x.f2] := ⟨[.string x.f0], [.string x.f1, .string x.f2], rfl, rfl, ⟨[.string x.f1], [.string x.f2], rfl, rfl, rfl⟩⟩
theorem k41_mkF (W : World) (ok : Nat → Prop) (x : S41) : Kd.FK k41 W ok x [.string x.f0, .string x.f1, .string x.f2] := fun W2 _ => k41_mk W2 x
def rd_T41 (xs : List S41) (i : Int) : S41 := xs.getD i.toNat z41
theorem at_T41 {w : World} {A : Option Addr} {n : Nat} {xs : List S41} (h : Kd.C k41 w A n xs) (i : Int) (h0 : 0 ≤ i) (h1 : i < n) : ∃ ad , A = some ad ∧ w.cell? (ad.add (i.toNat * 3)) = some (.string (rd_T41 xs i).f0) ∧ w.cell? ⟨(ad.add (i.toNat * 3)).block, (ad.add (i.toNat * 3)).off + 1, none⟩ = some (.string (rd_T41 xs i).f1) ∧ w.cell? ⟨(ad.add (i.toNat * 3)).block, (ad.add (i.toNat * 3)).off + 2, none⟩ = some (.string (rd_T41 xs i).f2) := by
  obtain ⟨ad, c, e, _, hK, hc0⟩ := Kd.C_get h z41 i h0 h1
  have hc : ∀ j u, c[j]? = some u → w.cell? (ad.add (i.toNat * 3 + j)) = some u := hc0
  obtain rfl := k41_open hK
  exact ⟨ad, e, hc 0 _ rfl, by rw [← add_field _ _ 1 (by omega)]; exact hc 1 _ rfl, by rw [← add_field _ _ 2 (by omega)]; exact hc 2 _ rfl⟩

def rd_L7 (xs : List (List Int)) (i : Int) : (List Int) := xs.getD i.toNat ([] : List Int)
theorem at_L7 {w : World} {A : Option Addr} {n : Nat} {xs : List (List Int)} (h : Kd.C (Kd.slice 79 (Kd.int .u64)) w A n xs) (i : Int) (h0 : 0 ≤ i) (h1 : i < n) : ∃ ad A0 c0, A = some ad ∧ w.cell? (ad.add i.toNat) = some (.slice A0 (rd_L7 xs i).length c0) ∧ (rd_L7 xs i).length ≤ c0 ∧ (Kd.int .u64).C w A0 (rd_L7 xs i).length (rd_L7 xs i) := by
  obtain ⟨ad, c, e, _, hK, hc0⟩ := Kd.C_get h ([] : List Int) i h0 h1
  have hc : ∀ j u, c[j]? = some u → w.cell? (ad.add (i.toNat * 1 + j)) = some u := hc0
  obtain ⟨A0, c0, rfl, l0, g0⟩ := hK
  exact ⟨ad, A0, c0, e, by have hq := hc 0 _ rfl; rwa [Nat.mul_one, Nat.add_zero] at hq, l0, g0⟩

structure S45 where
  f0 : S23
  f1 : (List Int)
  f2 : (List Int)
  f3 : (List Int)
  f4 : Bool
def z45 : S45 := ⟨z23, ([] : List Int), ([] : List Int), ([] : List Int), false⟩
def k45 : Kd S45 := Kd.iso (Kd.pair k23 (Kd.pair (Kd.slice 79 (Kd.int .u64)) (Kd.pair (Kd.slice 79 (Kd.int .u64)) (Kd.pair (Kd.slice 79 (Kd.int .u64)) Kd.bool)))) (fun x : S45 => (x.f0, x.f1, x.f2, x.f3, x.f4))
theorem k45_heap : Kd.Heap k45 := Kd.heap_iso _ (Kd.heap_pair k23_heap (Kd.heap_pair (Kd.heap_slice 79 (Kd.heap_int .u64)) (Kd.heap_pair (Kd.heap_slice 79 (Kd.heap_int .u64)) (Kd.heap_pair (Kd.heap_slice 79 (Kd.heap_int .u64)) Kd.heap_bool))))
theorem k45_open {w : World} {x : S45} {cs : List Value} (h : k45.K w x cs) : ∃ A2 c2 A3 c3 A4 c4, cs = [.int .i64 x.f0.f0, .int .i64 x.f0.f1, .slice A2 x.f1.length c2, .slice A3 x.f2.length c3, .slice A4 x.f3.length c4, .bool x.f4] ∧ x.f1.length ≤ c2 ∧ (Kd.int .u64).C w A2 x.f1.length x.f1 ∧ x.f2.length ≤ c3 ∧ (Kd.int .u64).C w A3 x.f2.length x.f2 ∧ x.f3.length ≤ c4 ∧ (Kd.int .u64).C w A4 x.f3.length x.f3 := by
  obtain ⟨_, _, rfl, s0, ⟨_, _, rfl, ⟨A2, c2, rfl, l2, g2⟩, ⟨_, _, rfl, ⟨A3, c3, rfl, l3, g3⟩, ⟨_, _, rfl, ⟨A4, c4, rfl, l4, g4⟩, rfl⟩⟩⟩⟩ := h
  obtain rfl := k23_open s0
  exact ⟨A2, c2, A3, c3, A4, c4, rfl, l2, g2, l3, g3, l4, g4⟩
theorem k45_openM {w : World} {base : Nat} {ok : Nat → Prop} {x : S45} {cs : List Value} (h : k45.M w base ok x cs) : ∃ v2 v3 v4, cs = [.int .i64 x.f0.f0, .int .i64 x.f0.f1, v2, v3, v4, .bool x.f4] ∧ (Kd.int .u64).R 79 w base ok v2 x.f1 ∧ (Kd.int .u64).R 79 w base ok v3 x.f2 ∧ (Kd.int .u64).R 79 w base ok v4 x.f3 := by
  obtain ⟨_, _, rfl, s0, ⟨_, _, rfl, ⟨v2, rfl, g2⟩, ⟨_, _, rfl, ⟨v3, rfl, g3⟩, ⟨_, _, rfl, ⟨v4, rfl, g4⟩, rfl⟩⟩⟩⟩ := h
  obtain rfl := k23_openM s0
  exact ⟨v2, v3, v4, rfl, g2, g3, g4⟩
theorem k45_mk (w : World) (x : S45) {A2 : Option Addr} {c2 : Nat} (l2 : x.f1.length ≤ c2) (g2 : (Kd.int .u64).C w A2 x.f1.length x.f1) {A3 : Option Addr} {c3 : Nat} (l3 : x.f2.length ≤ c3) (g3 : (Kd.int .u64).C w A3 x.f2.length x.f2) {A4 : Option Addr} {c4 : Nat} (l4 : x.f3.length ≤ c4) (g4 : (Kd.int .u64).C w A4 x.f3.length x.f3) : k45.K w x [.int .i64 x.f0.f0, .int .i64 x.f0.f1, .slice A2 x.f1.length c2, .slice A3 x.f2.length c3, .slice A4 x.f3.length c4, .bool x.f4] := ⟨[.int .i64 x.f0.f0, .int .i64 x.f0.f1], [.slice A2 x.f1.length c2, .slice A3 x.f2.length c3, .slice A4 x.f3.length c4, .bool x.f4], rfl, (k23_mk w x.f0 ), ⟨[.slice A2 x.f1.length c2], [.slice A3 x.f2.length c3, .slice A4 x.f3.length c4, .bool x.f4], rfl, ⟨A2, c2, rfl, l2, g2⟩, ⟨[.slice A3 x.f2.length c3], [.slice A4 x.f3.length c4, .bool x.f4], rfl, ⟨A3, c3, rfl, l3, g3⟩, ⟨[.slice A4 x.f3.length c4], [.bool x.f4], rfl, ⟨A4, c4, rfl, l4, g4⟩, rfl⟩⟩⟩⟩
theorem k45_mkM (w : World) (base : Nat) (ok : Nat → Prop) (x : S45) {v2 : Value} (g2 : (Kd.int .u64).R 79 w base ok v2 x.f1) {v3 : Value} (g3 : (Kd.int .u64).R 79 w base ok v3 x.f2) {v4 : Value} (g4 : (Kd.int .u64).R 79 w base ok v4 x.f3) : k45.M w base ok x [.int .i64 x.f0.f0, .int .i64 x.f0.f1, v2, v3, v4, .bool x.f4] := ⟨[.int .i64 x.f0.f0, .int .i64 x.f0.f1], [v2, v3, v4, .bool x.f4], rfl, (k23_mkM w base ok x.f0 ), ⟨[v2], [v3, v4, .bool x.f4], rfl, ⟨v2, rfl, g2⟩, ⟨[v3], [v4, .bool x.f4], rfl, ⟨v3, rfl, g3⟩, ⟨[v4], [.bool x.f4], rfl, ⟨v4, rfl, g4⟩, rfl⟩⟩⟩⟩
theorem k45_openF {W : World} {ok : Nat → Prop} {x : S45} {cs : List Value} (h : Kd.FK k45 W ok x cs) : ∃ A2 c2 A3 c3 A4 c4, cs = [.int .i64 x.f0.f0, .int .i64 x.f0.f1, .slice A2 x.f1.length c2, .slice A3 x.f2.length c3, .slice A4 x.f3.length c4, .bool x.f4] ∧ x.f1.length ≤ c2 ∧ Kd.F (Kd.int .u64) W ok A2 x.f1.length x.f1 ∧ x.f2.length ≤ c3 ∧ Kd.F (Kd.int .u64) W ok A3 x.f2.length x.f2 ∧ x.f3.length ≤ c4 ∧ Kd.F (Kd.int .u64) W ok A4 x.f3.length x.f3 := by
  obtain ⟨A2, c2, A3, c3, A4, c4, rfl, l2, _, l3, _, l4, _⟩ := k45_open (Kd.FK_now h)
  exact ⟨A2, c2, A3, c3, A4, c4, rfl, l2, (fun W' hW => by obtain ⟨A2_, c2_, A3_, c3_, A4_, c4_, he, l2_, g2_, l3_, g3_, l4_, g4_⟩ := k45_open (h W' hW); injection (Option.some.inj (show some (Value.slice A2 x.f1.length c2) = some (Value.slice A2_ x.f1.length c2_) from congrArg (fun l => l[2]?) he)) with ha_ _ _; rw [ha_]; exact g2_), l3, (fun W' hW => by obtain ⟨A2_, c2_, A3_, c3_, A4_, c4_, he, l2_, g2_, l3_, g3_, l4_, g4_⟩ := k45_open (h W' hW); injection (Option.some.inj (show some (Value.slice A3 x.f2.length c3) = some (Value.slice A3_ x.f2.length c3_) from congrArg (fun l => l[3]?) he)) with ha_ _ _; rw [ha_]; exact g3_), l4, (fun W' hW => by obtain ⟨A2_, c2_, A3_, c3_, A4_, c4_, he, l2_, g2_, l3_, g3_, l4_, g4_⟩ := k45_open (h W' hW); injection (Option.some.inj (show some (Value.slice A4 x.f3.length c4) = some (Value.slice A4_ x.f3.length c4_) from congrArg (fun l => l[4]?) he)) with ha_ _ _; rw [ha_]; exact g4_)⟩
theorem k45_mkF (W : World) (ok : Nat → Prop) (x : S45) {A2 : Option Addr} {c2 : Nat} (l2 : x.f1.length ≤ c2) (g2 : Kd.F (Kd.int .u64) W ok A2 x.f1.length x.f1) {A3 : Option Addr} {c3 : Nat} (l3 : x.f2.length ≤ c3) (g3 : Kd.F (Kd.int .u64) W ok A3 x.f2.length x.f2) {A4 : Option Addr} {c4 : Nat} (l4 : x.f3.length ≤ c4) (g4 : Kd.F (Kd.int .u64) W ok A4 x.f3.length x.f3) : Kd.FK k45 W ok x [.int .i64 x.f0.f0, .int .i64 x.f0.f1, .slice A2 x.f1.length c2, .slice A3 x.f2.length c3, .slice A4 x.f3.length c4, .bool x.f4] := fun W2 hW => k45_mk W2 x l2 (g2 W2 hW) l3 (g3 W2 hW) l4 (g4 W2 hW)
def rd_T45 (xs : List S45) (i : Int) : S45 := xs.getD i.toNat z45
theorem at_T45 {w : World} {A : Option Addr} {n : Nat} {xs : List S45} (h : Kd.C k45 w A n xs) (i : Int) (h0 : 0 ≤ i) (h1 : i < n) : ∃ ad A2 c2 A3 c3 A4 c4, A = some ad ∧ w.cell? (ad.add (i.toNat * 6)) = some (.int .i64 (rd_T45 xs i).f0.f0) ∧ w.cell? ⟨(ad.add (i.toNat * 6)).block, (ad.add (i.toNat * 6)).off + 1, none⟩ = some (.int .i64 (rd_T45 xs i).f0.f1) ∧ w.cell? ⟨(ad.add (i.toNat * 6)).block, (ad.add (i.toNat * 6)).off + 2, none⟩ = some (.slice A2 (rd_T45 xs i).f1.length c2) ∧ w.cell? ⟨(ad.add (i.toNat * 6)).block, (ad.add (i.toNat * 6)).off + 3, none⟩ = some (.slice A3 (rd_T45 xs i).f2.length c3) ∧ w.cell? ⟨(ad.add (i.toNat * 6)).block, (ad.add (i.toNat * 6)).off + 4, none⟩ = some (.slice A4 (rd_T45 xs i).f3.length c4) ∧ w.cell? ⟨(ad.add (i.toNat * 6)).block, (ad.add (i.toNat * 6)).off + 5, none⟩ = some (.bool (rd_T45 xs i).f4) ∧ (rd_T45 xs i).f1.length ≤ c2 ∧ (Kd.int .u64).C w A2 (rd_T45 xs i).f1.length (rd_T45 xs i).f1 ∧ (rd_T45 xs i).f2.length ≤ c3 ∧ (Kd.int .u64).C w A3 (rd_T45 xs i).f2.length (rd_T45 xs i).f2 ∧ (rd_T45 xs i).f3.length ≤ c4 ∧ (Kd.int .u64).C w A4 (rd_T45 xs i).f3.length (rd_T45 xs i).f3 := by
  obtain ⟨ad, c, e, _, hK, hc0⟩ := Kd.C_get h z45 i h0 h1
  have hc : ∀ j u, c[j]? = some u → w.cell? (ad.add (i.toNat * 6 + j)) = some u := hc0
  obtain ⟨A2, c2, A3, c3, A4, c4, rfl, l2, g2, l3, g3, l4, g4⟩ := k45_open hK
  exact ⟨ad, A2, c2, A3, c3, A4, c4, e, hc 0 _ rfl, by rw [← add_field _ _ 1 (by omega)]; exact hc 1 _ rfl, by rw [← add_field _ _ 2 (by omega)]; exact hc 2 _ rfl, by rw [← add_field _ _ 3 (by omega)]; exact hc 3 _ rfl, by rw [← add_field _ _ 4 (by omega)]; exact hc 4 _ rfl, by rw [← add_field _ _ 5 (by omega)]; exact hc 5 _ rfl, l2, g2, l3, g3, l4, g4⟩

def rd_L9 (xs : List (List S41)) (i : Int) : (List S41) := xs.getD i.toNat ([] : List S41)
theorem at_L9 {w : World} {A : Option Addr} {n : Nat} {xs : List (List S41)} (h : Kd.C (Kd.slice 41 k41) w A n xs) (i : Int) (h0 : 0 ≤ i) (h1 : i < n) : ∃ ad A0 c0, A = some ad ∧ w.cell? (ad.add i.toNat) = some (.slice A0 (rd_L9 xs i).length c0) ∧ (rd_L9 xs i).length ≤ c0 ∧ k41.C w A0 (rd_L9 xs i).length (rd_L9 xs i) := by
  obtain ⟨ad, c, e, _, hK, hc0⟩ := Kd.C_get h ([] : List S41) i h0 h1
  have hc : ∀ j u, c[j]? = some u → w.cell? (ad.add (i.toNat * 1 + j)) = some u := hc0
  obtain ⟨A0, c0, rfl, l0, g0⟩ := hK
  exact ⟨ad, A0, c0, e, by have hq := hc 0 _ rfl; rwa [Nat.mul_one, Nat.add_zero] at hq, l0, g0⟩

structure S29 where
  f0 : Int
  f1 : (List S41)
def z29 : S29 := ⟨(0 : Int), ([] : List S41)⟩
def k29 : Kd S29 := Kd.iso (Kd.pair (Kd.int .i64) (Kd.slice 41 k41)) (fun x : S29 => (x.f0, x.f1))
theorem k29_heap : Kd.Heap k29 := Kd.heap_iso _ (Kd.heap_pair (Kd.heap_int .i64) (Kd.heap_slice 41 k41_heap))
theorem k29_open {w : World} {x : S29} {cs : List Value} (h : k29.K w x cs) : ∃ A1 c1, cs = [.int .i64 x.f0, .slice A1 x.f1.length c1] ∧ x.f1.length ≤ c1 ∧ k41.C w A1 x.f1.length x.f1 := by
  obtain ⟨_, _, rfl, rfl, ⟨A1, c1, rfl, l1, g1⟩⟩ := h
  exact ⟨A1, c1, rfl, l1, g1⟩
theorem k29_openM {w : World} {base : Nat} {ok : Nat → Prop} {x : S29} {cs : List Value} (h : k29.M w base ok x cs) : ∃ v1, cs = [.int .i64 x.f0, v1] ∧ k41.R 41 w base ok v1 x.f1 := by
  obtain ⟨_, _, rfl, rfl, ⟨v1, rfl, g1⟩⟩ := h
  exact ⟨v1, rfl, g1⟩
theorem k29_mk (w : World) (x : S29) {A1 : Option Addr} {c1 : Nat} (l1 : x.f1.length ≤ c1) (g1 : k41.C w A1 x.f1.length x.f1) : k29.K w x [.int .i64 x.f0, .slice A1 x.f1.length c1] := ⟨[.int .i64 x.f0], [.slice A1 x.f1.length c1], rfl, rfl, ⟨A1, c1, rfl, l1, g1⟩⟩
theorem k29_mkM (w : World) (base : Nat) (ok : Nat → Prop) (x : S29) {v1 : Value} (g1 : k41.R 41 w base ok v1 x.f1) : k29.M w base ok x [.int .i64 x.f0, v1] := ⟨[.int .i64 x.f0], [v1], rfl, rfl, ⟨v1, rfl, g1⟩⟩
theorem k29_openF {W : World} {ok : Nat → Prop} {x : S29} {cs : List Value} (h : Kd.FK k29 W ok x cs) : ∃ A1 c1, cs = [.int .i64 x.f0, .slice A1 x.f1.length c1] ∧ x.f1.length ≤ c1 ∧ Kd.F k41 W ok A1 x.f1.length x.f1 := by
  obtain ⟨A1, c1, rfl, l1, _⟩ := k29_open (Kd.FK_now h)
  exact ⟨A1, c1, rfl, l1, (fun W' hW => by obtain ⟨A1_, c1_, he, l1_, g1_⟩ := k29_open (h W' hW); injection (Option.some.inj (show some (Value.slice A1 x.f1.length c1) = some (Value.slice A1_ x.f1.length c1_) from congrArg (fun l => l[1]?) he)) with ha_ _ _; rw [ha_]; exact g1_)⟩
theorem k29_mkF (W : World) (ok : Nat → Prop) (x : S29) {A1 : Option Addr} {c1 : Nat} (l1 : x.f1.length ≤ c1) (g1 : Kd.F k41 W ok A1 x.f1.length x.f1) : Kd.FK k29 W ok x [.int .i64 x.f0, .slice A1 x.f1.length c1] := fun W2 hW => k29_mk W2 x l1 (g1 W2 hW)
def rd_T29 (xs : List S29) (i : Int) : S29 := xs.getD i.toNat z29
theorem at_T29 {w : World} {A : Option Addr} {n : Nat} {xs : List S29} (h : Kd.C k29 w A n xs) (i : Int) (h0 : 0 ≤ i) (h1 : i < n) : ∃ ad A1 c1, A = some ad ∧ w.cell? (ad.add (i.toNat * 2)) = some (.int .i64 (rd_T29 xs i).f0) ∧ w.cell? ⟨(ad.add (i.toNat * 2)).block, (ad.add (i.toNat * 2)).off + 1, none⟩ = some (.slice A1 (rd_T29 xs i).f1.length c1) ∧ (rd_T29 xs i).f1.length ≤ c1 ∧ k41.C w A1 (rd_T29 xs i).f1.length (rd_T29 xs i).f1 := by
  obtain ⟨ad, c, e, _, hK, hc0⟩ := Kd.C_get h z29 i h0 h1
  have hc : ∀ j u, c[j]? = some u → w.cell? (ad.add (i.toNat * 2 + j)) = some u := hc0
  obtain ⟨A1, c1, rfl, l1, g1⟩ := k29_open hK
  exact ⟨ad, A1, c1, e, hc 0 _ rfl, by rw [← add_field _ _ 1 (by omega)]; exact hc 1 _ rfl, l1, g1⟩

def rd_L11 (xs : List (List ByteArray)) (i : Int) : (List ByteArray) := xs.getD i.toNat ([] : List ByteArray)
theorem at_L11 {w : World} {A : Option Addr} {n : Nat} {xs : List (List ByteArray)} (h : Kd.C (Kd.slice 9 Kd.string) w A n xs) (i : Int) (h0 : 0 ≤ i) (h1 : i < n) : ∃ ad A0 c0, A = some ad ∧ w.cell? (ad.add i.toNat) = some (.slice A0 (rd_L11 xs i).length c0) ∧ (rd_L11 xs i).length ≤ c0 ∧ Kd.string.C w A0 (rd_L11 xs i).length (rd_L11 xs i) := by
  obtain ⟨ad, c, e, _, hK, hc0⟩ := Kd.C_get h ([] : List ByteArray) i h0 h1
  have hc : ∀ j u, c[j]? = some u → w.cell? (ad.add (i.toNat * 1 + j)) = some u := hc0
  obtain ⟨A0, c0, rfl, l0, g0⟩ := hK
  exact ⟨ad, A0, c0, e, by have hq := hc 0 _ rfl; rwa [Nat.mul_one, Nat.add_zero] at hq, l0, g0⟩

structure S31 where
  f0 : Int
  f1 : Int
  f2 : Int
def z31 : S31 := ⟨(0 : Int), (0 : Int), (0 : Int)⟩
def k31 : Kd S31 := Kd.iso (Kd.pair (Kd.int .i64) (Kd.pair (Kd.int .i64) (Kd.int .i64))) (fun x : S31 => (x.f0, x.f1, x.f2))
theorem k31_heap : Kd.Heap k31 := Kd.heap_iso _ (Kd.heap_pair (Kd.heap_int .i64) (Kd.heap_pair (Kd.heap_int .i64) (Kd.heap_int .i64)))
theorem k31_open {w : World} {x : S31} {cs : List Value} (h : k31.K w x cs) : cs = [.int .i64 x.f0, .int .i64 x.f1, .int .i64 x.f2] := by
  obtain ⟨_, _, rfl, rfl, ⟨_, _, rfl, rfl, rfl⟩⟩ := h
  exact rfl
theorem k31_openM {w : World} {base : Nat} {ok : Nat → Prop} {x : S31} {cs : List Value} (h : k31.M w base ok x cs) : cs = [.int .i64 x.f0, .int .i64 x.f1, .int .i64 x.f2] := by
  obtain ⟨_, _, rfl, rfl, ⟨_, _, rfl, rfl, rfl⟩⟩ := h
  exact rfl
theorem k31_mk (w : World) (x : S31)  : k31.K w x [.int .i64 x.f0, .int .i64 x.f1, .int .i64 x.f2] := ⟨[.int .i64 x.f0], [.int .i64 x.f1, .int .i64 x.f2], rfl, rfl, ⟨[.int .i64 x.f1], [.int .i64 x.f2], rfl, rfl, rfl⟩⟩
theorem k31_mkM (w : World) (base : Nat) (ok : Nat → Prop) (x : S31)  : k31.M w base ok x [.int .i64 x.f0, .int .i64 x.f1, .int .i64 x.f2] := ⟨[.int .i64 x.f0], [.int .i64 x.f1, .int .i64 x.f2], rfl, rfl, ⟨[.int .i64 x.f1], [.int .i64 x.f2], rfl, rfl, rfl⟩⟩
theorem k31_mkF (W : World) (ok : Nat → Prop) (x : S31) : Kd.FK k31 W ok x [.int .i64 x.f0, .int .i64 x.f1, .int .i64 x.f2] := fun W2 _ => k31_mk W2 x
def rd_T31 (xs : List S31) (i : Int) : S31 := xs.getD i.toNat z31
theorem at_T31 {w : World} {A : Option Addr} {n : Nat} {xs : List S31} (h : Kd.C k31 w A n xs) (i : Int) (h0 : 0 ≤ i) (h1 : i < n) : ∃ ad , A = some ad ∧ w.cell? (ad.add (i.toNat * 3)) = some (.int .i64 (rd_T31 xs i).f0) ∧ w.cell? ⟨(ad.add (i.toNat * 3)).block, (ad.add (i.toNat * 3)).off + 1, none⟩ = some (.int .i64 (rd_T31 xs i).f1) ∧ w.cell? ⟨(ad.add (i.toNat * 3)).block, (ad.add (i.toNat * 3)).off + 2, none⟩ = some (.int .i64 (rd_T31 xs i).f2) := by
  obtain ⟨ad, c, e, _, hK, hc0⟩ := Kd.C_get h z31 i h0 h1
  have hc : ∀ j u, c[j]? = some u → w.cell? (ad.add (i.toNat * 3 + j)) = some u := hc0
  obtain rfl := k31_open hK
  exact ⟨ad, e, hc 0 _ rfl, by rw [← add_field _ _ 1 (by omega)]; exact hc 1 _ rfl, by rw [← add_field _ _ 2 (by omega)]; exact hc 2 _ rfl⟩

structure S63 where
  f0 : S31
  f1 : S45
def z63 : S63 := ⟨z31, z45⟩
def k63 : Kd S63 := Kd.iso (Kd.pair k31 k45) (fun x : S63 => (x.f0, x.f1))
theorem k63_heap : Kd.Heap k63 := Kd.heap_iso _ (Kd.heap_pair k31_heap k45_heap)
theorem k63_open {w : World} {x : S63} {cs : List Value} (h : k63.K w x cs) : ∃ A5 c5 A6 c6 A7 c7, cs = [.int .i64 x.f0.f0, .int .i64 x.f0.f1, .int .i64 x.f0.f2, .int .i64 x.f1.f0.f0, .int .i64 x.f1.f0.f1, .slice A5 x.f1.f1.length c5, .slice A6 x.f1.f2.length c6, .slice A7 x.f1.f3.length c7, .bool x.f1.f4] ∧ x.f1.f1.length ≤ c5 ∧ (Kd.int .u64).C w A5 x.f1.f1.length x.f1.f1 ∧ x.f1.f2.length ≤ c6 ∧ (Kd.int .u64).C w A6 x.f1.f2.length x.f1.f2 ∧ x.f1.f3.length ≤ c7 ∧ (Kd.int .u64).C w A7 x.f1.f3.length x.f1.f3 := by
  obtain ⟨_, _, rfl, s0, s3⟩ := h
  obtain rfl := k31_open s0
  obtain ⟨A5, c5, A6, c6, A7, c7, rfl, l5, g5, l6, g6, l7, g7⟩ := k45_open s3
  exact ⟨A5, c5, A6, c6, A7, c7, rfl, l5, g5, l6, g6, l7, g7⟩
theorem k63_openM {w : World} {base : Nat} {ok : Nat → Prop} {x : S63} {cs : List Value} (h : k63.M w base ok x cs) : ∃ v5 v6 v7, cs = [.int .i64 x.f0.f0, .int .i64 x.f0.f1, .int .i64 x.f0.f2, .int .i64 x.f1.f0.f0, .int .i64 x.f1.f0.f1, v5, v6, v7, .bool x.f1.f4] ∧ (Kd.int .u64).R 79 w base ok v5 x.f1.f1 ∧ (Kd.int .u64).R 79 w base ok v6 x.f1.f2 ∧ (Kd.int .u64).R 79 w base ok v7 x.f1.f3 := by
  obtain ⟨_, _, rfl, s0, s3⟩ := h
  obtain rfl := k31_openM s0
  obtain ⟨v5, v6, v7, rfl, g5, g6, g7⟩ := k45_openM s3
  exact ⟨v5, v6, v7, rfl, g5, g6, g7⟩
theorem k63_mk (w : World) (x : S63) {A5 : Option Addr} {c5 : Nat} (l5 : x.f1.f1.length ≤ c5) (g5 : (Kd.int .u64).C w A5 x.f1.f1.length x.f1.f1) {A6 : Option Addr} {c6 : Nat} (l6 : x.f1.f2.length ≤ c6) (g6 : (Kd.int .u64).C w A6 x.f1.f2.length x.f1.f2) {A7 : Option Addr} {c7 : Nat} (l7 : x.f1.f3.length ≤ c7) (g7 : (Kd.int .u64).C w A7 x.f1.f3.length x.f1.f3) : k63.K w x [.int .i64 x.f0.f0, .int .i64 x.f0.f1, .int .i64 x.f0.f2, .int .i64 x.f1.f0.f0, .int .i64 x.f1.f0.f1, .slice A5 x.f1.f1.length c5, .slice A6 x.f1.f2.length c6, .slice A7 x.f1.f3.length c7, .bool x.f1.f4] := ⟨[.int .i64 x.f0.f0, .int .i64 x.f0.f1, .int .i64 x.f0.f2], [.int .i64 x.f1.f0.f0, .int .i64 x.f1.f0.f1, .slice A5 x.f1.f1.length c5, .slice A6 x.f1.f2.length c6, .slice A7 x.f1.f3.length c7, .bool x.f1.f4], rfl, (k31_mk w x.f0 ), (k45_mk w x.f1 l5 g5 l6 g6 l7 g7)⟩
theorem k63_mkM (w : World) (base : Nat) (ok : Nat → Prop) (x : S63) {v5 : Value} (g5 : (Kd.int .u64).R 79 w base ok v5 x.f1.f1) {v6 : Value} (g6 : (Kd.int .u64).R 79 w base ok v6 x.f1.f2) {v7 : Value} (g7 : (Kd.int .u64).R 79 w base ok v7 x.f1.f3) : k63.M w base ok x [.int .i64 x.f0.f0, .int .i64 x.f0.f1, .int .i64 x.f0.f2, .int .i64 x.f1.f0.f0, .int .i64 x.f1.f0.f1, v5, v6, v7, .bool x.f1.f4] := ⟨[.int .i64 x.f0.f0, .int .i64 x.f0.f1, .int .i64 x.f0.f2], [.int .i64 x.f1.f0.f0, .int .i64 x.f1.f0.f1, v5, v6, v7, .bool x.f1.f4], rfl, (k31_mkM w base ok x.f0 ), (k45_mkM w base ok x.f1 g5 g6 g7)⟩
theorem k63_openF {W : World} {ok : Nat → Prop} {x : S63} {cs : List Value} (h : Kd.FK k63 W ok x cs) : ∃ A5 c5 A6 c6 A7 c7, cs = [.int .i64 x.f0.f0, .int .i64 x.f0.f1, .int .i64 x.f0.f2, .int .i64 x.f1.f0.f0, .int .i64 x.f1.f0.f1, .slice A5 x.f1.f1.length c5, .slice A6 x.f1.f2.length c6, .slice A7 x.f1.f3.length c7, .bool x.f1.f4] ∧ x.f1.f1.length ≤ c5 ∧ Kd.F (Kd.int .u64) W ok A5 x.f1.f1.length x.f1.f1 ∧ x.f1.f2.length ≤ c6 ∧ Kd.F (Kd.int .u64) W ok A6 x.f1.f2.length x.f1.f2 ∧ x.f1.f3.length ≤ c7 ∧ Kd.F (Kd.int .u64) W ok A7 x.f1.f3.length x.f1.f3 := by
  obtain ⟨A5, c5, A6, c6, A7, c7, rfl, l5, _, l6, _, l7, _⟩ := k63_open (Kd.FK_now h)
  exact ⟨A5, c5, A6, c6, A7, c7, rfl, l5, (fun W' hW => by obtain ⟨A5_, c5_, A6_, c6_, A7_, c7_, he, l5_, g5_, l6_, g6_, l7_, g7_⟩ := k63_open (h W' hW); injection (Option.some.inj (show some (Value.slice A5 x.f1.f1.length c5) = some (Value.slice A5_ x.f1.f1.length c5_) from congrArg (fun l => l[5]?) he)) with ha_ _ _; rw [ha_]; exact g5_), l6, (fun W' hW => by obtain ⟨A5_, c5_, A6_, c6_, A7_, c7_, he, l5_, g5_, l6_, g6_, l7_, g7_⟩ := k63_open (h W' hW); injection (Option.some.inj (show some (Value.slice A6 x.f1.f2.length c6) = some (Value.slice A6_ x.f1.f2.length c6_) from congrArg (fun l => l[6]?) he)) with ha_ _ _; rw [ha_]; exact g6_), l7, (fun W' hW => by obtain ⟨A5_, c5_, A6_, c6_, A7_, c7_, he, l5_, g5_, l6_, g6_, l7_, g7_⟩ := k63_open (h W' hW); injection (Option.some.inj (show some (Value.slice A7 x.f1.f3.length c7) = some (Value.slice A7_ x.f1.f3.length c7_) from congrArg (fun l => l[7]?) he)) with ha_ _ _; rw [ha_]; exact g7_)⟩
theorem k63_mkF (W : World) (ok : Nat → Prop) (x : S63) {A5 : Option Addr} {c5 : Nat} (l5 : x.f1.f1.length ≤ c5) (g5 : Kd.F (Kd.int .u64) W ok A5 x.f1.f1.length x.f1.f1) {A6 : Option Addr} {c6 : Nat} (l6 : x.f1.f2.length ≤ c6) (g6 : Kd.F (Kd.int .u64) W ok A6 x.f1.f2.length x.f1.f2) {A7 : Option Addr} {c7 : Nat} (l7 : x.f1.f3.length ≤ c7) (g7 : Kd.F (Kd.int .u64) W ok A7 x.f1.f3.length x.f1.f3) : Kd.FK k63 W ok x [.int .i64 x.f0.f0, .int .i64 x.f0.f1, .int .i64 x.f0.f2, .int .i64 x.f1.f0.f0, .int .i64 x.f1.f0.f1, .slice A5 x.f1.f1.length c5, .slice A6 x.f1.f2.length c6, .slice A7 x.f1.f3.length c7, .bool x.f1.f4] := fun W2 hW => k63_mk W2 x l5 (g5 W2 hW) l6 (g6 W2 hW) l7 (g7 W2 hW)
def rd_T63 (xs : List S63) (i : Int) : S63 := xs.getD i.toNat z63
theorem at_T63 {w : World} {A : Option Addr} {n : Nat} {xs : List S63} (h : Kd.C k63 w A n xs) (i : Int) (h0 : 0 ≤ i) (h1 : i < n) : ∃ ad A5 c5 A6 c6 A7 c7, A = some ad ∧ w.cell? (ad.add (i.toNat * 9)) = some (.int .i64 (rd_T63 xs i).f0.f0) ∧ w.cell? ⟨(ad.add (i.toNat * 9)).block, (ad.add (i.toNat * 9)).off + 1, none⟩ = some (.int .i64 (rd_T63 xs i).f0.f1) ∧ w.cell? ⟨(ad.add (i.toNat * 9)).block, (ad.add (i.toNat * 9)).off + 2, none⟩ = some (.int .i64 (rd_T63 xs i).f0.f2) ∧ w.cell? ⟨(ad.add (i.toNat * 9)).block, (ad.add (i.toNat * 9)).off + 3, none⟩ = some (.int .i64 (rd_T63 xs i).f1.f0.f0) ∧ w.cell? ⟨(ad.add (i.toNat * 9)).block, (ad.add (i.toNat * 9)).off + 4, none⟩ = some (.int .i64 (rd_T63 xs i).f1.f0.f1) ∧ w.cell? ⟨(ad.add (i.toNat * 9)).block, (ad.add (i.toNat * 9)).off + 5, none⟩ = some (.slice A5 (rd_T63 xs i).f1.f1.length c5) ∧ w.cell? ⟨(ad.add (i.toNat * 9)).block, (ad.add (i.toNat * 9)).off + 6, none⟩ = some (.slice A6 (rd_T63 xs i).f1.f2.length c6) ∧ w.cell? ⟨(ad.add (i.toNat * 9)).block, (ad.add (i.toNat * 9)).off + 7, none⟩ = some (.slice A7 (rd_T63 xs i).f1.f3.length c7) ∧ w.cell? ⟨(ad.add (i.toNat * 9)).block, (ad.add (i.toNat * 9)).off + 8, none⟩ = some (.bool (rd_T63 xs i).f1.f4) ∧ (rd_T63 xs i).f1.f1.length ≤ c5 ∧ (Kd.int .u64).C w A5 (rd_T63 xs i).f1.f1.length (rd_T63 xs i).f1.f1 ∧ (rd_T63 xs i).f1.f2.length ≤ c6 ∧ (Kd.int .u64).C w A6 (rd_T63 xs i).f1.f2.length (rd_T63 xs i).f1.f2 ∧ (rd_T63 xs i).f1.f3.length ≤ c7 ∧ (Kd.int .u64).C w A7 (rd_T63 xs i).f1.f3.length (rd_T63 xs i).f1.f3 := by
  obtain ⟨ad, c, e, _, hK, hc0⟩ := Kd.C_get h z63 i h0 h1
  have hc : ∀ j u, c[j]? = some u → w.cell? (ad.add (i.toNat * 9 + j)) = some u := hc0
  obtain ⟨A5, c5, A6, c6, A7, c7, rfl, l5, g5, l6, g6, l7, g7⟩ := k63_open hK
  exact ⟨ad, A5, c5, A6, c6, A7, c7, e, hc 0 _ rfl, by rw [← add_field _ _ 1 (by omega)]; exact hc 1 _ rfl, by rw [← add_field _ _ 2 (by omega)]; exact hc 2 _ rfl, by rw [← add_field _ _ 3 (by omega)]; exact hc 3 _ rfl, by rw [← add_field _ _ 4 (by omega)]; exact hc 4 _ rfl, by rw [← add_field _ _ 5 (by omega)]; exact hc 5 _ rfl, by rw [← add_field _ _ 6 (by omega)]; exact hc 6 _ rfl, by rw [← add_field _ _ 7 (by omega)]; exact hc 7 _ rfl, by rw [← add_field _ _ 8 (by omega)]; exact hc 8 _ rfl, l5, g5, l6, g6, l7, g7⟩

end Go.Proofs.YtbpobnlkfpjijaaDoorR.Pr
end
-- Pr38
section
namespace Go.Proofs.YtbpobnlkfpjijaaDoorR.Pr
open Go.RowKit Go.Proofs.YtbpobnlkfpjijaaDoorRW.PrintWords Go.Proofs.YtbpobnlkfpjijaaDoorRW.PrintLast Go.Proofs.YtbpobnlkfpjijaaDoorRW.PrintMore
attribute [local go_sem] max2_int min2_int max_two min_two max_three min_three max_four min_four   -- for this text's walks alone
set_option linter.unusedVariables false
set_option linter.unusedSimpArgs false

attribute [local go_sem] Go.Proofs.Aid.cell_set_row
def crc_number.l0 : Nat → ByteArray → Int → Int → Int → Option (Int)
  | 0, _, _, _, _ => none
  | k + 1, x0, x3, x6, x7 => if x7 < x6 then (if 0 ≤ x7 then (if x7 < (x0.size : Int) then (crc_number.l0 k x0 (Go.bits .or .u64 (IntKind.u64.wrap (x3 * 256)) (IntKind.u64.wrap (bt x0 x7))) x6 (wrap64 (x7 + 1))) else (none)) else (none)) else (some x3)
def crc_number.f (k : Nat) (a0 : ByteArray) : Option (Int) := crc_number.l0 k a0 0 (a0.size : Int) 0
theorem crc_number.mono_l : ∀ k, (∀ y0 y1 y2 y3, LeO (crc_number.l0 k y0 y1 y2 y3) (crc_number.l0 (k + 1) y0 y1 y2 y3))
  | 0 => fun _ _ _ _ r h => by simp [crc_number.l0] at h
  | k + 1 => by
    have ih0 := crc_number.mono_l k
    · intro y0 y1 y2 y3
      unfold crc_number.l0
      repeat' first
      | (with_reducible exact ih0 _ _ _ _)
      | (with_reducible exact LeO.refl _)
      | (with_reducible exact LeO.none _)
      | (with_reducible refine LeO.ite ?_ ?_)
      | (with_reducible refine LeO.bind ?_ (fun _ => ?_))
      | exact ih0 _ _ _ _
      | exact LeO.none _
      | refine LeO.ite ?_ ?_
      | refine LeO.bind ?_ (fun _ => ?_)
theorem crc_number.mono : ∀ a0 k, LeO (crc_number.f k a0) (crc_number.f (k + 1) a0) := by
  intro a0 k
  have ih0 := crc_number.mono_l k
  unfold crc_number.f
  repeat' first
      | (with_reducible exact ih0 _ _ _ _)
      | (with_reducible exact LeO.refl _)
      | (with_reducible exact LeO.none _)
      | (with_reducible refine LeO.ite ?_ ?_)
      | (with_reducible refine LeO.bind ?_ (fun _ => ?_))
      | exact ih0 _ _ _ _
      | exact LeO.none _
      | refine LeO.ite ?_ ?_
      | refine LeO.bind ?_ (fun _ => ?_)
set_option maxHeartbeats 8000000 in
set_option maxRecDepth 100000 in
theorem crc_number.calls (k : Nat) (a0 : ByteArray) (r : Int) (w : World) (h : crc_number.f k a0 = some r) :
    Calls Tryd.prog 36 #[.string a0] w fun e w' => e = .returned (.int .u64 r) ∧ Drawn0 w w' := by
  have H : (crc_number.l0 k a0 0 (a0.size : Int) 0) = some r := h
  clear h
  have H' := Aside0.mk H
  clear H
  go_enter Tryd.func36, Tryd.ntmps36
  go_wp2
  go_loopg [3, 7] k (fun kq v3 v7 w' => ∃ (x3_1 : Int) (x7_1 : Int), v3 = .int .u64 x3_1 ∧ v7 = .int .i64 x7_1 ∧ Aside0 (crc_number.l0 kq a0 x3_1 (a0.size : Int) x7_1 = some r) ∧ Aside0 (kq ≤ k) ∧ Drawn0 w w')
  case atStart => exact ⟨(0), (0), (by first | rfl | (simp; done) | (simp [*]; done)), (by first | rfl | (simp; done) | (simp [*]; done)), H', ⟨Nat.le_refl _⟩, by repeat (first | exact Drawn0.refl _ | apply Drawn0.step)⟩
  case round =>
    clear H'
    obtain ⟨x3_1, x7_1, rfl, rfl, HA, HK1, ⟨m1, rfl⟩⟩ := hrel
    cases gk with
    | zero => exact absurd HA.out (by simp [crc_number.l0])
    | succ k1 =>
      have H := HA.out
      clear HA
      simp only [crc_number.l0] at H
      by_cases c2 : x7_1 < (a0.size : Int)
      · rw [if_pos c2] at H
        have c2b0 : decide (x7_1 < (a0.size : Int)) = true := decide_eq_true c2
        clear c2
        by_cases c3 : 0 ≤ x7_1
        · rw [if_pos c3] at H
          have c3b0 : decide (0 ≤ x7_1) = true := decide_eq_true c3
          clear c3
          by_cases c4 : x7_1 < (a0.size : Int)
          · rw [if_pos c4] at H
            have c4b0 : decide (x7_1 < (a0.size : Int)) = true := decide_eq_true c4
            clear c4
            have H' := Aside0.mk H
            clear H
            have p5 : 0 ≤ (x7_1 : Int) := of_decide_eq_true (by first | (with_reducible assumption) | assumption)
            have q5 : x7_1 < (a0.size : Int) := of_decide_eq_true (by first | (with_reducible assumption) | assumption)
            have hx5 := bt_at a0 x7_1
            replace p5 := eq_true p5
            replace q5 := eq_true q5
            go_wp2
            go_roundg k1
            case measure => have := HK1.out; omega
            case rel => exact ⟨(Go.bits .or .u64 (IntKind.u64.wrap (x3_1 * 256)) (IntKind.u64.wrap (bt a0 x7_1))), (wrap64 (x7_1 + 1)), (by first | rfl | (simp; done) | (simp [*]; done)), (by first | rfl | (simp; done) | (simp [*]; done)), H', ⟨by have := HK1.out; omega⟩, by repeat (first | exact Drawn0.refl _ | apply Drawn0.step)⟩
          · rw [if_neg c4] at H
            exact absurd H (by simp)
        · rw [if_neg c3] at H
          exact absurd H (by simp)
      · rw [if_neg c2] at H
        have c2b0 : decide (x7_1 < (a0.size : Int)) = false := decide_eq_false c2
        clear c2
        obtain rfl := Option.some.inj H
        go_wp2
        go_ret
        exact ⟨by first | rfl | (simp; done) | (simp [*]; done), by repeat (first | exact Drawn0.refl _ | apply Drawn0.step)⟩

end Go.Proofs.YtbpobnlkfpjijaaDoorR.Pr
end
-- Pr57
section
namespace Go.Proofs.YtbpobnlkfpjijaaDoorR.Pr
open Go.RowKit Go.Proofs.YtbpobnlkfpjijaaDoorRW.PrintWords Go.Proofs.YtbpobnlkfpjijaaDoorRW.PrintLast Go.Proofs.YtbpobnlkfpjijaaDoorRW.PrintMore
attribute [local go_sem] max2_int min2_int max_two min_two max_three min_three max_four min_four   -- for this text's walks alone
set_option linter.unusedVariables false
set_option linter.unusedSimpArgs false

attribute [local go_sem] Go.Proofs.Aid.cell_set_row
def tallystickref14_number.l0 : Nat → ByteArray → Int → Int → Option (Int)
  | 0, _, _, _ => none
  | k + 1, x0, x3, x4 => if x4 < (x0.size : Int) then (if 0 ≤ x4 then (tallystickref14_number.l0 k x0 (IntKind.u64.wrap ((IntKind.u64.wrap (256 * x3)) + (IntKind.u64.wrap (bt x0 x4)))) (wrap64 (x4 + 1))) else (none)) else (some x3)
def tallystickref14_number.f (k : Nat) (a0 : ByteArray) : Option (Int) := tallystickref14_number.l0 k a0 0 0
theorem tallystickref14_number.mono_l : ∀ k, (∀ y0 y1 y2, LeO (tallystickref14_number.l0 k y0 y1 y2) (tallystickref14_number.l0 (k + 1) y0 y1 y2))
  | 0 => fun _ _ _ r h => by simp [tallystickref14_number.l0] at h
  | k + 1 => by
    have ih0 := tallystickref14_number.mono_l k
    · intro y0 y1 y2
      unfold tallystickref14_number.l0
      repeat' first
      | (with_reducible exact ih0 _ _ _)
      | (with_reducible exact LeO.refl _)
      | (with_reducible exact LeO.none _)
      | (with_reducible refine LeO.ite ?_ ?_)
      | (with_reducible refine LeO.bind ?_ (fun _ => ?_))
      | exact ih0 _ _ _
      | exact LeO.none _
      | refine LeO.ite ?_ ?_
      | refine LeO.bind ?_ (fun _ => ?_)
theorem tallystickref14_number.mono : ∀ a0 k, LeO (tallystickref14_number.f k a0) (tallystickref14_number.f (k + 1) a0) := by
  intro a0 k
  have ih0 := tallystickref14_number.mono_l k
  unfold tallystickref14_number.f
  repeat' first
      | (with_reducible exact ih0 _ _ _)
      | (with_reducible exact LeO.refl _)
      | (with_reducible exact LeO.none _)
      | (with_reducible refine LeO.ite ?_ ?_)
      | (with_reducible refine LeO.bind ?_ (fun _ => ?_))
      | exact ih0 _ _ _
      | exact LeO.none _
      | refine LeO.ite ?_ ?_
      | refine LeO.bind ?_ (fun _ => ?_)
set_option maxHeartbeats 8000000 in
set_option maxRecDepth 100000 in
theorem tallystickref14_number.calls (k : Nat) (a0 : ByteArray) (r : Int) (w : World) (h : tallystickref14_number.f k a0 = some r) :
    Calls Tryd.prog 40 #[.string a0] w fun e w' => e = .returned (.int .u64 r) ∧ Drawn0 w w' := by
  have H : (tallystickref14_number.l0 k a0 0 0) = some r := h
  clear h
  have H' := Aside0.mk H
  clear H
  go_enter Tryd.func40, Tryd.ntmps40
  go_wp2
  go_loopg [3, 4] k (fun kq v3 v4 w' => ∃ (x3_1 : Int) (x4_1 : Int), v3 = .int .u64 x3_1 ∧ v4 = .int .i64 x4_1 ∧ Aside0 (tallystickref14_number.l0 kq a0 x3_1 x4_1 = some r) ∧ Aside0 (kq ≤ k) ∧ Drawn0 w w')
  case atStart => exact ⟨(0), (0), (by first | rfl | (simp; done) | (simp [*]; done)), (by first | rfl | (simp; done) | (simp [*]; done)), H', ⟨Nat.le_refl _⟩, by repeat (first | exact Drawn0.refl _ | apply Drawn0.step)⟩
  case round =>
    clear H'
    obtain ⟨x3_1, x4_1, rfl, rfl, HA, HK1, ⟨m1, rfl⟩⟩ := hrel
    cases gk with
    | zero => exact absurd HA.out (by simp [tallystickref14_number.l0])
    | succ k1 =>
      have H := HA.out
      clear HA
      simp only [tallystickref14_number.l0] at H
      by_cases c2 : x4_1 < (a0.size : Int)
      · rw [if_pos c2] at H
        have c2b0 : decide (x4_1 < (a0.size : Int)) = true := decide_eq_true c2
        clear c2
        by_cases c3 : 0 ≤ x4_1
        · rw [if_pos c3] at H
          have c3b0 : decide (0 ≤ x4_1) = true := decide_eq_true c3
          clear c3
          have H' := Aside0.mk H
          clear H
          have p4 : 0 ≤ (x4_1 : Int) := of_decide_eq_true (by first | (with_reducible assumption) | assumption)
          have q4 : x4_1 < (a0.size : Int) := of_decide_eq_true (by first | (with_reducible assumption) | assumption)
          have hx4 := bt_at a0 x4_1
          replace p4 := eq_true p4
          replace q4 := eq_true q4
          go_wp2
          go_roundg k1
          case measure => have := HK1.out; omega
          case rel => exact ⟨(IntKind.u64.wrap ((IntKind.u64.wrap (256 * x3_1)) + (IntKind.u64.wrap (bt a0 x4_1)))), (wrap64 (x4_1 + 1)), (by first | rfl | (simp; done) | (simp [*]; done)), (by first | rfl | (simp; done) | (simp [*]; done)), H', ⟨by have := HK1.out; omega⟩, by repeat (first | exact Drawn0.refl _ | apply Drawn0.step)⟩
        · rw [if_neg c3] at H
          exact absurd H (by simp)
      · rw [if_neg c2] at H
        have c2b0 : decide (x4_1 < (a0.size : Int)) = false := decide_eq_false c2
        clear c2
        obtain rfl := Option.some.inj H
        go_wp2
        go_ret
        exact ⟨by first | rfl | (simp; done) | (simp [*]; done), by repeat (first | exact Drawn0.refl _ | apply Drawn0.step)⟩

end Go.Proofs.YtbpobnlkfpjijaaDoorR.Pr
end
-- Nu
section
namespace Go.Proofs.YtbpobnlkfpjijaaDoorR.Pr
open Go.RowKit Go.Proofs.YtbpobnlkfpjijaaDoorRW.PrintWords Go.Proofs.YtbpobnlkfpjijaaDoorRW.PrintLast Go.Proofs.YtbpobnlkfpjijaaDoorRW.PrintMore
set_option linter.unusedVariables false
set_option linter.unusedSimpArgs false
def numL : List UInt8 → Int → Int
  | [], v => v
  | b :: l, v => numL l ((256 * v + (b.toNat : Int)) % 18446744073709551616)
def numF (s : ByteArray) : Int := numL s.data.toList 0
theorem numL_range : ∀ (l : List UInt8) (v : Int), 0 ≤ v ∧ v < 18446744073709551616 → 0 ≤ numL l v ∧ numL l v < 18446744073709551616
  | [], _, h => h
  | b :: l, v, _ => numL_range l _ ⟨Int.emod_nonneg _ (by decide), Int.emod_lt_of_pos _ (by decide)⟩
theorem numF_range (s : ByteArray) : 0 ≤ numF s ∧ numF s < 18446744073709551616 := numL_range _ _ (by decide)
theorem drop_bt (s : ByteArray) (i : Nat) (h : i < s.size) : ∃ b : UInt8, s.data.toList.drop i = b :: s.data.toList.drop (i + 1) ∧ bt s (i : Int) = (b.toNat : Int) ∧ bt s (i : Int) ≤ 255 ∧ 0 ≤ bt s (i : Int) := by
  have hl : i < s.data.toList.length := by simpa using h
  refine ⟨s.data.toList[i], List.drop_eq_getElem_cons hl, ?_, (bt_range s i).2, (bt_range s i).1⟩
  unfold bt
  rw [dif_pos (by simpa using h)]
  rfl
theorem wrap_i (i : Nat) (h : i < 9223372036854775807) : wrap64 ((i : Int) + 1) = ((i + 1 : Nat) : Int) := by unfold wrap64; omega
theorem w64 (x : Int) : IntKind.u64.wrap x = x % 18446744073709551616 := by simp [IntKind.wrap, IntKind.bits, IntKind.signed]
theorem ref_number (s : ByteArray) (hs : s.size < 9223372036854775807) : ∀ (d i k : Nat) (v : Int), i + d = s.size → d < k → 0 ≤ v ∧ v < 18446744073709551616 →
    tallystickref14_number.l0 k s v (i : Int) = some (numL (s.data.toList.drop i) v)
  | d, i, 0, _, _, hk, _ => by omega
  | 0, i, k + 1, v, hi, _, _ => by
    unfold tallystickref14_number.l0
    rw [if_neg (by omega), List.drop_of_length_le (by simp; omega)]
    rfl
  | d + 1, i, k + 1, v, hi, hk, hv => by
    obtain ⟨b, hb, h1, h2, h3⟩ := drop_bt s i (by omega)
    have ih := ref_number s hs d (i + 1) k ((256 * v + (b.toNat : Int)) % 18446744073709551616) (by omega) (by omega) ⟨Int.emod_nonneg _ (by decide), Int.emod_lt_of_pos _ (by decide)⟩
    unfold tallystickref14_number.l0
    rw [if_pos (by omega), if_pos (by omega), wrap_i i (by omega), hb, h1, w64, w64, w64]
    have e : (256 * v % 18446744073709551616 + (b.toNat : Int) % 18446744073709551616) % 18446744073709551616 = (256 * v + (b.toNat : Int)) % 18446744073709551616 := by omega
    rw [e]
    exact ih
theorem number_ref (s : ByteArray) (hs : s.size < 9223372036854775807) (k : Nat) (hk : s.size < k) : tallystickref14_number.f k s = some (numF s) := by
  unfold tallystickref14_number.f
  exact ref_number s hs s.size 0 k 0 (by omega) hk (by decide)
theorem or_join (x y : Int) (hx : 0 ≤ x) (hm : x % 256 = 0) (hl : x < 18446744073709551616) (hy : 0 ≤ y) (hy2 : y < 256) : Go.bits .or .u64 x y = x + y := by
  have h1 : x < 2 ^ 64 := by simpa using hl
  have h2 : y < 2 ^ 8 := by simpa using hy2
  have h3 : y < 2 ^ 64 := by
    have : y < 18446744073709551616 := by omega
    simpa using this
  have h4 : x % 2 ^ 8 = 0 := by simpa using hm
  refine bits_join .u64 64 (by decide) (fun n h0 hn => ?_) 8 x y hx h4 h1 hy h2 h3
  rw [w64]
  have h5 : n < 18446744073709551616 := by simpa using hn
  omega
theorem crc_number_l (s : ByteArray) (hs : s.size < 9223372036854775807) : ∀ (d i k : Nat) (v : Int), i + d = s.size → d < k → 0 ≤ v ∧ v < 18446744073709551616 →
    crc_number.l0 k s v (s.size : Int) (i : Int) = some (numL (s.data.toList.drop i) v)
  | d, i, 0, _, _, hk, _ => by omega
  | 0, i, k + 1, v, hi, _, _ => by
    unfold crc_number.l0
    rw [if_neg (by omega), List.drop_of_length_le (by simp; omega)]
    rfl
  | d + 1, i, k + 1, v, hi, hk, hv => by
    obtain ⟨b, hb, h1, h2, h3⟩ := drop_bt s i (by omega)
    have ih := crc_number_l s hs d (i + 1) k ((256 * v + (b.toNat : Int)) % 18446744073709551616) (by omega) (by omega) ⟨Int.emod_nonneg _ (by decide), Int.emod_lt_of_pos _ (by decide)⟩
    unfold crc_number.l0
    rw [if_pos (by omega), if_pos (by omega), if_pos (by omega), wrap_i i (by omega), hb, w64, w64, or_join _ _ (by omega) (by omega) (by omega) (by omega) (by omega), h1]
    have e : v * 256 % 18446744073709551616 + (b.toNat : Int) % 18446744073709551616 = (256 * v + (b.toNat : Int)) % 18446744073709551616 := by omega
    rw [e]
    exact ih
theorem number_crc (s : ByteArray) (hs : s.size < 9223372036854775807) (k : Nat) (hk : s.size < k) : crc_number.f k s = some (numF s) := by
  unfold crc_number.f
  exact crc_number_l s hs s.size 0 k 0 (by omega) hk (by decide)
/-- crc.number. -/
theorem number_calls (s : ByteArray) (hs : s.size < 9223372036854775807) (w : World) : Calls Tryd.prog 36 #[.string s] w fun e w' => e = .returned (.int .u64 (numF s)) ∧ ∃ n, w' = w.drewN n :=
  (crc_number.calls (s.size + 1) s _ w (number_crc s hs _ (Nat.lt_succ_self _))).mono fun _ _ h => ⟨h.1, h.2.out⟩
/-- The document's number. -/
theorem rnumber_calls (s : ByteArray) (hs : s.size < 9223372036854775807) (w : World) : Calls Tryd.prog 40 #[.string s] w fun e w' => e = .returned (.int .u64 (numF s)) ∧ ∃ n, w' = w.drewN n :=
  (tallystickref14_number.calls (s.size + 1) s _ w (number_ref s hs _ (Nat.lt_succ_self _))).mono fun _ _ h => ⟨h.1, h.2.out⟩
end Go.Proofs.YtbpobnlkfpjijaaDoorR.Pr
end
-- Ca
section
namespace Go.Proofs.YtbpobnlkfpjijaaDoorR.Pr
open Go.RowKit Go.Proofs.YtbpobnlkfpjijaaDoorRW.PrintWords Go.Proofs.YtbpobnlkfpjijaaDoorRW.PrintLast Go.Proofs.YtbpobnlkfpjijaaDoorRW.PrintMore
set_option linter.unusedVariables false
set_option linter.unusedSimpArgs false
/-- Everything elder is kept, but blocks of S. -/
structure Kp (S : Nat → Prop) (W W' : World) : Prop where
  os : W'.os = W.os
  tape : W'.tape = W.tape
  output : W'.output = W.output
  size : W.heap.size ≤ W'.heap.size
  block : ∀ k, k < W.heap.size → ¬ S k → W'.heap[k]? = W.heap[k]?
namespace Kp
variable {S S' : Nat → Prop} {W W1 W2 w : World} {B : Nat}
theorem refl (S : Nat → Prop) (W : World) : Kp S W W := ⟨rfl, rfl, rfl, Nat.le_refl _, fun _ _ _ => rfl⟩
theorem trans (h : Kp S W W1) (k : Kp S W1 W2) : Kp S W W2 :=
  ⟨k.os.trans h.os, k.tape.trans h.tape, k.output.trans h.output, Nat.le_trans h.size k.size, fun i hi hs => (k.block i (Nat.lt_of_lt_of_le hi h.size) hs).trans (h.block i hi hs)⟩
theorem alloc (h : Kp S W W1) (o : Obj) : Kp S W (W1.alloc o) :=
  ⟨h.os, h.tape, h.output, by simp; have := h.size; omega, fun i hi hs => (Below.heap_alloc W1 o i (Nat.lt_of_lt_of_le hi h.size)).trans (h.block i hi hs)⟩
theorem drewN (h : Kp S W W1) (n : Nat) : Kp S W (W1.drewN n) := ⟨h.os, h.tape, h.output, h.size, h.block⟩
theorem drew (h : Kp S W W1) : Kp S W W1.drew := ⟨h.os, h.tape, h.output, h.size, h.block⟩
theorem set (h : Kp S W W1) {g j : Nat} (hg : S g ∨ W.heap.size ≤ g) (u : Value) : Kp S W (W1.setCell ⟨g, j, none⟩ u) :=
  ⟨h.os, h.tape, h.output, by simpa [World.setCell] using h.size, fun i hi hs => (Below.heap_setCell W1 _ u i (by
    intro he
    have he : i = g := he
    rw [he] at hi hs
    rcases hg with hg | hg
    · exact hs hg
    · omega)).trans (h.block i hi hs)⟩
theorem mono (h : Kp S W W1) (hs : ∀ k, S k → S' k) : Kp S' W W1 := ⟨h.os, h.tape, h.output, h.size, fun i hi hn => h.block i hi (fun hk => hn (hs i hk))⟩
theorem of_below (S : Nat → Prop) (h : Below W.heap.size W W1) : Kp S W W1 := ⟨h.os, h.tape, h.output, h.size, fun i hi _ => h.block i hi⟩
theorem below (h : Kp S W W1) (hb : Below B w W) (hB : B ≤ W.heap.size) (hs : ∀ k, S k → B ≤ k) : Below B w W1 :=
  hb.trans ⟨h.os, h.tape, h.output, h.size, fun i hi => h.block i (by omega) (fun hk => by have := hs i hk; omega)⟩
theorem blk (h : Kp S W W1) {g : Nat} {o : Obj} (hg : W.heap[g]? = some o) (hn : ¬ S g) : W1.heap[g]? = some o := (h.block g (blk_lt hg) hn).trans hg
end Kp
theorem blk_new_at (w : World) (o : Obj) {n : Nat} (h : w.heap.size = n) : (w.alloc o).heap[n]? = some o := h ▸ blk_new w o
/-- What err holds: nothing, or a place around a cause that lies from base on. -/
def ErrIs (base : Nat) (W : World) (v : Value) (err : Option Int) : Prop := match err with
  | none => v = .nilIface
  | some e => ∃ (n : Int) (b : Nat), v = .iface 104 (.agg #[.int .i64 n, .iface 88 (.pointer (some ⟨b, 0, none⟩))]) ∧ base ≤ b ∧ W.heap[b]? = some (.cells #[.int .i64 e] 92 (0, 0))
theorem ErrIs.kept {base : Nat} {W W1 : World} {v : Value} {err : Option Int} {S : Nat → Prop} (h : ErrIs base W v err) (hk : Kp S W W1) (hS : ∀ k, S k → k < base) : ErrIs base W1 v err := by
  cases err with
  | none => exact h
  | some e =>
    obtain ⟨n, b, hv, hb, hh⟩ := h
    exact ⟨n, b, hv, hb, hk.blk hh (fun hs => by have := hS b hs; omega)⟩
theorem ErrIs.some_shape {base : Nat} {W : World} {v : Value} {e : Int} (h : ErrIs base W v (some e)) : ∃ x, v = .iface 104 x := by
  obtain ⟨n, b, hv, _⟩ := h
  exact ⟨_, hv⟩
set_option maxHeartbeats 1000000 in
/-- odd, where there is no error yet. -/
theorem odd_none (e : Int) (Be Bs : Nat) (s : ByteArray) (hs : s.size < 9223372036854775807) (W : World) (hbs : W.heap[Bs]? = some (.cells #[.string s] 9 (0, 0))) (hbe : W.heap[Be]? = some (.cells #[.nilIface] 74 (0, 0))) :
    Calls Tryd.prog 51 #[.int .i64 e, .pointer (some ⟨Be, 0, none⟩), .pointer (some ⟨Bs, 0, none⟩)] W fun en W' => en = .returned (.tuple #[]) ∧
      ∃ v, W'.heap[Be]? = some (.cells #[v] 74 (0, 0)) ∧ ErrIs W.heap.size W' v (some e) ∧ Kp (fun k => k = Be) W W' := by
  have hc1 : W.cell? ⟨Bs, 0, none⟩ = some (.string s) := blk_cell hbs 0
  have hc2 : W.cell? ⟨Be, 0, none⟩ = some .nilIface := blk_cell hbe 0
  have hf2 : W.frozen? ⟨Be, 0, none⟩ = false := blk_frozen hbe 0
  have hlt : Be < W.heap.size := blk_lt hbe
  have HE := Lib.hid hbe
  clear hbs hbe
  go_enter Tryd.func51, Tryd.ntmps51
  go_wp2
  go_end0
  refine ⟨rfl, _, ?_, ⟨(s.size : Int), W.heap.size, rfl, Nat.le_refl _, ?_⟩, ?_⟩
  · exact blk_alloc (blk_put HE.out 0 _ rfl) _
  · exact blk_new_at _ _ (by simp)
  · exact ((Kp.refl (fun k => k = Be) W).set (.inl rfl) _).alloc _
set_option maxHeartbeats 1000000 in
/-- odd, where there is an error. -/
theorem odd_some (e : Int) (Be Bs : Nat) (x : Value) (W : World) (hbe : W.heap[Be]? = some (.cells #[.iface 104 x] 74 (0, 0))) :
    Calls Tryd.prog 51 #[.int .i64 e, .pointer (some ⟨Be, 0, none⟩), .pointer (some ⟨Bs, 0, none⟩)] W fun en W' => en = .returned (.tuple #[]) ∧ W' = W := by
  have hc2 : W.cell? ⟨Be, 0, none⟩ = some (.iface 104 x) := blk_cell hbe 0
  clear hbe
  go_enter Tryd.func51, Tryd.ntmps51
  go_wp2
  go_end0
  exact ⟨rfl, rfl⟩
set_option maxHeartbeats 2000000 in
/-- take, where there are bytes enough, and no error. -/
theorem take_ok (m : Nat) (Be Bs Bo : Nat) (s : ByteArray) (hs : s.size < 9223372036854775807) (hm : m ≤ s.size) (W : World) (hbs : W.heap[Bs]? = some (.cells #[.string s] 9 (0, 0))) (hbe : W.heap[Be]? = some (.cells #[.nilIface] 74 (0, 0))) :
    Calls Tryd.prog 52 #[.int .i64 (m : Int), .pointer (some ⟨Bs, 0, none⟩), .pointer (some ⟨Bo, 0, none⟩), .pointer (some ⟨Be, 0, none⟩)] W fun en W' => en = .returned (.int .u64 (numF (s.extract 0 m))) ∧
      W'.heap[Bs]? = some (.cells #[.string (s.extract m s.size)] 9 (0, 0)) ∧ Kp (fun k => k = Bs) W W' := by
  have hc1 : W.cell? ⟨Bs, 0, none⟩ = some (.string s) := blk_cell hbs 0
  have hf1 : W.frozen? ⟨Bs, 0, none⟩ = false := blk_frozen hbs 0
  have hc2 : W.cell? ⟨Be, 0, none⟩ = some .nilIface := blk_cell hbe 0
  have HS := Lib.hid hbs
  clear hbs hbe
  have ht : decide (s.size < m) = false := by simp; omega
  have hz : (s.extract 0 m).size < 9223372036854775807 := by simp; omega
  have HZ := Lib.hid hz
  clear hz
  go_enter Tryd.func52, Tryd.ntmps52
  go_wp2_with (go_at_call 36; refine (number_calls _ HZ.out _).mono ?_; rintro en w' ⟨rfl, n, rfl⟩)
  go_ret
  exact ⟨rfl, blk_put (cs := #[.string s]) HS.out 0 _ rfl, ((Kp.refl (fun k => k = Bs) W).drewN n).set (.inl rfl) _⟩
set_option maxHeartbeats 2000000 in
/-- take, where bytes are missing, and there is no error yet. -/
theorem take_more (m : Nat) (Be Bs Bo : Nat) (s : ByteArray) (hs : s.size < 9223372036854775807) (hm : s.size < m) (hm2 : m ≤ 8) (W : World) (hbs : W.heap[Bs]? = some (.cells #[.string s] 9 (0, 0))) (hbe : W.heap[Be]? = some (.cells #[.nilIface] 74 (0, 0)))
    (hbo : W.heap[Bo]? = some (.cells #[.func (.func 51) #[] #[.pointer (some ⟨Be, 0, none⟩), .pointer (some ⟨Bs, 0, none⟩)]] 105 (0, 0))) :
    Calls Tryd.prog 52 #[.int .i64 (m : Int), .pointer (some ⟨Bs, 0, none⟩), .pointer (some ⟨Bo, 0, none⟩), .pointer (some ⟨Be, 0, none⟩)] W fun en W' => en = .returned (.int .u64 0) ∧
      ∃ v, W'.heap[Be]? = some (.cells #[v] 74 (0, 0)) ∧ ErrIs W.heap.size W' v (some 5) ∧ Kp (fun k => k = Be) W W' := by
  have hc1 : W.cell? ⟨Bs, 0, none⟩ = some (.string s) := blk_cell hbs 0
  have hc2 : W.cell? ⟨Be, 0, none⟩ = some .nilIface := blk_cell hbe 0
  have hc3 : W.cell? ⟨Bo, 0, none⟩ = some (.func (.func 51) #[] #[.pointer (some ⟨Be, 0, none⟩), .pointer (some ⟨Bs, 0, none⟩)]) := blk_cell hbo 0
  have HS := Lib.hid hbs
  have HE := Lib.hid hbe
  clear hbs hbe hbo
  have ht : decide (s.size < m) = true := by simp; omega
  go_enter Tryd.func52, Tryd.ntmps52
  go_wp2_with fail
  refine (odd_none 5 Be Bs s hs W HS.out HE.out).mono ?_
  rintro en w' ⟨rfl, v, hv, he, hk⟩
  obtain ⟨x, rfl⟩ := he.some_shape
  have hcv : w'.cell? ⟨Be, 0, none⟩ = some (.iface 104 x) := blk_cell hv 0
  have HV := Lib.hid hv
  have HE2 := Lib.hid he
  clear hv he
  go_wp2
  go_ret
  exact ⟨rfl, _, HV.out, HE2.out, hk⟩
set_option maxHeartbeats 2000000 in
/-- take, where there is an error: nothing. -/
theorem take_err (m : Nat) (Be Bs Bo : Nat) (s : ByteArray) (hs : s.size < 9223372036854775807) (hm2 : m ≤ 8) (x : Value) (W : World) (hbs : W.heap[Bs]? = some (.cells #[.string s] 9 (0, 0))) (hbe : W.heap[Be]? = some (.cells #[.iface 104 x] 74 (0, 0)))
    (hbo : W.heap[Bo]? = some (.cells #[.func (.func 51) #[] #[.pointer (some ⟨Be, 0, none⟩), .pointer (some ⟨Bs, 0, none⟩)]] 105 (0, 0))) :
    Calls Tryd.prog 52 #[.int .i64 (m : Int), .pointer (some ⟨Bs, 0, none⟩), .pointer (some ⟨Bo, 0, none⟩), .pointer (some ⟨Be, 0, none⟩)] W fun en W' => en = .returned (.int .u64 0) ∧ W' = W := by
  have hc1 : W.cell? ⟨Bs, 0, none⟩ = some (.string s) := blk_cell hbs 0
  have hc2 : W.cell? ⟨Be, 0, none⟩ = some (.iface 104 x) := blk_cell hbe 0
  have hc3 : W.cell? ⟨Bo, 0, none⟩ = some (.func (.func 51) #[] #[.pointer (some ⟨Be, 0, none⟩), .pointer (some ⟨Bs, 0, none⟩)]) := blk_cell hbo 0
  have HS := Lib.hid hbs
  have HE := Lib.hid hbe
  clear hbs hbe hbo
  by_cases hlt : s.size < m
  · have ht : decide (s.size < m) = true := by simp; omega
    go_enter Tryd.func52, Tryd.ntmps52
    go_wp2_with fail
    refine (odd_some 5 Be Bs x W HE.out).mono ?_
    rintro en w' ⟨rfl, rfl⟩
    go_wp2
    go_ret
    exact ⟨rfl, rfl⟩
  · have ht : decide (s.size < m) = false := by simp; omega
    go_enter Tryd.func52, Tryd.ntmps52
    go_wp2
    go_ret
    exact ⟨rfl, rfl⟩
end Go.Proofs.YtbpobnlkfpjijaaDoorR.Pr
end
-- Pr42
section
namespace Go.Proofs.YtbpobnlkfpjijaaDoorR.Pr
open Go.RowKit Go.Proofs.YtbpobnlkfpjijaaDoorRW.PrintWords Go.Proofs.YtbpobnlkfpjijaaDoorRW.PrintLast Go.Proofs.YtbpobnlkfpjijaaDoorRW.PrintMore
attribute [local go_sem] max2_int min2_int max_two min_two max_three min_three max_four min_four   -- for this text's walks alone
set_option linter.unusedVariables false
set_option linter.unusedSimpArgs false

attribute [local go_sem] Go.Proofs.Aid.cell_set_row
def nat_Norm.l0 : Nat → List Int → Int → Option (List Int)
  | 0, _, _ => none
  | k + 1, x0, x3 => if x3 > 0 then (if 0 ≤ (wrap64 (x3 - 1)) then (if (wrap64 (x3 - 1)) < (x0.length : Int) then (if (rd x0 (wrap64 (x3 - 1))) = 0 then (nat_Norm.l0 k x0 (wrap64 (x3 - 1))) else (if 0 ≤ x3 then (if x3 ≤ (x0.length : Int) then (some (x0.take (x3 : Int).toNat)) else (none)) else (none))) else (none)) else (none)) else (if 0 ≤ x3 then (if x3 ≤ (x0.length : Int) then (some (x0.take (x3 : Int).toNat)) else (none)) else (none))
def nat_Norm.f (k : Nat) (l0 : List Int) : Option (List Int) := nat_Norm.l0 k l0 (l0.length : Int)
theorem nat_Norm.mono_l : ∀ k, (∀ y0 y1, LeO (nat_Norm.l0 k y0 y1) (nat_Norm.l0 (k + 1) y0 y1))
  | 0 => fun _ _ r h => by simp [nat_Norm.l0] at h
  | k + 1 => by
    have ih0 := nat_Norm.mono_l k
    · intro y0 y1
      unfold nat_Norm.l0
      repeat' first
      | (with_reducible exact ih0 _ _)
      | (with_reducible exact LeO.refl _)
      | (with_reducible exact LeO.none _)
      | (with_reducible refine LeO.ite ?_ ?_)
      | (with_reducible refine LeO.bind ?_ (fun _ => ?_))
      | exact ih0 _ _
      | exact LeO.none _
      | refine LeO.ite ?_ ?_
      | refine LeO.bind ?_ (fun _ => ?_)
theorem nat_Norm.mono : ∀ a0 k, LeO (nat_Norm.f k a0) (nat_Norm.f (k + 1) a0) := by
  intro a0 k
  have ih0 := nat_Norm.mono_l k
  unfold nat_Norm.f
  repeat' first
      | (with_reducible exact ih0 _ _)
      | (with_reducible exact LeO.refl _)
      | (with_reducible exact LeO.none _)
      | (with_reducible refine LeO.ite ?_ ?_)
      | (with_reducible refine LeO.bind ?_ (fun _ => ?_))
      | exact ih0 _ _
      | exact LeO.none _
      | refine LeO.ite ?_ ?_
      | refine LeO.bind ?_ (fun _ => ?_)
set_option maxHeartbeats 8000000 in
set_option maxRecDepth 100000 in
theorem nat_Norm.calls (k : Nat) (P0_ : Nat → Prop) (A0 : Option Addr) (c0 : Nat) (l0 : List Int) (r : List Int) (w : World) (hs0 : Kd.V (Kd.int .u64) 79 w w.heap.size (fun k_ => P0_ k_) (.slice A0 l0.length c0) l0) (h : nat_Norm.f k l0 = some r) :
    Calls Tryd.prog 54 #[.slice A0 l0.length c0] w fun e w' => ∃ v0_ : Value, e = .returned (v0_) ∧ Kd.V (Kd.int .u64) 79 w' w.heap.size (fun k_ => (P0_ k_ ∨ w.heap.size ≤ k_)) v0_ r ∧ Below w.heap.size w w' := by
  have HO0 := Aside0.mk (show Kd.V (Kd.int .u64) 79 w w.heap.size (fun k_ => (P0_ k_ ∨ w.heap.size ≤ k_)) (.slice A0 l0.length c0) l0 from Kd.V_mono hs0 (fun k_ hk => .inl hk))
  have HB := Aside0.mk (Below.refl w.heap.size w)
  have H : (nat_Norm.l0 k l0 (l0.length : Int)) = some r := h
  clear h
  have H' := Aside0.mk H
  clear H
  go_enter Tryd.func54, Tryd.ntmps54
  go_wp2
  go_loopg [3] k (fun kq v3 w' => ∃ (x3_1 : Int), v3 = .int .i64 x3_1 ∧ Aside0 (nat_Norm.l0 kq l0 x3_1 = some r) ∧ Aside0 (kq ≤ k) ∧ Aside0 (Kd.V (Kd.int .u64) 79 w' w.heap.size (fun k_ => (P0_ k_ ∨ w.heap.size ≤ k_)) (.slice A0 l0.length c0) l0) ∧ Aside0 (Below w.heap.size w w'))
  case atStart => exact ⟨((l0.length : Int)), (by first | rfl | (simp; done) | (simp [*]; done)), H', ⟨Nat.le_refl _⟩, ⟨by (with_reducible repeat (first | apply Kd.V_alloc | apply Kd.V_drewN | apply Kd.V_drew)); exact HO0.out⟩, ⟨by repeat (first | (with_reducible first | exact HB.out | apply below_alloc | apply pw_below_drewN | apply below_drew1) | exact HB.out)⟩⟩
  case round =>
    clear H'
    obtain ⟨x3_1, rfl, HA, HK1, HO_0, HB⟩ := hrel
    cases gk with
    | zero => exact absurd HA.out (by simp [nat_Norm.l0])
    | succ k1 =>
      have H := HA.out
      clear HA
      simp only [nat_Norm.l0] at H
      by_cases c2 : x3_1 > 0
      · rw [if_pos c2] at H
        have c2b0 : decide (0 < x3_1) = true := decide_eq_true c2
        clear c2
        obtain ⟨ji3, hji3⟩ : ∃ j_ : Int, (wrap64 (x3_1 - 1)) = j_ := ⟨_, rfl⟩
        replace H : (if 0 ≤ (ji3) then (if (ji3) < (l0.length : Int) then (if (rd l0 (ji3)) = 0 then (nat_Norm.l0 k1 l0 ji3) else (if 0 ≤ x3_1 then (if x3_1 ≤ (l0.length : Int) then (some (l0.take (x3_1 : Int).toNat)) else (none)) else (none))) else (none)) else (none)) = some r := by first | (rw [hji3] at H; exact H) | (simp only [hji3] at H ⊢; exact H)
        have hji3w : (IntKind.i64.wrap (x3_1 - 1)) = ji3 := (i64_w _).trans hji3
        by_cases c4 : 0 ≤ (ji3)
        · rw [if_pos c4] at H
          have c4b0 : decide (0 ≤ (ji3)) = true := decide_eq_true c4
          clear c4
          by_cases c5 : (ji3) < (l0.length : Int)
          · rw [if_pos c5] at H
            have c5b0 : decide ((ji3) < (l0.length : Int)) = true := decide_eq_true c5
            clear c5
            by_cases c6 : (rd l0 (ji3)) = 0
            · rw [if_pos c6] at H
              have c6b0 : ((rd l0 (ji3)) == 0) = true := beq_iff_eq.mpr c6
              have c6b1 : ((rd l0 (ji3)) != 0) = false := bne_eq_false_iff_eq.mpr c6
              clear c6
              have H' := Aside0.mk H
              clear H
              have p140 : 0 ≤ ((ji3) : Int) := of_decide_eq_true (by first | (with_reducible assumption) | assumption)
              have q140 : (ji3) < (l0.length : Int) := of_decide_eq_true (by first | (with_reducible assumption) | assumption)
              obtain ⟨ad140, e140, hx140_0⟩ := Kd.at_int (Kd.V_reads' HO_0.out).2.2 (ji3) p140 q140
              cases e140
              replace p140 := eq_true p140
              replace q140 := eq_true q140
              go_wp2
              go_roundg k1
              case measure => have := HK1.out; omega
              case rel => exact ⟨(ji3), (by first | rfl | (simp; done) | (simp only [← hji3] <;> (first | rfl | simp)) | (simp [*]; done)), H', ⟨by have := HK1.out; omega⟩, ⟨by (with_reducible repeat (first | apply Kd.V_alloc | apply Kd.V_drewN | apply Kd.V_drew)); exact HO_0.out⟩, ⟨by repeat (first | (with_reducible first | exact HB.out | apply below_alloc | apply pw_below_drewN | apply below_drew1) | exact HB.out)⟩⟩
            · rw [if_neg c6] at H
              have c6b0 : ((rd l0 (ji3)) == 0) = false := beq_eq_false_iff_ne.mpr c6
              have c6b1 : ((rd l0 (ji3)) != 0) = true := bne_iff_ne.mpr c6
              by_cases c7 : 0 ≤ x3_1
              · rw [if_pos c7] at H
                have c7b0 := eq_true c7
                have c7b1 : decide (0 ≤ x3_1) = true := decide_eq_true c7
                clear c7
                by_cases c8 : x3_1 ≤ (l0.length : Int)
                · rw [if_pos c8] at H
                  have c8b0 := eq_true c8
                  have c8b1 : decide (x3_1 ≤ (l0.length : Int)) = true := decide_eq_true c8
                  clear c8
                  obtain ⟨y141, hy141⟩ : ∃ y_ : List Int, y_ = (l0.take (x3_1 : Int).toNat) := ⟨_, rfl⟩
                  replace H : (some y141) = some r := by first | (rw [hy141]; with_reducible exact H) | (have H2_ := (Option.bind_some _ _).symm.trans H; rw [hy141]; with_reducible exact H2_) | (have H2_ := (Option.bind_some _ _).symm.trans H; with_reducible exact H2_) | with_reducible exact H | (rw [hy141]; exact H) | exact H
                  have Ny141 := Aside0.mk hy141
                  clear hy141
                  obtain rfl := Option.some.inj H
                  have p140 : 0 ≤ ((ji3) : Int) := of_decide_eq_true (by first | (with_reducible assumption) | assumption)
                  have q140 : (ji3) < (l0.length : Int) := of_decide_eq_true (by first | (with_reducible assumption) | assumption)
                  obtain ⟨ad140, e140, hx140_0⟩ := Kd.at_int (Kd.V_reads' HO_0.out).2.2 (ji3) p140 q140
                  cases e140
                  replace p140 := eq_true p140
                  replace q140 := eq_true q140
                  have q9 : (x3_1 : Int) ≤ ((l0.length : Int) : Int) := of_decide_eq_true (by first | (with_reducible assumption) | assumption)
                  obtain ⟨i09, hi09, _, hsz9, _⟩ := info_parts info79
                  have hroom9 : l0.length ≤ c0 := (Kd.V_reads' HO_0.out).2.1
                  have hC9 : Kd.F (Kd.int .u64) _ _ (some ad140) l0.length l0 := (Kd.V_at (base := w.heap.size) HO_0.out).2.2
                  have hcut9 := Go.Proofs.Aid.cut_to_cap (P := Tryd.prog) 43 79 .i64 Tryd.underlying43 hi09 (some ad140) l0.length c0 x3_1 (of_decide_eq_true (by first | (with_reducible assumption) | assumption)) q9 hroom9
                  have hr9 := Kd.F_take (m := (x3_1 : Int).toNat) hC9 (by omega)
                  have hy9 : y141.length = (x3_1 : Int).toNat := (by rw [Ny141.out, List.length_take]; omega)
                  rw [← Ny141.out] at hr9
                  rw [← hy9] at hcut9
                  have HO145 := Aside0.mk (show Kd.V (Kd.int .u64) 79 _ w.heap.size _ (.slice (some ad140) y141.length y141.length) y141 from Kd.V_mk (by omega) hr9)
                  have HC145 := Aside0.mk (show y141.length ≤ y141.length from by omega)
                  clear hr9 hC9 hroom9 hi09 hsz9
                  have KY9 := Aside0.mk hy9
                  clear hy9
                  replace q9 := eq_true q9
                  go_wp2
                  go_ret
                  exact ⟨_, by first | rfl | (simp [errW_none, errW_some] <;> rfl) | (simp only [← hji3]; first | rfl | (simp [errW_none, errW_some] <;> rfl)) | (simp [*, errW_none, errW_some] <;> rfl), by (with_reducible repeat (first | apply Kd.V_alloc | apply Kd.V_drewN | apply Kd.V_drew)); exact HO145.out, by repeat (first | (with_reducible first | exact HB.out | apply below_alloc | apply pw_below_drewN | apply below_drew1) | exact HB.out)⟩
                · rw [if_neg c8] at H
                  exact absurd H (by simp)
              · rw [if_neg c7] at H
                exact absurd H (by simp)
          · rw [if_neg c5] at H
            exact absurd H (by simp)
        · rw [if_neg c4] at H
          exact absurd H (by simp)
      · rw [if_neg c2] at H
        have c2b0 : decide (0 < x3_1) = false := decide_eq_false c2
        clear c2
        by_cases c10 : 0 ≤ x3_1
        · rw [if_pos c10] at H
          have c10b0 := eq_true c10
          have c10b1 : decide (0 ≤ x3_1) = true := decide_eq_true c10
          clear c10
          by_cases c11 : x3_1 ≤ (l0.length : Int)
          · rw [if_pos c11] at H
            have c11b0 := eq_true c11
            have c11b1 : decide (x3_1 ≤ (l0.length : Int)) = true := decide_eq_true c11
            clear c11
            obtain ⟨y146, hy146⟩ : ∃ y_ : List Int, y_ = (l0.take (x3_1 : Int).toNat) := ⟨_, rfl⟩
            replace H : (some y146) = some r := by first | (rw [hy146]; with_reducible exact H) | (have H2_ := (Option.bind_some _ _).symm.trans H; rw [hy146]; with_reducible exact H2_) | (have H2_ := (Option.bind_some _ _).symm.trans H; with_reducible exact H2_) | with_reducible exact H | (rw [hy146]; exact H) | exact H
            have Ny146 := Aside0.mk hy146
            clear hy146
            obtain rfl := Option.some.inj H
            have q12 : (x3_1 : Int) ≤ ((l0.length : Int) : Int) := of_decide_eq_true (by first | (with_reducible assumption) | assumption)
            obtain ⟨i012, hi012, _, hsz12, _⟩ := info_parts info79
            have hroom12 : l0.length ≤ c0 := (Kd.V_reads' HO_0.out).2.1
            have hC12 : Kd.F (Kd.int .u64) _ _ A0 l0.length l0 := (Kd.V_at (base := w.heap.size) HO_0.out).2.2
            have hcut12 := Go.Proofs.Aid.cut_to_cap (P := Tryd.prog) 43 79 .i64 Tryd.underlying43 hi012 A0 l0.length c0 x3_1 (of_decide_eq_true (by first | (with_reducible assumption) | assumption)) q12 hroom12
            have hr12 := Kd.F_take (m := (x3_1 : Int).toNat) hC12 (by omega)
            have hy12 : y146.length = (x3_1 : Int).toNat := (by rw [Ny146.out, List.length_take]; omega)
            rw [← Ny146.out] at hr12
            rw [← hy12] at hcut12
            have HO150 := Aside0.mk (show Kd.V (Kd.int .u64) 79 _ w.heap.size _ (.slice A0 y146.length y146.length) y146 from Kd.V_mk (by omega) hr12)
            have HC150 := Aside0.mk (show y146.length ≤ y146.length from by omega)
            clear hr12 hC12 hroom12 hi012 hsz12
            have KY12 := Aside0.mk hy12
            clear hy12
            replace q12 := eq_true q12
            go_wp2
            go_ret
            exact ⟨_, by first | rfl | (simp [errW_none, errW_some] <;> rfl) | (simp [*, errW_none, errW_some] <;> rfl), by (with_reducible repeat (first | apply Kd.V_alloc | apply Kd.V_drewN | apply Kd.V_drew)); exact HO150.out, by repeat (first | (with_reducible first | exact HB.out | apply below_alloc | apply pw_below_drewN | apply below_drew1) | exact HB.out)⟩
          · rw [if_neg c11] at H
            exact absurd H (by simp)
        · rw [if_neg c10] at H
          exact absurd H (by simp)

end Go.Proofs.YtbpobnlkfpjijaaDoorR.Pr
end
-- Cr
section
namespace Go.Proofs.YtbpobnlkfpjijaaDoorR.Pr
open Go.RowKit Go.Proofs.YtbpobnlkfpjijaaDoorRW.PrintWords Go.Proofs.YtbpobnlkfpjijaaDoorRW.PrintLast Go.Proofs.YtbpobnlkfpjijaaDoorRW.PrintMore
set_option linter.unusedVariables false
set_option linter.unusedSimpArgs false
/-- Words, one by one, as many as d: what there is, what is left, an error. -/
def rowL : Nat → ByteArray → List Int → List Int × ByteArray × Option Int
  | 0, s, xs => (xs, s, none)
  | d + 1, s, xs => if 8 ≤ s.size then rowL d (s.extract 8 s.size) (xs ++ [numF (s.extract 0 8)]) else (xs ++ [0], s, some 5)
def lastZero (xs : List Int) : Bool := match xs.getLast? with
  | some x => x == 0
  | none => false
def rowEnd : List Int × ByteArray × Option Int → List Int × ByteArray × Option Int
  | (xs, s', some e) => (xs, s', some e)
  | (xs, s', none) => if lastZero xs = true then (xs, s', some 6) else (xs, s', none)
/-- A row of words at the beginning of bytes. -/
def rowF (s : ByteArray) : List Int × ByteArray × Option Int :=
  if s.size < 4 then ([], s, some 5)
  else if numF (s.extract 0 4) > 4096 then ([], s.extract 4 s.size, some 4)
  else rowEnd (rowL (numF (s.extract 0 4)).toNat (s.extract 4 s.size) [])
theorem rd_nat (xs : List Int) (i : Nat) (h : i < xs.length) : rd xs (i : Int) = xs[i] := by
  simp [rd, List.getD_eq_getElem?_getD, List.getElem?_eq_getElem h]
theorem norm_l (xs : List Int) (hx : xs.length < 9223372036854775807) : ∀ (j k : Nat), j ≤ xs.length → j < k → ∃ r, nat_Norm.l0 k xs (j : Int) = some r ∧ r.length ≤ j ∧ (0 < j → ∀ h : j - 1 < xs.length, (r.length < j ↔ xs[j - 1] = 0)) ∧ ∃ n, r = xs.take n ∧ n ≤ j
  | j, 0, _, h => by omega
  | 0, k + 1, _, _ => by
    refine ⟨xs.take 0, ?_, by simp, fun h => by omega, 0, rfl, Nat.le_refl _⟩
    unfold nat_Norm.l0
    rw [if_neg (by omega), if_pos (by omega), if_pos (by omega)]
    rfl
  | j + 1, k + 1, hj, hk => by
    have hw : wrap64 (((j + 1 : Nat) : Int) - 1) = ((j : Nat) : Int) := by unfold wrap64; omega
    have hlt : j < xs.length := by omega
    unfold nat_Norm.l0
    rw [if_pos (by omega), hw, if_pos (by omega), if_pos (by omega), rd_nat xs j hlt]
    by_cases hz : xs[j] = 0
    · rw [if_pos hz]
      obtain ⟨r, hr, hl, _, n, hn, hn2⟩ := norm_l xs hx j k (by omega) (by omega)
      exact ⟨r, hr, by omega, fun _ _ => ⟨fun _ => hz, fun _ => by omega⟩, n, hn, by omega⟩
    · rw [if_neg hz, if_pos (by omega), if_pos (by omega)]
      have hlen : (xs.take (((j + 1 : Nat) : Int)).toNat).length = j + 1 := by rw [Int.toNat_natCast, List.length_take]; omega
      exact ⟨_, rfl, by omega, fun _ _ => ⟨fun h => by omega, fun h => absurd h hz⟩, j + 1, by rw [Int.toNat_natCast], Nat.le_refl _⟩
theorem lastZero_iff (xs : List Int) (h : 0 < xs.length) : lastZero xs = true ↔ xs[xs.length - 1]'(by omega) = 0 := by
  unfold lastZero
  rw [List.getLast?_eq_getElem?, List.getElem?_eq_getElem (by omega)]
  simp
theorem norm_tells (xs : List Int) (hx : xs.length < 9223372036854775807) : ∃ r, nat_Norm.f (xs.length + 1) xs = some r ∧ r.length ≤ xs.length ∧ (r.length < xs.length ↔ lastZero xs = true) ∧ ∃ n, r = xs.take n := by
  obtain ⟨r, hr, hl, h, n, hn, _⟩ := norm_l xs hx xs.length (xs.length + 1) (Nat.le_refl _) (Nat.lt_succ_self _)
  refine ⟨r, hr, hl, ?_, n, hn⟩
  rcases Nat.eq_zero_or_pos xs.length with h0 | h0
  · have : xs = [] := List.length_eq_zero_iff.1 h0
    subst this
    constructor
    · intro h; simp at h
    · intro h; cases h
  · rw [h h0 (by omega), lastZero_iff xs h0]
theorem R_ints {W : World} {base : Nat} {v : Value} {xs : List Int} (h : W.ownsRow base 79 1 v xs.length (xs.map (Value.int .u64))) : Kd.R (Kd.int .u64) 79 W base (fun _ => True) v xs := by
  refine ⟨fun _ _ => trivial, xs.map (Value.int .u64), h, ⟨by rw [List.length_map]; exact (Nat.mul_one _).symm, fun j p hj => ?_⟩⟩
  show (((xs.map (Value.int .u64)).drop (j * 1)).take 1) = [Value.int .u64 p]
  have hlt := (List.getElem?_eq_some_iff.1 hj).1
  rw [Nat.mul_one, List.drop_eq_getElem_cons (by simpa using hlt)]
  simp only [List.take_succ_cons, List.take_zero, List.getElem_map]
  rw [List.getElem?_eq_getElem hlt] at hj
  injection hj with hj
  rw [hj]
theorem V_ints {W : World} {base : Nat} {v : Value} {xs : List Int} (h : W.ownsRow base 79 1 v xs.length (xs.map (Value.int .u64))) : Kd.V (Kd.int .u64) 79 W base (fun k => base ≤ k) v xs := by
  have hR := R_ints h
  obtain ⟨A, c, rfl, hc, _⟩ := Kd.R_reads hR
  exact ⟨A, c, rfl, hc, Kd.F_mono (Kd.R_F (Kd.R_bound hR)) (fun k hk => hk.2.1)⟩
theorem Kp.grown {S : Nat → Prop} {W W1 W2 : World} {row : Option Nat} (h : Kp S W W1) (hg : W1.grownBy W2 row) (hr : ∀ k, row = some k → W.heap.size ≤ k) : Kp S W W2 :=
  ⟨hg.os.trans h.os, hg.tape.trans h.tape, hg.output.trans h.output, Nat.le_trans h.size hg.size, fun i hi hs => (hg.block i (Nat.lt_of_lt_of_le hi h.size) (fun he => by have := hr i he.symm; omega)).trans (h.block i hi hs)⟩
theorem ErrIs.grown {base : Nat} {W W1 : World} {v : Value} {err : Option Int} {row : Option Nat} (h : ErrIs base W v err) (hg : W.grownBy W1 row) (hS : ∀ k, row = some k → k < base) : ErrIs base W1 v err := by
  cases err with
  | none => exact h
  | some e =>
    obtain ⟨n, b, hv, hb, hh⟩ := h
    exact ⟨n, b, hv, hb, (hg.block b (blk_lt hh) (fun hs => by have := hS b hs.symm; omega)).trans hh⟩
theorem ErrIs.mono {base base' : Nat} {W : World} {v : Value} {err : Option Int} (h : ErrIs base W v err) (hb : base' ≤ base) : ErrIs base' W v err := by
  cases err with
  | none => exact h
  | some e =>
    obtain ⟨n, b, hv, h1, hh⟩ := h
    exact ⟨n, b, hv, by omega, hh⟩
theorem ownsRow_kp {S : Nat → Prop} {W W1 : World} {base : Nat} {e : TypeId} {size : Nat} {v : Value} {n : Nat} {xs : List Value} (h : W.ownsRow base e size v n xs) (hk : Kp S W W1) (hS : ∀ r, v.ownBlock = some r → ¬ S r) : W1.ownsRow base e size v n xs := by
  refine ⟨h.1, ?_⟩
  rcases h.2 with hn | ⟨g, cap, cur, rfl, hb, hgg, rest⟩
  · exact .inl hn
  · exact .inr ⟨g, cap, cur, rfl, hb, hk.blk hgg (hS g rfl), rest⟩
/-- What the closures have captured. -/
structure Env (W : World) (Bs Be Bo Bt : Nat) : Prop where
  bo : W.heap[Bo]? = some (.cells #[.func (.func 51) #[] #[.pointer (some ⟨Be, 0, none⟩), .pointer (some ⟨Bs, 0, none⟩)]] 105 (0, 0))
  bt : W.heap[Bt]? = some (.cells #[.func (.func 52) #[] #[.pointer (some ⟨Bs, 0, none⟩), .pointer (some ⟨Bo, 0, none⟩), .pointer (some ⟨Be, 0, none⟩)]] 106 (0, 0))
theorem Env.kept {S : Nat → Prop} {W W1 : World} {Bs Be Bo Bt : Nat} (h : Env W Bs Be Bo Bt) (hk : Kp S W W1) (ho : ¬ S Bo) (ht : ¬ S Bt) : Env W1 Bs Be Bo Bt := ⟨hk.blk h.bo ho, hk.blk h.bt ht⟩
abbrev SB (Bs Be : Nat) : Nat → Prop := fun k => k = Bs ∨ k = Be
theorem V_kp {α : Type} {d : Kd α} {e b b' base : Nat} {W1 W2 : World} {v : Value} {xs : List α} {S : Nat → Prop} (h : Kd.V d e W1 b (fun k => base ≤ k) v xs) (hk : Kp S W1 W2) (hS : ∀ k, S k → k < base) : Kd.V d e W2 b' (fun k => base ≤ k) v xs :=
  Kd.V_map h (fun A hF => Kd.F_step hF (fun k hk1 hk2 => hk.block k hk2 (fun hs => by have := hS k hs; omega)))
theorem rowF_of {s s1 : ByteArray} {n : Nat} (h4 : 4 ≤ s.size) (hn : numF (s.extract 0 4) = (n : Int)) (hn2 : n ≤ 4096) (hs1 : s.extract 4 s.size = s1) {xs : List Int} {sK : ByteArray} {er : Option Int} (hr : rowL n s1 [] = (xs, sK, er)) :
    rowF s = rowEnd (xs, sK, er) := by
  unfold rowF
  rw [if_neg (by omega), hn, if_neg (by omega), Int.toNat_natCast, hs1, hr]
theorem rowEnd_bad {xs : List Int} {s : ByteArray} (h : lastZero xs = true) : rowEnd (xs, s, none) = (xs, s, some 6) := by
  show (if lastZero xs = true then _ else _) = _
  rw [if_pos h]
theorem rowEnd_good {xs : List Int} {s : ByteArray} (h : lastZero xs = false) : rowEnd (xs, s, none) = (xs, s, none) := by
  show (if lastZero xs = true then _ else _) = _
  rw [if_neg (by rw [h]; decide)]
theorem row_fin {W wr w2 w3 : World} {Bs Be : Nat} {u ve : Value} {er : Option Int} {S : Nat → Prop} {a b o : Obj} (hkp : Kp (SB Bs Be) W wr) (hk2 : Kp S wr w2) (hS : ∀ k, S k → SB Bs Be k) (hu : ∀ r, u.ownBlock = some r → W.heap.size ≤ r ∧ r < wr.heap.size)
    (hBs : Bs < W.heap.size) (hBe : Be < W.heap.size) (h2s : w2.heap[Bs]? = some a) (h2e : w2.heap[Be]? = some b) (hee : ErrIs wr.heap.size w2 ve er) (hg : (w2.alloc o).grownBy w3 u.ownBlock) :
    w3.heap[Bs]? = some a ∧ w3.heap[Be]? = some b ∧ ErrIs W.heap.size w3 ve er ∧ Kp (SB Bs Be) W w3 := by
  have e1 : ∀ g c, g < W.heap.size → w2.heap[g]? = some c → w3.heap[g]? = some c := fun g c hlt hc =>
    (hg.block g (blk_lt (blk_alloc hc o)) (fun he => by have := hu g he.symm; omega)).trans (blk_alloc hc o)
  refine ⟨e1 Bs a hBs h2s, e1 Be b hBe h2e, ?_, ?_⟩
  · exact ((hee.kept ((Kp.refl (fun _ => False) w2).alloc o) (fun _ h => h.elim)).grown hg (fun r hr => (hu r hr).2)).mono hkp.size
  · exact ((hkp.trans (hk2.mono hS)).alloc o).grown hg (fun r hr => (hu r hr).1)
/-- What a round of row keeps. -/
def RowSt (n : Nat) (s1 : ByteArray) (k : Nat) (xs : List Int) (sK : ByteArray) (er : Option Int) : Prop := match er with
  | none => rowL n s1 [] = rowL (n - k) sK xs ∧ sK.size < 9223372036854775807
  | some e => e = 5 ∧ rowL n s1 [] = (xs, sK, some 5)
set_option maxRecDepth 100000 in
set_option maxHeartbeats 4000000 in
/-- row, where there is no error yet, and a number of words that may be. -/
theorem row_good (Be Bs Bo Bt : Nat) (s : ByteArray) (hs : s.size < 9223372036854775807) (h4 : 4 ≤ s.size) (hn : numF (s.extract 0 4) ≤ 4096) (W : World) (hbs : W.heap[Bs]? = some (.cells #[.string s] 9 (0, 0))) (hbe : W.heap[Be]? = some (.cells #[.nilIface] 74 (0, 0)))
    (he : Env W Bs Be Bo Bt) (hne : Bs ≠ Be) (h1 : Bo ≠ Bs) (h2 : Bo ≠ Be) (h3 : Bt ≠ Bs) (h5 : Bt ≠ Be) :
    Calls Tryd.prog 53 #[.pointer (some ⟨Bt, 0, none⟩), .pointer (some ⟨Bo, 0, none⟩), .pointer (some ⟨Be, 0, none⟩)] W fun en W' => ∃ v0 v', en = .returned v0 ∧
      Kd.V (Kd.int .u64) 79 W' W.heap.size (fun k => W.heap.size ≤ k) v0 (rowF s).1 ∧ W'.heap[Bs]? = some (.cells #[.string (rowF s).2.1] 9 (0, 0)) ∧ W'.heap[Be]? = some (.cells #[v'] 74 (0, 0)) ∧ ErrIs W.heap.size W' v' (rowF s).2.2 ∧ Kp (SB Bs Be) W W' := by
  have hct : W.cell? ⟨Bt, 0, none⟩ = some (.func (.func 52) #[] #[.pointer (some ⟨Bs, 0, none⟩), .pointer (some ⟨Bo, 0, none⟩), .pointer (some ⟨Be, 0, none⟩)]) := blk_cell he.bt 0
  have hN := numF_range (s.extract 0 4)
  obtain ⟨n, hn2⟩ := Int.eq_ofNat_of_zero_le hN.1
  have hn3 : n ≤ 4096 := by omega
  have HN := Lib.hid hn2
  have HS := Lib.hid hbs
  have HE := Lib.hid hbe
  have HV := Lib.hid he
  have HBS := Lib.hid hbs
  have hbo0 := Lib.hid he.bo
  have hbt0 := Lib.hid he.bt
  clear hbs hbe hN he hn2
  go_enter Tryd.func53, Tryd.ntmps53
  go_wp2_with fail
  refine (take_ok 4 Be Bs Bo s hs h4 W HS.out HE.out).mono ?_
  rw [HN.out]
  rintro en w1 ⟨rfl, hw1, hk1⟩
  have hs1 : (s.extract 4 s.size).size < 9223372036854775807 := by simp; omega
  obtain ⟨s1, hS1⟩ : ∃ s1, s.extract 4 s.size = s1 := ⟨_, rfl⟩
  rw [hS1] at hw1 hs1
  have HS1 := Lib.hid hS1
  have HW1 := Lib.hid hw1
  have HE1 := Lib.hid (hk1.blk HE.out (fun h => hne h.symm))
  have HK1 := Lib.hid (hk1.mono (S' := SB Bs Be) (fun _ h => .inl h))
  have HV1 := Lib.hid (HV.out.kept hk1 h1 h3)
  clear hS1 hw1 hk1 hct
  obtain ⟨i0, hi, hz0, hz1, hz2⟩ := info_parts info79
  have hnt : decide ((n : Int) > 4096) = false := by simp; omega
  have hnt2 : decide ((4096 : Int) < (n : Int)) = false := by simp; omega
  go_wp2
  go_loopw [5, 6] (fun out i wr => ∃ (k : Nat) (xs : List Int) (sK : ByteArray) (er : Option Int) (ve : Value), i = .int .u64 (k : Int) ∧ k ≤ n ∧ xs.length = k ∧ RowSt n s1 k xs sK er ∧ wr.heap[Bs]? = some (.cells #[.string sK] 9 (0, 0)) ∧ wr.heap[Be]? = some (.cells #[ve] 74 (0, 0)) ∧ ErrIs W.heap.size wr ve er ∧ wr.ownsRow W.heap.size 79 1 out xs.length (xs.map (Value.int .u64)) ∧ Kp (SB Bs Be) W wr) (fun _ i _ => n - (intOf i).toNat)
  case atStart => exact ⟨0, [], s1, none, .nilIface, rfl, Nat.zero_le _, rfl, ⟨rfl, hs1⟩, HW1.out, HE1.out, rfl, World.ownsRow_nil _ _ _ _, HK1.out⟩
  case round =>
    obtain ⟨k, xs, sK, er, ve, rfl, hk, hxl, hst, hwb, hwe, hee, hown, hkp⟩ := hrel
    have hE1 : Env wr Bs Be Bo Bt := by
      have he0 := HV1.out
      have hk0 := HK1.out
      exact ⟨(hkp.block Bo (blk_lt hbo0.out) (fun h => h.elim h1 h2)).trans hbo0.out, (hkp.block Bt (blk_lt hbt0.out) (fun h => h.elim h3 h5)).trans hbt0.out⟩
    have hct : wr.cell? ⟨Bt, 0, none⟩ = some (.func (.func 52) #[] #[.pointer (some ⟨Bs, 0, none⟩), .pointer (some ⟨Bo, 0, none⟩), .pointer (some ⟨Be, 0, none⟩)]) := blk_cell hE1.bt 0
    have hco : wr.cell? ⟨Bo, 0, none⟩ = some (.func (.func 51) #[] #[.pointer (some ⟨Be, 0, none⟩), .pointer (some ⟨Bs, 0, none⟩)]) := blk_cell hE1.bo 0
    have hce : wr.cell? ⟨Be, 0, none⟩ = some ve := blk_cell hwe 0
    have HWB := Lib.hid hwb
    have HWE := Lib.hid hwe
    have HOW := Lib.hid hown
    have HKP := Lib.hid hkp
    have HENV := Lib.hid hE1
    have HST := Lib.hid hst
    have HEE := Lib.hid hee
    clear hwb hwe hown hkp hE1 hst hee
    cases er with
    | none =>
      have hve : ve = .nilIface := HEE.out
      subst hve
      have hsK := HST.out.2
      by_cases hlt : k < n
      · have ht1 : decide (k < n) = true := by simp; omega
        have hu : ∀ r, u5.ownBlock = some r → W.heap.size ≤ r ∧ r < wr.heap.size := HOW.out.lt
        have HU := Lib.hid hu
        clear hu
        have hsz : W.heap.size ≤ wr.heap.size := HKP.out.size
        by_cases h8 : 8 ≤ sK.size
        · have hst2 : RowSt n s1 (k + 1) (xs ++ [numF (sK.extract 0 8)]) (sK.extract 8 sK.size) none := by
            refine ⟨?_, by simp; omega⟩
            rw [HST.out.1, show n - k = (n - (k + 1)) + 1 by omega]
            conv => lhs; unfold rowL
            rw [if_pos h8]
          have HST2 := Lib.hid hst2
          clear hst2
          go_wp2_with fail
          refine (take_ok 8 Be Bs Bo sK hsK h8 wr HWB.out HWE.out).mono ?_
          rintro en w2 ⟨rfl, hw2, hk2⟩
          have HW2 := Lib.hid hw2
          have HK2 := Lib.hid hk2
          have HOW2 := Lib.hid (show w2.ownsRow W.heap.size 79 1 u5 xs.length (xs.map (Value.int .u64)) from ownsRow_kp HOW.out hk2 (fun r hr => by have := HU.out r hr; have := blk_lt HBS.out; rintro rfl; omega))
          have hlen : xs.length + 1 ≤ maxLen := by unfold maxLen; omega
          have hlen2 : (xs.length + 1) * 8 ≤ 140737488355328 := by omega
          have hsz2 : W.heap.size ≤ w2.heap.size := Nat.le_trans hsz hk2.size
          clear hw2 hk2
          go_wp2_with (at_builtin; refine wpList_append_own _ rfl _ _ 43 rfl W.heap.size 79 i0 (.int .u64 0) 1 8 Tryd.underlying43 hi hz0 hz1 hz2 rfl (by decide) _ _ _ rfl (HOW2.out.alloc _) ⟨w2.heap.size, 0, none⟩ 1 1 [.int .u64 (numF (sK.extract 0 8))] rfl rfl (cell_one_new _ _ _) (by simp [Value.oneCell']) hlen hlen2 (by simp; omega) ?_; intro v' w3 hown' hgrow _)
          have hf := row_fin HKP.out HK2.out (fun _ h => .inl h) HU.out (blk_lt HBS.out) (blk_lt HE.out) HW2.out (HK2.out.blk HWE.out (fun h => hne h.symm)) (show ErrIs wr.heap.size w2 .nilIface none from rfl) hgrow
          have HF := Lib.hid hf
          have HO3 := Lib.hid hown'
          clear hf hown' hgrow
          go_roundw
          case rel => exact ⟨k + 1, _, _, none, _, by go_num, by omega, by simp [hxl], HST2.out, HF.out.1, HF.out.2.1, HF.out.2.2.1, by simpa using HO3.out, HF.out.2.2.2⟩
          case measure => simp [intOf]; omega
        · have hst2 : RowSt n s1 (k + 1) (xs ++ [0]) sK (some 5) := by
            refine ⟨rfl, ?_⟩
            rw [HST.out.1, show n - k = (n - (k + 1)) + 1 by omega]
            conv => lhs; unfold rowL
            rw [if_neg h8]
          have HST2 := Lib.hid hst2
          clear hst2
          go_wp2_with fail
          refine (take_more 8 Be Bs Bo sK hsK (by omega) (by decide) wr HWB.out HWE.out HENV.out.bo).mono ?_
          rintro en w2 ⟨rfl, v, hw2, he2, hk2⟩
          have HW2 := Lib.hid hw2
          have HK2 := Lib.hid hk2
          have HE2 := Lib.hid he2
          have HOW2 := Lib.hid (show w2.ownsRow W.heap.size 79 1 u5 xs.length (xs.map (Value.int .u64)) from ownsRow_kp HOW.out hk2 (fun r hr => by have := HU.out r hr; have := blk_lt HE.out; rintro rfl; omega))
          have hlen : xs.length + 1 ≤ maxLen := by unfold maxLen; omega
          have hlen2 : (xs.length + 1) * 8 ≤ 140737488355328 := by omega
          have hsz2 : W.heap.size ≤ w2.heap.size := Nat.le_trans hsz hk2.size
          clear hw2 hk2 he2
          go_wp2_with (at_builtin; refine wpList_append_own _ rfl _ _ 43 rfl W.heap.size 79 i0 (.int .u64 0) 1 8 Tryd.underlying43 hi hz0 hz1 hz2 rfl (by decide) _ _ _ rfl (HOW2.out.alloc _) ⟨w2.heap.size, 0, none⟩ 1 1 [.int .u64 0] rfl rfl (cell_one_new _ _ _) (by simp [Value.oneCell']) hlen hlen2 (by simp; omega) ?_; intro v' w3 hown' hgrow _)
          have hf := row_fin HKP.out HK2.out (fun _ h => .inr h) HU.out (blk_lt HBS.out) (blk_lt HE.out) (HK2.out.blk HWB.out hne) HW2.out HE2.out hgrow
          have HF := Lib.hid hf
          have HO3 := Lib.hid hown'
          clear hf hown' hgrow
          go_roundw
          case rel => exact ⟨k + 1, _, _, some 5, _, by go_num, by omega, by simp [hxl], HST2.out, HF.out.1, HF.out.2.1, HF.out.2.2.1, by simpa using HO3.out, HF.out.2.2.2⟩
          case measure => simp [intOf]; omega
      · have hkn : k = n := by omega
        have ht1 : decide (k < n) = false := by simp; omega
        have hR : rowL n s1 [] = (xs, sK, none) := by rw [HST.out.1, hkn, Nat.sub_self]; rfl
        have hRF := rowF_of h4 HN.out hn3 HS1.out hR
        have HRF := Lib.hid hRF
        have HX := Lib.hid hxl
        obtain ⟨A, c, hA, hcap, hF⟩ := V_ints HOW.out
        subst hA
        obtain ⟨r, hr, hrl, hrz, _⟩ := norm_tells xs (by omega)
        have HR := Lib.hid hr
        have HF := Lib.hid hF
        clear hRF hxl hr hF hkn hR
        cases hz : lastZero xs with
        | true =>
          have hrl2 : decide (r.length < xs.length) = true := by simpa using hrz.2 hz
          have HZ := Lib.hid hz
          clear hz hrz hrl
          go_wp2_with fail
          refine (nat_Norm.calls (xs.length + 1) (fun k => W.heap.size ≤ k) A c xs r wr ⟨A, c, rfl, hcap, HF.out⟩ HR.out).mono ?_
          rintro en w2 ⟨v0, rfl, ⟨A2, c2, rfl, _, _⟩, hb⟩
          have hco2 : w2.cell? ⟨Bo, 0, none⟩ = some (.func (.func 51) #[] #[.pointer (some ⟨Be, 0, none⟩), .pointer (some ⟨Bs, 0, none⟩)]) := (hb.cell (World.block_lt_of_cell? _ _ hco)).trans hco
          have HB := Lib.hid hb
          clear hb
          go_wp2_with fail
          refine (odd_none 6 Be Bs sK hsK w2 (blk_below HWB.out HB.out) (blk_below HWE.out HB.out)).mono ?_
          rintro en w3 ⟨rfl, v, hv, he3, hk3⟩
          have hk4 : Kp (SB Bs Be) wr w3 := (Kp.of_below _ HB.out).trans (hk3.mono (fun _ h => .inr h))
          have HK4 := Lib.hid hk4
          have HV3 := Lib.hid hv
          have HE3 := Lib.hid he3
          have HK3 := Lib.hid hk3
          clear hk4 hv he3 hk3
          go_wp2
          go_ret
          rw [HRF.out, rowEnd_bad HZ.out]
          refine ⟨_, v, rfl, V_kp (S := SB Bs Be) (b := 0) ⟨A, c, rfl, hcap, HF.out⟩ HK4.out (fun k h => by rcases h with rfl | rfl; exact blk_lt HBS.out; exact blk_lt HE.out), HK3.out.blk (blk_below HWB.out HB.out) hne, HV3.out, HE3.out.mono (Nat.le_trans HKP.out.size HB.out.size), HKP.out.trans HK4.out⟩
        | false =>
          have hrl2 : decide (r.length < xs.length) = false := by
            have : ¬ r.length < xs.length := fun h => by rw [hrz.1 h] at hz; cases hz
            simpa using this
          have HZ := Lib.hid hz
          clear hz hrz hrl
          go_wp2_with fail
          refine (nat_Norm.calls (xs.length + 1) (fun k => W.heap.size ≤ k) A c xs r wr ⟨A, c, rfl, hcap, HF.out⟩ HR.out).mono ?_
          rintro en w2 ⟨v0, rfl, ⟨A2, c2, rfl, _, _⟩, hb⟩
          have HB := Lib.hid hb
          clear hb
          go_wp2
          go_ret
          rw [HRF.out, rowEnd_good HZ.out]
          have hk4 : Kp (SB Bs Be) wr w2 := Kp.of_below _ HB.out
          exact ⟨_, _, rfl, V_kp (S := SB Bs Be) (b := 0) ⟨A, c, rfl, hcap, HF.out⟩ hk4 (fun k h => by rcases h with rfl | rfl; exact blk_lt HBS.out; exact blk_lt HE.out), blk_below HWB.out HB.out, blk_below HWE.out HB.out, rfl, HKP.out.trans hk4⟩
    | some e =>
      obtain ⟨he5, hR⟩ := HST.out
      subst he5
      obtain ⟨x, hx⟩ := HEE.out.some_shape
      subst hx
      have hRF := rowF_of h4 HN.out hn3 HS1.out hR
      have HRF := Lib.hid hRF
      have HX := Lib.hid hxl
      obtain ⟨A, c, hA, hcap, hF⟩ := V_ints HOW.out
      subst hA
      obtain ⟨r, hr, hrl, hrz, _⟩ := norm_tells xs (by omega)
      have HR := Lib.hid hr
      have HF := Lib.hid hF
      clear hRF hxl hr hF hR
      by_cases hlt : k < n
      · have ht1 : decide (k < n) = true := by simp; omega
        cases hz : lastZero xs with
        | true =>
          have hrl2 : decide (r.length < xs.length) = true := by simpa using hrz.2 hz
          clear hz hrz hrl
          go_wp2_with fail
          refine (nat_Norm.calls (xs.length + 1) (fun k => W.heap.size ≤ k) A c xs r wr ⟨A, c, rfl, hcap, HF.out⟩ HR.out).mono ?_
          rintro en w2 ⟨v0, rfl, ⟨A2, c2, rfl, _, _⟩, hb⟩
          have hco2 : w2.cell? ⟨Bo, 0, none⟩ = some (.func (.func 51) #[] #[.pointer (some ⟨Be, 0, none⟩), .pointer (some ⟨Bs, 0, none⟩)]) := (hb.cell (World.block_lt_of_cell? _ _ hco)).trans hco
          have HB := Lib.hid hb
          clear hb
          go_wp2_with fail
          refine (odd_some 6 Be Bs x w2 (blk_below HWE.out HB.out)).mono ?_
          rintro en w3 ⟨rfl, rfl⟩
          have HK4 := Lib.hid (Kp.of_below (SB Bs Be) HB.out)
          go_wp2
          go_ret
          rw [HRF.out]
          exact ⟨_, _, rfl, V_kp (S := SB Bs Be) (b := 0) ⟨A, c, rfl, hcap, HF.out⟩ HK4.out (fun k h => by rcases h with rfl | rfl; exact blk_lt HBS.out; exact blk_lt HE.out), blk_below HWB.out HB.out, blk_below HWE.out HB.out, HEE.out.kept (Kp.of_below (fun _ => False) HB.out) (fun _ h => h.elim), HKP.out.trans HK4.out⟩
        | false =>
          have hrl2 : decide (r.length < xs.length) = false := by
            have : ¬ r.length < xs.length := fun h => by rw [hrz.1 h] at hz; cases hz
            simpa using this
          clear hz hrz hrl
          go_wp2_with fail
          refine (nat_Norm.calls (xs.length + 1) (fun k => W.heap.size ≤ k) A c xs r wr ⟨A, c, rfl, hcap, HF.out⟩ HR.out).mono ?_
          rintro en w2 ⟨v0, rfl, ⟨A2, c2, rfl, _, _⟩, hb⟩
          have HB := Lib.hid hb
          clear hb
          have HK4 := Lib.hid (Kp.of_below (SB Bs Be) HB.out)
          go_wp2
          go_ret
          rw [HRF.out]
          exact ⟨_, _, rfl, V_kp (S := SB Bs Be) (b := 0) ⟨A, c, rfl, hcap, HF.out⟩ HK4.out (fun k h => by rcases h with rfl | rfl; exact blk_lt HBS.out; exact blk_lt HE.out), blk_below HWB.out HB.out, blk_below HWE.out HB.out, HEE.out.kept (Kp.of_below (fun _ => False) HB.out) (fun _ h => h.elim), HKP.out.trans HK4.out⟩
      · have ht1 : decide (k < n) = false := by simp; omega
        cases hz : lastZero xs with
        | true =>
          have hrl2 : decide (r.length < xs.length) = true := by simpa using hrz.2 hz
          clear hz hrz hrl
          go_wp2_with fail
          refine (nat_Norm.calls (xs.length + 1) (fun k => W.heap.size ≤ k) A c xs r wr ⟨A, c, rfl, hcap, HF.out⟩ HR.out).mono ?_
          rintro en w2 ⟨v0, rfl, ⟨A2, c2, rfl, _, _⟩, hb⟩
          have hco2 : w2.cell? ⟨Bo, 0, none⟩ = some (.func (.func 51) #[] #[.pointer (some ⟨Be, 0, none⟩), .pointer (some ⟨Bs, 0, none⟩)]) := (hb.cell (World.block_lt_of_cell? _ _ hco)).trans hco
          have HB := Lib.hid hb
          clear hb
          go_wp2_with fail
          refine (odd_some 6 Be Bs x w2 (blk_below HWE.out HB.out)).mono ?_
          rintro en w3 ⟨rfl, rfl⟩
          have HK4 := Lib.hid (Kp.of_below (SB Bs Be) HB.out)
          go_wp2
          go_ret
          rw [HRF.out]
          exact ⟨_, _, rfl, V_kp (S := SB Bs Be) (b := 0) ⟨A, c, rfl, hcap, HF.out⟩ HK4.out (fun k h => by rcases h with rfl | rfl; exact blk_lt HBS.out; exact blk_lt HE.out), blk_below HWB.out HB.out, blk_below HWE.out HB.out, HEE.out.kept (Kp.of_below (fun _ => False) HB.out) (fun _ h => h.elim), HKP.out.trans HK4.out⟩
        | false =>
          have hrl2 : decide (r.length < xs.length) = false := by
            have : ¬ r.length < xs.length := fun h => by rw [hrz.1 h] at hz; cases hz
            simpa using this
          clear hz hrz hrl
          go_wp2_with fail
          refine (nat_Norm.calls (xs.length + 1) (fun k => W.heap.size ≤ k) A c xs r wr ⟨A, c, rfl, hcap, HF.out⟩ HR.out).mono ?_
          rintro en w2 ⟨v0, rfl, ⟨A2, c2, rfl, _, _⟩, hb⟩
          have HB := Lib.hid hb
          clear hb
          have HK4 := Lib.hid (Kp.of_below (SB Bs Be) HB.out)
          go_wp2
          go_ret
          rw [HRF.out]
          exact ⟨_, _, rfl, V_kp (S := SB Bs Be) (b := 0) ⟨A, c, rfl, hcap, HF.out⟩ HK4.out (fun k h => by rcases h with rfl | rfl; exact blk_lt HBS.out; exact blk_lt HE.out), blk_below HWB.out HB.out, blk_below HWE.out HB.out, HEE.out.kept (Kp.of_below (fun _ => False) HB.out) (fun _ h => h.elim), HKP.out.trans HK4.out⟩
theorem norm_nil (w : World) : Calls Tryd.prog 54 #[.slice none 0 0] w fun e w' => ∃ A c, e = .returned (.slice A 0 c) ∧ Below w.heap.size w w' := by
  have h := nat_Norm.calls 1 (fun _ => False) none 0 [] [] w (Kd.V_nil _ _ _ _ _) (by unfold nat_Norm.f nat_Norm.l0; rw [if_neg (by decide), if_pos (by decide), if_pos (by decide)]; rfl)
  refine Calls.mono h ?_
  rintro e w' ⟨v0, rfl, ⟨A, c, rfl, _, _⟩, hb⟩
  exact ⟨A, c, rfl, hb⟩
set_option maxHeartbeats 2000000 in
/-- row, where there are too many words. -/
theorem row_long (Be Bs Bo Bt : Nat) (s : ByteArray) (hs : s.size < 9223372036854775807) (h4 : 4 ≤ s.size) (hn : 4096 < numF (s.extract 0 4)) (W : World) (hbs : W.heap[Bs]? = some (.cells #[.string s] 9 (0, 0))) (hbe : W.heap[Be]? = some (.cells #[.nilIface] 74 (0, 0)))
    (he : Env W Bs Be Bo Bt) (hne : Bs ≠ Be) (h1 : Bo ≠ Bs) (h2 : Bo ≠ Be) (h3 : Bt ≠ Bs) (h5 : Bt ≠ Be) :
    Calls Tryd.prog 53 #[.pointer (some ⟨Bt, 0, none⟩), .pointer (some ⟨Bo, 0, none⟩), .pointer (some ⟨Be, 0, none⟩)] W fun en W' => ∃ v', en = .returned (.slice none 0 0) ∧
      W'.heap[Bs]? = some (.cells #[.string (s.extract 4 s.size)] 9 (0, 0)) ∧ W'.heap[Be]? = some (.cells #[v'] 74 (0, 0)) ∧ ErrIs W.heap.size W' v' (some 4) ∧ Kp (SB Bs Be) W W' := by
  have hct : W.cell? ⟨Bt, 0, none⟩ = some (.func (.func 52) #[] #[.pointer (some ⟨Bs, 0, none⟩), .pointer (some ⟨Bo, 0, none⟩), .pointer (some ⟨Be, 0, none⟩)]) := blk_cell he.bt 0
  have HS := Lib.hid hbs
  have HE := Lib.hid hbe
  have hbo0 := Lib.hid he.bo
  have HV := Lib.hid he
  clear hbs hbe he
  have hN := numF_range (s.extract 0 4)
  obtain ⟨n, hn2⟩ := Int.eq_ofNat_of_zero_le hN.1
  have hn3 : 4096 < n := by omega
  have hn4 : (n : Int) < 18446744073709551616 := by omega
  have HN := Lib.hid hn2
  clear hN hn hn2
  go_enter Tryd.func53, Tryd.ntmps53
  go_wp2_with fail
  refine (take_ok 4 Be Bs Bo s hs h4 W HS.out HE.out).mono ?_
  rw [HN.out]
  rintro en w1 ⟨rfl, hw1, hk1⟩
  have hs1 : (s.extract 4 s.size).size < 9223372036854775807 := by simp; omega
  obtain ⟨s1, hS1⟩ : ∃ s1, s.extract 4 s.size = s1 := ⟨_, rfl⟩
  rw [hS1] at hw1 hs1
  have HS1 := Lib.hid hS1
  have HW1 := Lib.hid hw1
  have HE1 := Lib.hid (hk1.blk HE.out (fun h => hne h.symm))
  have HK1 := Lib.hid hk1
  have hco : w1.cell? ⟨Bo, 0, none⟩ = some (.func (.func 51) #[] #[.pointer (some ⟨Be, 0, none⟩), .pointer (some ⟨Bs, 0, none⟩)]) := blk_cell (hk1.blk hbo0.out h1) 0
  have hnt2 : decide ((4096 : Int) < (n : Int)) = true := by simp; omega
  clear hS1 hw1 hk1 hct
  go_wp2_with fail
  refine (odd_none 4 Be Bs s1 hs1 w1 HW1.out HE1.out).mono ?_
  rintro en w2 ⟨rfl, v, hv, he2, hk2⟩
  obtain ⟨x, rfl⟩ := he2.some_shape
  have hcv : w2.cell? ⟨Be, 0, none⟩ = some (.iface 104 x) := blk_cell hv 0
  have HV2 := Lib.hid hv
  have HE2 := Lib.hid he2
  have HK2 := Lib.hid hk2
  clear hv he2 hk2
  have ht0 : decide (0 < n) = true := by simp; omega
  go_wp2
  refine wp_loop_rounds 1 ?_
  rw [rounds_succ]
  go_wp2_with fail
  refine (norm_nil _).mono ?_
  rintro en w3 ⟨A, c, rfl, hb⟩
  have HB := Lib.hid hb
  clear hb
  go_wp2
  go_ret
  rw [HS1.out]
  exact ⟨_, rfl, blk_below (HK2.out.blk HW1.out hne) HB.out, blk_below HV2.out HB.out, (HE2.out.kept (Kp.of_below (fun _ => False) HB.out) (fun _ h => h.elim)).mono HK1.out.size, (HK1.out.mono (fun _ h => .inl h)).trans ((HK2.out.mono (fun _ h => .inr h)).trans (Kp.of_below _ HB.out))⟩
set_option maxHeartbeats 2000000 in
/-- row, where the number of words is missing. -/
theorem row_short (Be Bs Bo Bt : Nat) (s : ByteArray) (hs : s.size < 9223372036854775807) (h4 : s.size < 4) (W : World) (hbs : W.heap[Bs]? = some (.cells #[.string s] 9 (0, 0))) (hbe : W.heap[Be]? = some (.cells #[.nilIface] 74 (0, 0)))
    (he : Env W Bs Be Bo Bt) (hne : Bs ≠ Be) (h1 : Bo ≠ Bs) (h2 : Bo ≠ Be) (h3 : Bt ≠ Bs) (h5 : Bt ≠ Be) :
    Calls Tryd.prog 53 #[.pointer (some ⟨Bt, 0, none⟩), .pointer (some ⟨Bo, 0, none⟩), .pointer (some ⟨Be, 0, none⟩)] W fun en W' => ∃ v', en = .returned (.slice none 0 0) ∧
      W'.heap[Bs]? = some (.cells #[.string s] 9 (0, 0)) ∧ W'.heap[Be]? = some (.cells #[v'] 74 (0, 0)) ∧ ErrIs W.heap.size W' v' (some 5) ∧ Kp (SB Bs Be) W W' := by
  have hct : W.cell? ⟨Bt, 0, none⟩ = some (.func (.func 52) #[] #[.pointer (some ⟨Bs, 0, none⟩), .pointer (some ⟨Bo, 0, none⟩), .pointer (some ⟨Be, 0, none⟩)]) := blk_cell he.bt 0
  have HS := Lib.hid hbs
  have HE := Lib.hid hbe
  have hbo0 := Lib.hid he.bo
  have HV := Lib.hid he
  clear hbs hbe he
  go_enter Tryd.func53, Tryd.ntmps53
  go_wp2_with fail
  refine (take_more 4 Be Bs Bo s hs h4 (by decide) W HS.out HE.out hbo0.out).mono ?_
  rintro en w2 ⟨rfl, v, hv, he2, hk2⟩
  obtain ⟨x, rfl⟩ := he2.some_shape
  have hcv : w2.cell? ⟨Be, 0, none⟩ = some (.iface 104 x) := blk_cell hv 0
  have HV2 := Lib.hid hv
  have HE2 := Lib.hid he2
  have HK2 := Lib.hid hk2
  clear hv he2 hk2 hct
  go_wp2
  refine wp_loop_rounds 1 ?_
  rw [rounds_succ]
  go_wp2_with fail
  refine (norm_nil _).mono ?_
  rintro en w3 ⟨A, c, rfl, hb⟩
  have HB := Lib.hid hb
  clear hb
  go_wp2
  go_ret
  exact ⟨_, rfl, blk_below (HK2.out.blk HS.out hne) HB.out, blk_below HV2.out HB.out, HE2.out.kept (Kp.of_below (fun _ => False) HB.out) (fun _ h => h.elim), (HK2.out.mono (fun _ h => .inr h)).trans (Kp.of_below _ HB.out)⟩
set_option maxHeartbeats 2000000 in
/-- row, where there is an error. -/
theorem row_err (Be Bs Bo Bt : Nat) (s : ByteArray) (hs : s.size < 9223372036854775807) (x : Value) (W : World) (hbs : W.heap[Bs]? = some (.cells #[.string s] 9 (0, 0))) (hbe : W.heap[Be]? = some (.cells #[.iface 104 x] 74 (0, 0)))
    (he : Env W Bs Be Bo Bt) :
    Calls Tryd.prog 53 #[.pointer (some ⟨Bt, 0, none⟩), .pointer (some ⟨Bo, 0, none⟩), .pointer (some ⟨Be, 0, none⟩)] W fun en W' => en = .returned (.slice none 0 0) ∧ Below W.heap.size W W' := by
  have hct : W.cell? ⟨Bt, 0, none⟩ = some (.func (.func 52) #[] #[.pointer (some ⟨Bs, 0, none⟩), .pointer (some ⟨Bo, 0, none⟩), .pointer (some ⟨Be, 0, none⟩)]) := blk_cell he.bt 0
  have hce : W.cell? ⟨Be, 0, none⟩ = some (.iface 104 x) := blk_cell hbe 0
  have HS := Lib.hid hbs
  have HE := Lib.hid hbe
  have hbo0 := Lib.hid he.bo
  clear hbs hbe he
  go_enter Tryd.func53, Tryd.ntmps53
  go_wp2_with fail
  refine (take_err 4 Be Bs Bo s hs (by decide) x W HS.out HE.out hbo0.out).mono ?_
  rintro en w2 ⟨rfl, rfl⟩
  go_wp2
  refine wp_loop_rounds 1 ?_
  rw [rounds_succ]
  go_wp2_with fail
  refine (norm_nil _).mono ?_
  rintro en w3 ⟨A, c, rfl, hb⟩
  have HB := Lib.hid hb
  clear hb
  go_wp2
  go_ret
  exact ⟨rfl, HB.out⟩
end Go.Proofs.YtbpobnlkfpjijaaDoorR.Pr
end
-- Pr43
section
namespace Go.Proofs.YtbpobnlkfpjijaaDoorR.Pr
open Go.RowKit Go.Proofs.YtbpobnlkfpjijaaDoorRW.PrintWords Go.Proofs.YtbpobnlkfpjijaaDoorRW.PrintLast Go.Proofs.YtbpobnlkfpjijaaDoorRW.PrintMore
attribute [local go_sem] max2_int min2_int max_two min_two max_three min_three max_four min_four   -- for this text's walks alone
set_option linter.unusedVariables false
set_option linter.unusedSimpArgs false

attribute [local go_sem] Go.Proofs.Aid.cell_set_row
def crc_ordered.f (k : Nat) (l0 : List Int) : Option (Bool) := if (l0.length : Int) ≤ 4096 then ((nat_Norm.f k l0).bind fun t151 => (some ((t151.length : Int) == (l0.length : Int)))) else (some false)
theorem crc_ordered.mono : ∀ a0 k, LeO (crc_ordered.f k a0) (crc_ordered.f (k + 1) a0) := by
  intro a0 k
  unfold crc_ordered.f
  repeat' first
      | (with_reducible exact nat_Norm.mono _ _)
      | (with_reducible exact LeO.refl _)
      | (with_reducible exact LeO.none _)
      | (with_reducible refine LeO.ite ?_ ?_)
      | (with_reducible refine LeO.bind ?_ (fun _ => ?_))
      | exact nat_Norm.mono _ _
      | exact LeO.none _
      | refine LeO.ite ?_ ?_
      | refine LeO.bind ?_ (fun _ => ?_)
set_option maxHeartbeats 8000000 in
set_option maxRecDepth 100000 in
theorem crc_ordered.calls (k : Nat) (A0 : Option Addr) (c0 : Nat) (l0 : List Int) (r : Bool) (w : World) (hr0 : Kd.C (Kd.int .u64) w A0 l0.length l0) (hc0 : l0.length ≤ c0) (h : crc_ordered.f k l0 = some r) :
    Calls Tryd.prog 71 #[.slice A0 l0.length c0] w fun e w' => e = .returned (.bool r) ∧ Below w.heap.size w w' := by
  have HR0 := Aside0.mk hr0
  have HC0 := Aside0.mk hc0
  clear hr0 hc0
  have HB := Aside0.mk (Below.refl w.heap.size w)
  have H : (if (l0.length : Int) ≤ 4096 then ((nat_Norm.f k l0).bind fun t151 => (some ((t151.length : Int) == (l0.length : Int)))) else (some false)) = some r := h
  clear h
  by_cases c2 : (l0.length : Int) ≤ 4096
  · rw [if_pos c2] at H
    have c2b0 : decide ((l0.length : Int) ≤ 4096) = true := decide_eq_true c2
    have c2b1 : decide (l0.length ≤ 4096) = true := decide_eq_true (by omega)
    clear c2
    replace H := Option.bind_eq_some_iff.mp H
    obtain ⟨t151, A30, H⟩ := H
    replace H : (some ((t151.length : Int) == (l0.length : Int))) = some r := H
    have A3 := Aside0.mk A30
    clear A30
    obtain rfl := Option.some.inj H
    go_enter Tryd.func71, Tryd.ntmps71
    go_wp2_with (first | (go_at_call 54; (with_reducible refine (nat_Norm.calls k (fun k_ => k_ < w.heap.size) _ _ l0 t151 _ ?side1 A3.out).mono ?_); (case side1 => exact Kd.V_mk HC0.out (Kd.F_below (Kd.C_F (Kd.heap_int .u64) HR0.out) (by repeat (first | (with_reducible first | exact HB.out | apply below_alloc | apply pw_below_drewN | apply below_drew1) | exact HB.out)))); rintro e w4 ⟨v152, rfl, ho0, hb⟩; have n0_ := Aside0.mk (Kd.V_lower (Kd.V_mono (ok' := fun k_ => True) ho0 (fun k_ hk_ => trivial)) (below_size (by repeat (first | (with_reducible first | exact HB.out | apply below_alloc | apply pw_below_drewN | apply below_drew1) | exact HB.out)))); have n1_ := Aside0.mk (below_step (by repeat (first | (with_reducible first | exact HB.out | apply below_alloc | apply pw_below_drewN | apply below_drew1) | exact HB.out)) hb); clear HB; have HO153 := n0_; have HB := n1_; clear n0_ n1_; (try clear hb); (try clear hb2); (try clear hk); (try clear hi); (try clear ho0); obtain ⟨Ao5, co5, eo5⟩ := Kd.V_slice HO153.out; subst eo5))
    go_ret
    exact ⟨by first | rfl | (simp [errW_none, errW_some] <;> rfl) | (simp [*, errW_none, errW_some] <;> rfl), by repeat (first | (with_reducible first | exact HB.out | apply below_alloc | apply pw_below_drewN | apply below_drew1) | exact HB.out)⟩
  · rw [if_neg c2] at H
    have c2b0 : decide ((l0.length : Int) ≤ 4096) = false := decide_eq_false c2
    have c2b1 : decide (l0.length ≤ 4096) = false := decide_eq_false (by omega)
    clear c2
    obtain rfl := Option.some.inj H
    go_enter Tryd.func71, Tryd.ntmps71
    go_wp2
    go_ret
    exact ⟨by first | rfl | (simp [errW_none, errW_some] <;> rfl) | (simp [*, errW_none, errW_some] <;> rfl), by repeat (first | (with_reducible first | exact HB.out | apply below_alloc | apply pw_below_drewN | apply below_drew1) | exact HB.out)⟩

end Go.Proofs.YtbpobnlkfpjijaaDoorR.Pr
end
-- Cm
section
namespace Go.Proofs.YtbpobnlkfpjijaaDoorR.Pr
open Go.RowKit Go.Proofs.YtbpobnlkfpjijaaDoorRW.PrintWords Go.Proofs.YtbpobnlkfpjijaaDoorRW.PrintLast Go.Proofs.YtbpobnlkfpjijaaDoorRW.PrintMore
set_option linter.unusedVariables false
set_option linter.unusedSimpArgs false
def oddB (n : Int) : Bool := decide (n < 0) || decide (2147483647 < n)
set_option maxHeartbeats 1000000 in
theorem may1_calls (n : Int) (w : World) : Calls Tryd.prog 69 #[.int .i64 n] w fun e w' => e = .returned (.bool (oddB n)) ∧ w' = w := by
  by_cases h : n < 0
  · have h1 : decide (n < 0) = true := by simp [h]
    go_enter Tryd.func69, Tryd.ntmps69
    go_wp2
    go_ret
    exact ⟨by simp [oddB, h], rfl⟩
  · have h1 : decide (n < 0) = false := by simp; omega
    have h2 : oddB n = decide (2147483647 < n) := by simp [oddB, h1]
    have H2 := Lib.hid h2
    clear h2
    go_enter Tryd.func69, Tryd.ntmps69
    go_wp2
    go_ret
    exact ⟨by rw [H2.out]; first | rfl | simp, rfl⟩
set_option maxRecDepth 100000 in
set_option maxHeartbeats 2000000 in
theorem index_calls (b : Nat) (a0 a1 a2 a3 : Int) (w : World) (hb : w.heap[b]? = some (.cells #[.int .i64 a0, .int .i64 a1, .int .i64 a2, .int .i64 a3] 3 (0, 0))) :
    Calls Tryd.prog 77 #[.slice (some ⟨b, 0, none⟩) 4 4, .func (.func 69) #[] #[]] w fun e w' => ∃ r : Int, e = .returned (.int .i64 r) ∧ decide (0 ≤ r) = (oddB a0 || oddB a1 || oddB a2 || oddB a3) ∧ w' = w := by
  have hc0 : w.cell? ⟨b, 0, none⟩ = some (.int .i64 a0) := blk_cell hb 0
  have hc1 : w.cell? ⟨b, 1, none⟩ = some (.int .i64 a1) := blk_cell hb 1
  have hc2 : w.cell? ⟨b, 2, none⟩ = some (.int .i64 a2) := blk_cell hb 2
  have hc3 : w.cell? ⟨b, 3, none⟩ = some (.int .i64 a3) := blk_cell hb 3
  clear hb
  go_enter Tryd.func77, Tryd.ntmps77
  go_wp2
  refine wp_loop_rounds 5 ?_
  rw [rounds_succ]
  cases h0 : oddB a0 with
  | true =>
    have H0 := Lib.hid h0
    clear h0
    go_wp2_with fail
    refine (may1_calls a0 _).mono ?_
    rw [H0.out]
    rintro e w' ⟨rfl, rfl⟩
    go_wp2
    go_ret
    exact ⟨0, rfl, by simp [H0.out], rfl⟩
  | false =>
    have H0 := Lib.hid h0
    clear h0
    go_wp2_with fail
    refine (may1_calls a0 _).mono ?_
    rw [H0.out]
    rintro e w' ⟨rfl, rfl⟩
    go_wp2
    rw [rounds_succ]
    cases h1 : oddB a1 with
    | true =>
      have H1 := Lib.hid h1
      clear h1
      go_wp2_with fail
      refine (may1_calls a1 _).mono ?_
      rw [H1.out]
      rintro e w' ⟨rfl, rfl⟩
      go_wp2
      go_ret
      exact ⟨1, rfl, by simp [H0.out, H1.out], rfl⟩
    | false =>
      have H1 := Lib.hid h1
      clear h1
      go_wp2_with fail
      refine (may1_calls a1 _).mono ?_
      rw [H1.out]
      rintro e w' ⟨rfl, rfl⟩
      go_wp2
      rw [rounds_succ]
      cases h2 : oddB a2 with
      | true =>
        have H2 := Lib.hid h2
        clear h2
        go_wp2_with fail
        refine (may1_calls a2 _).mono ?_
        rw [H2.out]
        rintro e w' ⟨rfl, rfl⟩
        go_wp2
        go_ret
        exact ⟨2, rfl, by simp [H0.out, H1.out, H2.out], rfl⟩
      | false =>
        have H2 := Lib.hid h2
        clear h2
        go_wp2_with fail
        refine (may1_calls a2 _).mono ?_
        rw [H2.out]
        rintro e w' ⟨rfl, rfl⟩
        go_wp2
        rw [rounds_succ]
        cases h3 : oddB a3 with
        | true =>
          have H3 := Lib.hid h3
          clear h3
          go_wp2_with fail
          refine (may1_calls a3 _).mono ?_
          rw [H3.out]
          rintro e w' ⟨rfl, rfl⟩
          go_wp2
          go_ret
          exact ⟨3, rfl, by simp [H0.out, H1.out, H2.out, H3.out], rfl⟩
        | false =>
          have H3 := Lib.hid h3
          clear h3
          go_wp2_with fail
          refine (may1_calls a3 _).mono ?_
          rw [H3.out]
          rintro e w' ⟨rfl, rfl⟩
          go_wp2
          rw [rounds_succ]
          go_wp2
          go_ret
          exact ⟨-1, rfl, by simp [H0.out, H1.out, H2.out, H3.out], rfl⟩
set_option maxHeartbeats 1000000 in
theorem contains_calls (b : Nat) (a0 a1 a2 a3 : Int) (w : World) (hb : w.heap[b]? = some (.cells #[.int .i64 a0, .int .i64 a1, .int .i64 a2, .int .i64 a3] 3 (0, 0))) :
    Calls Tryd.prog 70 #[.slice (some ⟨b, 0, none⟩) 4 4, .func (.func 69) #[] #[]] w fun e w' => e = .returned (.bool (oddB a0 || oddB a1 || oddB a2 || oddB a3)) ∧ w' = w := by
  have HI := Lib.hid (index_calls b a0 a1 a2 a3 w hb)
  clear hb
  go_enter Tryd.func70, Tryd.ntmps70
  go_wp2_with fail
  refine HI.out.mono ?_
  rintro e w' ⟨r, rfl, hr, rfl⟩
  have HR := Lib.hid hr
  clear hr
  go_wp2
  go_ret
  exact ⟨by rw [← HR.out]; rfl, rfl⟩
/-- Is a row in order, and not too long? -/
def ordB (l : List Int) : Bool := decide (l.length ≤ 4096) && !lastZero l
theorem ordered_crc (l : List Int) (hl : l.length < 9223372036854775807) : crc_ordered.f (l.length + 1) l = some (ordB l) := by
  unfold crc_ordered.f ordB
  obtain ⟨r, hr, hrl, hz, _⟩ := norm_tells l hl
  by_cases h : l.length ≤ 4096
  · rw [if_pos (by omega), hr, Option.bind_some, decide_eq_true h, Bool.true_and]
    congr 1
    cases hb : lastZero l with
    | true => have := hz.2 hb; simp; omega
    | false =>
      have : ¬ r.length < l.length := fun h => by rw [hz.1 h] at hb; cases hb
      simp; omega
  · rw [if_neg (by omega), decide_eq_false h]
    rfl
theorem ordered_calls (A : Option Addr) (c : Nat) (l : List Int) (w : World) (hC : Kd.C (Kd.int .u64) w A l.length l) (hc : l.length ≤ c) (hl : l.length < 9223372036854775807) :
    Calls Tryd.prog 71 #[.slice A l.length c] w fun e w' => e = .returned (.bool (ordB l)) ∧ Below w.heap.size w w' := crc_ordered.calls (l.length + 1) A c l _ w hC hc (ordered_crc l hl)
def mayF (c d g f t : Int) (P Q T : List Int) : Bool := decide (0 ≤ c) && decide (c ≤ 255) && !(oddB d || oddB g || oddB f || oddB t) && ordB P && ordB Q && ordB T
set_option maxRecDepth 100000 in
set_option maxHeartbeats 4000000 in
theorem may_calls (c d g f t : Int) (AP AQ AT : Option Addr) (cP cQ cT : Nat) (P Q T : List Int) (m : Bool) (w : World) (hP : Kd.C (Kd.int .u64) w AP P.length P) (hcP : P.length ≤ cP) (hQ : Kd.C (Kd.int .u64) w AQ Q.length Q) (hcQ : Q.length ≤ cQ) (hT : Kd.C (Kd.int .u64) w AT T.length T) (hcT : T.length ≤ cT)
    (lP : P.length < 9223372036854775807) (lQ : Q.length < 9223372036854775807) (lT : T.length < 9223372036854775807) :
    Calls Tryd.prog 55 #[.agg #[.int .i64 c, .int .i64 d, .int .i64 g, .int .i64 f, .int .i64 t, .slice AP P.length cP, .slice AQ Q.length cQ, .slice AT T.length cT, .bool m]] w fun e w' => e = .returned (.bool (mayF c d g f t P Q T)) ∧ Below w.heap.size w w' := by
  have HP := Lib.hid hP
  have HQ := Lib.hid hQ
  have HT := Lib.hid hT
  clear hP hQ hT
  by_cases h0 : 0 ≤ c
  · by_cases h1 : c ≤ 255
    · have ht0 : decide (0 ≤ c) = true := by simp [h0]
      have ht1 : decide (c ≤ 255) = true := by simp [h1]
      obtain ⟨X, hX⟩ : ∃ X, (oddB d || oddB g || oddB f || oddB t) = X := ⟨_, rfl⟩
      have hm : mayF c d g f t P Q T = (!X && ordB P && ordB Q && ordB T) := by unfold mayF; rw [ht0, ht1, hX]; rfl
      have HX := Lib.hid hX
      have HM := Lib.hid hm
      clear hX hm
      go_enter Tryd.func55, Tryd.ntmps55
      go_wp2_with fail
      refine (contains_calls (w.heap.size + 1) d g f t _ (blk_new_at _ _ (by simp))).mono ?_
      rw [HX.out]
      rintro e w2 ⟨rfl, rfl⟩
      obtain ⟨W, hW⟩ : ∃ W, (w.alloc (.cells #[.int .i64 c, .int .i64 d, .int .i64 g, .int .i64 f, .int .i64 t, .slice AP P.length cP, .slice AQ Q.length cQ, .slice AT T.length cT, .bool m] 63)).alloc (.cells #[.int .i64 d, .int .i64 g, .int .i64 f, .int .i64 t] 3) = W := ⟨_, rfl⟩
      have hB : Below w.heap.size w W := by rw [← hW]; exact ((Below.refl _ w).alloc (Nat.le_refl _) _).alloc (by simp) _
      have hblk : W.heap[w.heap.size]? = some (.cells #[.int .i64 c, .int .i64 d, .int .i64 g, .int .i64 f, .int .i64 t, .slice AP P.length cP, .slice AQ Q.length cQ, .slice AT T.length cT, .bool m] 63 (0, 0)) := by rw [← hW]; exact blk_alloc (blk_new _ _) _
      have hc5 : W.cell? ⟨w.heap.size, 5, none⟩ = some (.slice AP P.length cP) := blk_cell hblk 5
      have HBLK := Lib.hid hblk
      have HB := Lib.hid hB
      rw [hW]
      clear hW hblk hB
      cases X with
      | true =>
        go_wp2
        go_ret
        exact ⟨by rw [HM.out]; rfl, HB.out⟩
      | false =>
        cases hP : ordB P with
        | false =>
          have HO := Lib.hid hP
          clear hP
          go_wp2_with fail
          refine (ordered_calls AP cP P _ (Kd.C_below HP.out HB.out) hcP lP).mono ?_
          rw [HO.out]
          rintro e w3 ⟨rfl, hb3⟩
          go_wp2
          go_ret
          exact ⟨by rw [HM.out, HO.out]; rfl, below_step HB.out hb3⟩
        | true =>
          have HO := Lib.hid hP
          clear hP
          go_wp2_with fail
          refine (ordered_calls AP cP P _ (Kd.C_below HP.out HB.out) hcP lP).mono ?_
          rw [HO.out]
          rintro e w3 ⟨rfl, hb3⟩
          have HBLK3 := Lib.hid (blk_below HBLK.out hb3)
          have HB3 := Lib.hid (below_step HB.out hb3)
          have hc6 : w3.cell? ⟨w.heap.size, 6, none⟩ = some (.slice AQ Q.length cQ) := blk_cell HBLK3.out 6
          clear hb3 hc5
          cases hQ : ordB Q with
          | false =>
            have HOQ := Lib.hid hQ
            clear hQ
            go_wp2_with fail
            refine (ordered_calls AQ cQ Q _ (Kd.C_below HQ.out HB3.out) hcQ lQ).mono ?_
            rw [HOQ.out]
            rintro e w4 ⟨rfl, hb4⟩
            go_wp2
            go_ret
            exact ⟨by rw [HM.out, HO.out, HOQ.out]; rfl, below_step HB3.out hb4⟩
          | true =>
            have HOQ := Lib.hid hQ
            clear hQ
            go_wp2_with fail
            refine (ordered_calls AQ cQ Q _ (Kd.C_below HQ.out HB3.out) hcQ lQ).mono ?_
            rw [HOQ.out]
            rintro e w4 ⟨rfl, hb4⟩
            have HBLK4 := Lib.hid (blk_below HBLK3.out hb4)
            have HB4 := Lib.hid (below_step HB3.out hb4)
            have hc7 : w4.cell? ⟨w.heap.size, 7, none⟩ = some (.slice AT T.length cT) := blk_cell HBLK4.out 7
            clear hb4 hc6
            go_wp2_with fail
            refine (ordered_calls AT cT T _ (Kd.C_below HT.out HB4.out) hcT lT).mono ?_
            rintro e w5 ⟨rfl, hb5⟩
            obtain ⟨Y, hY⟩ : ∃ Y, ordB T = Y := ⟨_, rfl⟩
            rw [hY]
            have HY := Lib.hid hY
            clear hY
            go_wp2
            go_ret
            exact ⟨by rw [HM.out, HO.out, HOQ.out, HY.out]; rfl, below_step HB4.out hb5⟩
    · have ht0 : decide (0 ≤ c) = true := by simp [h0]
      have ht1 : decide (c ≤ 255) = false := by simp; omega
      have HM := Lib.hid (show mayF c d g f t P Q T = false by unfold mayF; rw [ht0, ht1]; rfl)
      go_enter Tryd.func55, Tryd.ntmps55
      go_wp2
      go_ret
      exact ⟨by rw [HM.out]; rfl, ((Below.refl _ w).alloc (Nat.le_refl _) _).alloc (by simp) _⟩
  · have ht0 : decide (0 ≤ c) = false := by simp; omega
    have HM := Lib.hid (show mayF c d g f t P Q T = false by unfold mayF; rw [ht0]; rfl)
    go_enter Tryd.func55, Tryd.ntmps55
    go_wp2
    go_ret
    exact ⟨by rw [HM.out]; rfl, ((Below.refl _ w).alloc (Nat.le_refl _) _).alloc (by simp) _⟩
end Go.Proofs.YtbpobnlkfpjijaaDoorR.Pr
end
-- Cp
section
namespace Go.Proofs.YtbpobnlkfpjijaaDoorR.Pr
open Go.RowKit Go.Proofs.YtbpobnlkfpjijaaDoorRW.PrintWords Go.Proofs.YtbpobnlkfpjijaaDoorRW.PrintLast Go.Proofs.YtbpobnlkfpjijaaDoorRW.PrintMore
set_option linter.unusedVariables false
set_option linter.unusedSimpArgs false
def takeS (m : Nat) (s : ByteArray) : Option Int → Int × ByteArray × Option Int
  | some e => (0, s, some e)
  | none => if m ≤ s.size then (numF (s.extract 0 m), s.extract m s.size, none) else (0, s, some 5)
def rowS (s : ByteArray) : Option Int → List Int × ByteArray × Option Int
  | some e => ([], s, some e)
  | none => rowF s
def oddS (e : Int) : Option Int → Option Int
  | none => some e
  | some x => some x
theorem take_calls (m : Nat) (Be Bs Bo base : Nat) (s : ByteArray) (err : Option Int) (ve : Value) (hs : s.size < 9223372036854775807) (hm : m ≤ 8) (W : World) (hbs : W.heap[Bs]? = some (.cells #[.string s] 9 (0, 0))) (hbe : W.heap[Be]? = some (.cells #[ve] 74 (0, 0)))
    (hee : ErrIs base W ve err) (hbo : W.heap[Bo]? = some (.cells #[.func (.func 51) #[] #[.pointer (some ⟨Be, 0, none⟩), .pointer (some ⟨Bs, 0, none⟩)]] 105 (0, 0))) (hne : Bs ≠ Be) (hb : base ≤ W.heap.size) (h1 : Bs < base) (h2 : Be < base) :
    Calls Tryd.prog 52 #[.int .i64 (m : Int), .pointer (some ⟨Bs, 0, none⟩), .pointer (some ⟨Bo, 0, none⟩), .pointer (some ⟨Be, 0, none⟩)] W fun en W' => en = .returned (.int .u64 (takeS m s err).1) ∧
      ∃ v', W'.heap[Bs]? = some (.cells #[.string (takeS m s err).2.1] 9 (0, 0)) ∧ W'.heap[Be]? = some (.cells #[v'] 74 (0, 0)) ∧ ErrIs base W' v' (takeS m s err).2.2 ∧ Kp (SB Bs Be) W W' := by
  cases err with
  | none =>
    have hv : ve = .nilIface := hee
    subst hv
    by_cases h : m ≤ s.size
    · have e : takeS m s none = (numF (s.extract 0 m), s.extract m s.size, none) := by unfold takeS; rw [if_pos h]
      rw [e]
      refine (take_ok m Be Bs Bo s hs h W hbs hbe).mono ?_
      rintro en w' ⟨rfl, hw, hk⟩
      exact ⟨rfl, _, hw, hk.blk hbe (fun h => hne h.symm), rfl, hk.mono (fun _ h => .inl h)⟩
    · have e : takeS m s none = (0, s, some 5) := by unfold takeS; rw [if_neg h]
      rw [e]
      refine (take_more m Be Bs Bo s hs (by omega) hm W hbs hbe hbo).mono ?_
      rintro en w' ⟨rfl, v, hw, he, hk⟩
      exact ⟨rfl, _, hk.blk hbs hne, hw, he.mono hb, hk.mono (fun _ h => .inr h)⟩
  | some x =>
    obtain ⟨y, rfl⟩ := hee.some_shape
    refine (take_err m Be Bs Bo s hs hm y W hbs hbe hbo).mono ?_
    rintro en w' ⟨rfl, rfl⟩
    exact ⟨rfl, _, hbs, hbe, hee, Kp.refl _ _⟩
theorem odd_calls (e : Int) (Be Bs base : Nat) (s : ByteArray) (err : Option Int) (ve : Value) (hs : s.size < 9223372036854775807) (W : World) (hbs : W.heap[Bs]? = some (.cells #[.string s] 9 (0, 0))) (hbe : W.heap[Be]? = some (.cells #[ve] 74 (0, 0)))
    (hee : ErrIs base W ve err) (hb : base ≤ W.heap.size) :
    Calls Tryd.prog 51 #[.int .i64 e, .pointer (some ⟨Be, 0, none⟩), .pointer (some ⟨Bs, 0, none⟩)] W fun en W' => en = .returned (.tuple #[]) ∧
      ∃ v', W'.heap[Be]? = some (.cells #[v'] 74 (0, 0)) ∧ ErrIs base W' v' (oddS e err) ∧ Kp (fun k => k = Be) W W' := by
  cases err with
  | none =>
    have hv : ve = .nilIface := hee
    subst hv
    refine (odd_none e Be Bs s hs W hbs hbe).mono ?_
    rintro en w' ⟨rfl, v, hv, he, hk⟩
    exact ⟨rfl, v, hv, he.mono hb, hk⟩
  | some x =>
    obtain ⟨y, rfl⟩ := hee.some_shape
    refine (odd_some e Be Bs y W hbe).mono ?_
    rintro en w' ⟨rfl, rfl⟩
    exact ⟨rfl, _, hbe, hee, Kp.refl _ _⟩
theorem row_calls (Be Bs Bo Bt base : Nat) (s : ByteArray) (err : Option Int) (ve : Value) (hs : s.size < 9223372036854775807) (W : World) (hbs : W.heap[Bs]? = some (.cells #[.string s] 9 (0, 0))) (hbe : W.heap[Be]? = some (.cells #[ve] 74 (0, 0)))
    (hee : ErrIs base W ve err) (he : Env W Bs Be Bo Bt) (hne : Bs ≠ Be) (h1 : Bo ≠ Bs) (h2 : Bo ≠ Be) (h3 : Bt ≠ Bs) (h5 : Bt ≠ Be) (hb : base ≤ W.heap.size) :
    Calls Tryd.prog 53 #[.pointer (some ⟨Bt, 0, none⟩), .pointer (some ⟨Bo, 0, none⟩), .pointer (some ⟨Be, 0, none⟩)] W fun en W' => ∃ v0 v', en = .returned v0 ∧
      Kd.V (Kd.int .u64) 79 W' W.heap.size (fun k => W.heap.size ≤ k) v0 (rowS s err).1 ∧ W'.heap[Bs]? = some (.cells #[.string (rowS s err).2.1] 9 (0, 0)) ∧ W'.heap[Be]? = some (.cells #[v'] 74 (0, 0)) ∧ ErrIs base W' v' (rowS s err).2.2 ∧ Kp (SB Bs Be) W W' := by
  cases err with
  | none =>
    have hv : ve = .nilIface := hee
    subst hv
    show Calls Tryd.prog 53 _ W fun en W' => ∃ v0 v', en = .returned v0 ∧ Kd.V (Kd.int .u64) 79 W' W.heap.size (fun k => W.heap.size ≤ k) v0 (rowF s).1 ∧ W'.heap[Bs]? = some (.cells #[.string (rowF s).2.1] 9 (0, 0)) ∧ W'.heap[Be]? = some (.cells #[v'] 74 (0, 0)) ∧ ErrIs base W' v' (rowF s).2.2 ∧ Kp (SB Bs Be) W W'
    by_cases h4 : s.size < 4
    · have e : rowF s = ([], s, some 5) := by unfold rowF; rw [if_pos h4]
      rw [e]
      refine (row_short Be Bs Bo Bt s hs h4 W hbs hbe he hne h1 h2 h3 h5).mono ?_
      rintro en w' ⟨v, rfl, hw, hv, hx, hk⟩
      exact ⟨_, _, rfl, Kd.V_nil _ _ _ _ _, hw, hv, hx.mono hb, hk⟩
    · by_cases hn : numF (s.extract 0 4) ≤ 4096
      · refine (row_good Be Bs Bo Bt s hs (by omega) hn W hbs hbe he hne h1 h2 h3 h5).mono ?_
        rintro en w' ⟨v0, v, rfl, h0, hw, hv, hx, hk⟩
        exact ⟨_, _, rfl, h0, hw, hv, hx.mono hb, hk⟩
      · have e : rowF s = ([], s.extract 4 s.size, some 4) := by unfold rowF; rw [if_neg h4, if_pos (by omega)]
        rw [e]
        refine (row_long Be Bs Bo Bt s hs (by omega) (by omega) W hbs hbe he hne h1 h2 h3 h5).mono ?_
        rintro en w' ⟨v, rfl, hw, hv, hx, hk⟩
        exact ⟨_, _, rfl, Kd.V_nil _ _ _ _ _, hw, hv, hx.mono hb, hk⟩
  | some x =>
    obtain ⟨y, rfl⟩ := hee.some_shape
    refine (row_err Be Bs Bo Bt s hs y W hbs hbe he).mono ?_
    rintro en w' ⟨rfl, hw⟩
    exact ⟨_, _, rfl, Kd.V_nil _ _ _ _ _, blk_below hbs hw, blk_below hbe hw, hee.kept (Kp.of_below (fun _ => False) hw) (fun _ h => h.elim), Kp.of_below _ hw⟩
theorem extract_size (s : ByteArray) (a : Nat) : (s.extract a s.size).size ≤ s.size := by simp
theorem takeS_size (m : Nat) (s : ByteArray) (err : Option Int) : (takeS m s err).2.1.size ≤ s.size := by
  cases err with
  | none =>
    by_cases h : m ≤ s.size
    · have e : takeS m s none = (numF (s.extract 0 m), s.extract m s.size, none) := by unfold takeS; rw [if_pos h]
      rw [e]; exact extract_size s m
    · have e : takeS m s none = (0, s, some 5) := by unfold takeS; rw [if_neg h]
      rw [e]; exact Nat.le_refl _
  | some e => exact Nat.le_refl _
theorem rowL_size : ∀ (d : Nat) (s : ByteArray) (xs : List Int), (rowL d s xs).2.1.size ≤ s.size
  | 0, s, xs => Nat.le_refl _
  | d + 1, s, xs => by
    unfold rowL
    split
    · exact Nat.le_trans (rowL_size d _ _) (extract_size s 8)
    · exact Nat.le_refl _
theorem rowEnd_size : ∀ p : List Int × ByteArray × Option Int, (rowEnd p).2.1 = p.2.1 ∧ (rowEnd p).1 = p.1
  | (xs, s, some e) => ⟨rfl, rfl⟩
  | (xs, s, none) => by
    cases h : lastZero xs with
    | true => rw [rowEnd_bad h]; exact ⟨rfl, rfl⟩
    | false => rw [rowEnd_good h]; exact ⟨rfl, rfl⟩
theorem rowF_size (s : ByteArray) : (rowF s).2.1.size ≤ s.size := by
  unfold rowF
  split
  · exact Nat.le_refl _
  · split
    · exact extract_size s 4
    · rw [(rowEnd_size _).1]
      exact Nat.le_trans (rowL_size _ _ _) (extract_size s 4)
theorem rowS_size (s : ByteArray) (err : Option Int) : (rowS s err).2.1.size ≤ s.size := by
  cases err with
  | none => exact rowF_size s
  | some e => exact Nat.le_refl _
theorem rowL_len : ∀ (d : Nat) (s : ByteArray) (xs : List Int), (rowL d s xs).1.length ≤ xs.length + d
  | 0, s, xs => Nat.le_refl _
  | d + 1, s, xs => by
    unfold rowL
    split
    · have := rowL_len d (s.extract 8 s.size) (xs ++ [numF (s.extract 0 8)])
      simp at this ⊢
      omega
    · simp
theorem rowS_len (s : ByteArray) (err : Option Int) : (rowS s err).1.length ≤ 4097 := by
  cases err with
  | some e => simp [rowS]
  | none =>
    show (rowF s).1.length ≤ 4097
    unfold rowF
    split
    · simp
    · split
      · simp
      · rw [(rowEnd_size _).2]
        have := rowL_len (numF (s.extract 0 4)).toNat (s.extract 4 s.size) []
        have h2 := numF_range (s.extract 0 4)
        simp at this
        omega
/-- What the body of crc.parts holds. -/
structure St (w W : World) (Bs Bz Be Bo Bt Br : Nat) (s : ByteArray) (err : Option Int) (ve : Value) (cs : Array Value) : Prop where
  ly : Bs = w.heap.size ∧ Bz = w.heap.size + 1 ∧ Be = w.heap.size + 2 ∧ Bo = w.heap.size + 3 ∧ Bt = w.heap.size + 4 ∧ Br = w.heap.size + 5
  below : Below w.heap.size w W
  size : w.heap.size + 6 ≤ W.heap.size
  hs : s.size < 9223372036854775807
  bs : W.heap[Bs]? = some (.cells #[.string s] 9 (0, 0))
  bz : W.heap[Bz]? = some (.cells #[.int .i64 0, .int .i64 0, .int .i64 0, .int .i64 0, .int .i64 0, .slice none 0 0, .slice none 0 0, .slice none 0 0, .bool false] 63 (0, 0))
  be : W.heap[Be]? = some (.cells #[ve] 74 (0, 0))
  ee : ErrIs (w.heap.size + 6) W ve err
  env : Env W Bs Be Bo Bt
  br : W.heap[Br]? = some (.cells cs 63 (0, 0))
namespace St
variable {w W W' : World} {Bs Bz Be Bo Bt Br : Nat} {s s' : ByteArray} {err err' : Option Int} {ve ve' : Value} {cs : Array Value}
theorem kp (h : St w W Bs Bz Be Bo Bt Br s err ve cs) (hk : Kp (SB Bs Be) W W') (h1 : W'.heap[Bs]? = some (.cells #[.string s'] 9 (0, 0))) (h2 : W'.heap[Be]? = some (.cells #[ve'] 74 (0, 0))) (h3 : ErrIs (w.heap.size + 6) W' ve' err') (hs : s'.size ≤ s.size) :
    St w W' Bs Bz Be Bo Bt Br s' err' ve' cs := by
  have hl := h.ly
  exact ⟨h.ly, h.below.trans ⟨hk.os, hk.tape, hk.output, hk.size, fun i hi => hk.block i (by have := h.size; omega) (fun hs => by rcases hs with e | e <;> omega)⟩, Nat.le_trans h.size hk.size, Nat.lt_of_le_of_lt hs h.hs, h1,
    hk.blk h.bz (fun hs => by rcases hs with e | e <;> omega), h2, h3, h.env.kept hk (fun hs => by rcases hs with e | e <;> omega) (fun hs => by rcases hs with e | e <;> omega), hk.blk h.br (fun hs => by rcases hs with e | e <;> omega)⟩
theorem set (h : St w W Bs Bz Be Bo Bt Br s err ve cs) (j : Nat) (v : Value) : St w (W.setCell ⟨Br, j, none⟩ v) Bs Bz Be Bo Bt Br s err ve (cs.setIfInBounds j v) := by
  have hl := h.ly
  have hf : ∀ g o, g ≠ Br → W.heap[g]? = some o → (W.setCell ⟨Br, j, none⟩ v).heap[g]? = some o := fun g o hg hh => (Below.heap_setCell W _ v g (by show g ≠ Br; exact hg)).trans hh
  refine ⟨h.ly, h.below.setCell (by show w.heap.size ≤ Br; omega) _, by simpa [World.setCell] using h.size, h.hs, hf _ _ (by omega) h.bs, hf _ _ (by omega) h.bz, hf _ _ (by omega) h.be, ?_, ⟨hf _ _ (by omega) h.env.bo, hf _ _ (by omega) h.env.bt⟩, blk_put h.br j v rfl⟩
  have he := h.ee
  cases err with
  | none => exact he
  | some e =>
    obtain ⟨n, b, hv, hb, hh⟩ := he
    exact ⟨n, b, hv, hb, hf b _ (by omega) hh⟩
theorem below' (h : St w W Bs Bz Be Bo Bt Br s err ve cs) (hb : Below W.heap.size W W') : St w W' Bs Bz Be Bo Bt Br s err ve cs :=
  h.kp (Kp.of_below _ hb) (blk_below h.bs hb) (blk_below h.be hb) (h.ee.kept (Kp.of_below (fun _ => False) hb) (fun _ h => h.elim)) (Nat.le_refl _)
theorem alloc (h : St w W Bs Bz Be Bo Bt Br s err ve cs) (o : Obj) : St w (W.alloc o) Bs Bz Be Bo Bt Br s err ve cs := h.below' ((Below.refl _ W).alloc (Nat.le_refl _) o)
theorem take (h : St w W Bs Bz Be Bo Bt Br s err ve cs) (m : Nat) (hm : m ≤ 8) :
    Calls Tryd.prog 52 #[.int .i64 (m : Int), .pointer (some ⟨Bs, 0, none⟩), .pointer (some ⟨Bo, 0, none⟩), .pointer (some ⟨Be, 0, none⟩)] W fun en W' => en = .returned (.int .u64 (takeS m s err).1) ∧ Kp (SB Bs Be) W W' ∧
      ∃ v', St w W' Bs Bz Be Bo Bt Br (takeS m s err).2.1 (takeS m s err).2.2 v' cs := by
  have hl := h.ly
  refine (take_calls m Be Bs Bo (w.heap.size + 6) s err ve h.hs hm W h.bs h.be h.ee h.env.bo (by omega) h.size (by omega) (by omega)).mono ?_
  rintro en W' ⟨rfl, v', h1, h2, h3, hk⟩
  exact ⟨rfl, hk, v', h.kp hk h1 h2 h3 (takeS_size _ _ _)⟩
theorem odd (h : St w W Bs Bz Be Bo Bt Br s err ve cs) (e : Int) :
    Calls Tryd.prog 51 #[.int .i64 e, .pointer (some ⟨Be, 0, none⟩), .pointer (some ⟨Bs, 0, none⟩)] W fun en W' => en = .returned (.tuple #[]) ∧ Kp (SB Bs Be) W W' ∧
      ∃ v', St w W' Bs Bz Be Bo Bt Br s (oddS e err) v' cs := by
  have hl := h.ly
  refine (odd_calls e Be Bs (w.heap.size + 6) s err ve h.hs W h.bs h.be h.ee h.size).mono ?_
  rintro en W' ⟨rfl, v', h2, h3, hk⟩
  have hk2 : Kp (SB Bs Be) W W' := hk.mono (fun _ h => .inr h)
  exact ⟨rfl, hk2, v', h.kp hk2 (hk.blk h.bs (by omega)) h2 h3 (Nat.le_refl _)⟩
theorem row (h : St w W Bs Bz Be Bo Bt Br s err ve cs) :
    Calls Tryd.prog 53 #[.pointer (some ⟨Bt, 0, none⟩), .pointer (some ⟨Bo, 0, none⟩), .pointer (some ⟨Be, 0, none⟩)] W fun en W' => ∃ A c v', en = .returned (.slice A (rowS s err).1.length c) ∧ Kp (SB Bs Be) W W' ∧
      Kd.V (Kd.int .u64) 79 W' 0 (fun k => w.heap.size + 6 ≤ k) (.slice A (rowS s err).1.length c) (rowS s err).1 ∧ St w W' Bs Bz Be Bo Bt Br (rowS s err).2.1 (rowS s err).2.2 v' cs := by
  have hl := h.ly
  refine (row_calls Be Bs Bo Bt (w.heap.size + 6) s err ve h.hs W h.bs h.be h.ee h.env (by omega) (by omega) (by omega) (by omega) (by omega) h.size).mono ?_
  rintro en W' ⟨v0, v', rfl, ⟨A, c, rfl, hc, hF⟩, h1, h2, h3, hk⟩
  exact ⟨A, c, v', rfl, hk, ⟨A, c, rfl, hc, Kd.F_mono hF (fun k hk => Nat.le_trans h.size hk)⟩, h.kp hk h1 h2 h3 (rowS_size _ _)⟩
end St
theorem V_set {α : Type} {d : Kd α} {e b b' base g j : Nat} {W1 : World} {v u : Value} {xs : List α} (h : Kd.V d e W1 b (fun k => base ≤ k) v xs) (hg : g < base) : Kd.V d e (W1.setCell ⟨g, j, none⟩ u) b' (fun k => base ≤ k) v xs :=
  Kd.V_map h (fun A hF => Kd.F_step hF (fun k hk1 hk2 => Below.heap_setCell W1 _ u k (by show k ≠ g; omega)))
theorem V_below' {α : Type} {d : Kd α} {e b b' base : Nat} {W1 W2 : World} {v : Value} {xs : List α} (h : Kd.V d e W1 b (fun k => base ≤ k) v xs) (hb : Below W1.heap.size W1 W2) : Kd.V d e W2 b' (fun k => base ≤ k) v xs :=
  Kd.V_map h (fun A hF => Kd.F_below hF hb)
theorem put9 {W : World} {g : Nat} {t : TypeId} {y0 y1 y2 y3 y4 y5 y6 y7 y8 : Value} (x0 x1 x2 x3 x4 x5 x6 x7 x8 : Value) (h : W.heap[g]? = some (.cells #[y0, y1, y2, y3, y4, y5, y6, y7, y8] t (0, 0))) :
    (((((((((W.setCell ⟨g, 0, none⟩ x0).setCell ⟨g, 1, none⟩ x1).setCell ⟨g, 2, none⟩ x2).setCell ⟨g, 3, none⟩ x3).setCell ⟨g, 4, none⟩ x4).setCell ⟨g, 5, none⟩ x5).setCell ⟨g, 6, none⟩ x6).setCell ⟨g, 7, none⟩ x7).setCell ⟨g, 8, none⟩ x8).heap[g]? = some (.cells #[x0, x1, x2, x3, x4, x5, x6, x7, x8] t (0, 0)) := by
  refine blk_put (cs := #[x0, x1, x2, x3, x4, x5, x6, x7, y8]) ?_ 8 x8 rfl
  refine blk_put (cs := #[x0, x1, x2, x3, x4, x5, x6, y7, y8]) ?_ 7 x7 rfl
  refine blk_put (cs := #[x0, x1, x2, x3, x4, x5, y6, y7, y8]) ?_ 6 x6 rfl
  refine blk_put (cs := #[x0, x1, x2, x3, x4, y5, y6, y7, y8]) ?_ 5 x5 rfl
  refine blk_put (cs := #[x0, x1, x2, x3, y4, y5, y6, y7, y8]) ?_ 4 x4 rfl
  refine blk_put (cs := #[x0, x1, x2, y3, y4, y5, y6, y7, y8]) ?_ 3 x3 rfl
  refine blk_put (cs := #[x0, x1, y2, y3, y4, y5, y6, y7, y8]) ?_ 2 x2 rfl
  refine blk_put (cs := #[x0, y1, y2, y3, y4, y5, y6, y7, y8]) ?_ 1 x1 rfl
  refine blk_put (cs := #[y0, y1, y2, y3, y4, y5, y6, y7, y8]) ?_ 0 x0 rfl
  exact h
theorem put9_kp (S : Nat → Prop) {W : World} {g : Nat} (hg : S g) (x0 x1 x2 x3 x4 x5 x6 x7 x8 : Value) :
    Kp S W (((((((((W.setCell ⟨g, 0, none⟩ x0).setCell ⟨g, 1, none⟩ x1).setCell ⟨g, 2, none⟩ x2).setCell ⟨g, 3, none⟩ x3).setCell ⟨g, 4, none⟩ x4).setCell ⟨g, 5, none⟩ x5).setCell ⟨g, 6, none⟩ x6).setCell ⟨g, 7, none⟩ x7).setCell ⟨g, 8, none⟩ x8) :=
  ((((((((((Kp.refl S W).set (.inl hg) x0).set (.inl hg) x1).set (.inl hg) x2).set (.inl hg) x3).set (.inl hg) x4).set (.inl hg) x5).set (.inl hg) x6).set (.inl hg) x7).set (.inl hg) x8)
/-- What crc.parts comes to: the record, and an error. -/
def partsF (s : ByteArray) : (Int × Int × Int × Int × Int × List Int × List Int × List Int × Bool) × Option Int :=
  let t0 := takeS 1 s none
  let t1 := takeS 4 t0.2.1 t0.2.2
  let t2 := takeS 4 t1.2.1 t1.2.2
  let t3 := takeS 4 t2.2.1 t2.2.2
  let t4 := takeS 4 t3.2.1 t3.2.2
  let t5 := takeS 1 t4.2.1 t4.2.2
  let e7 := if 1 < t5.1 then oddS 6 t5.2.2 else t5.2.2
  let p := rowS t5.2.1 e7
  let q := rowS p.2.1 p.2.2
  let t := rowS q.2.1 q.2.2
  let e11 := if t.2.1.size = 0 then t.2.2 else oddS 6 t.2.2
  let e12 := if mayF (wrap64 t0.1) (wrap64 t1.1) (wrap64 t2.1) (wrap64 t3.1) (wrap64 t4.1) p.1 q.1 t.1 = true then e11 else oddS 1 e11
  ((wrap64 t0.1, wrap64 t1.1, wrap64 t2.1, wrap64 t3.1, wrap64 t4.1, p.1, q.1, t.1, t5.1 == 1), e12)
set_option maxRecDepth 100000 in
set_option maxHeartbeats 4000000 in
/-- crc.parts. -/
theorem parts_calls (s : ByteArray) (hs : s.size < 9223372036854775807) (w : World) :
    Calls Tryd.prog 38 #[.string s] w fun en w' => ∃ AP kP AQ kQ AT kT v, en = .returned (.tuple #[.agg #[.int .i64 (partsF s).1.1, .int .i64 (partsF s).1.2.1, .int .i64 (partsF s).1.2.2.1, .int .i64 (partsF s).1.2.2.2.1, .int .i64 (partsF s).1.2.2.2.2.1,
        .slice AP (partsF s).1.2.2.2.2.2.1.length kP, .slice AQ (partsF s).1.2.2.2.2.2.2.1.length kQ, .slice AT (partsF s).1.2.2.2.2.2.2.2.1.length kT, .bool (partsF s).1.2.2.2.2.2.2.2.2], v]) ∧
      Kd.V (Kd.int .u64) 79 w' 0 (fun k => w.heap.size ≤ k) (.slice AP (partsF s).1.2.2.2.2.2.1.length kP) (partsF s).1.2.2.2.2.2.1 ∧ Kd.V (Kd.int .u64) 79 w' 0 (fun k => w.heap.size ≤ k) (.slice AQ (partsF s).1.2.2.2.2.2.2.1.length kQ) (partsF s).1.2.2.2.2.2.2.1 ∧
      Kd.V (Kd.int .u64) 79 w' 0 (fun k => w.heap.size ≤ k) (.slice AT (partsF s).1.2.2.2.2.2.2.2.1.length kT) (partsF s).1.2.2.2.2.2.2.2.1 ∧ ErrIs w.heap.size w' v (partsF s).2 ∧ Below w.heap.size w w' := by
  obtain ⟨Bs, hBs⟩ : ∃ n, w.heap.size = n := ⟨_, rfl⟩
  obtain ⟨Bz, hBz⟩ : ∃ n, Bs + 1 = n := ⟨_, rfl⟩
  obtain ⟨Be, hBe⟩ : ∃ n, Bz + 1 = n := ⟨_, rfl⟩
  obtain ⟨Bo, hBo⟩ : ∃ n, Be + 1 = n := ⟨_, rfl⟩
  obtain ⟨Bt, hBt⟩ : ∃ n, Bo + 1 = n := ⟨_, rfl⟩
  obtain ⟨Br, hBr⟩ : ∃ n, Bt + 1 = n := ⟨_, rfl⟩
  have h0 : St w ((((((w.alloc (.cells #[.string s] 9)).alloc (.cells #[.int .i64 0, .int .i64 0, .int .i64 0, .int .i64 0, .int .i64 0, .slice none 0 0, .slice none 0 0, .slice none 0 0, .bool false] 63)).alloc (.cells #[.nilIface] 74)).alloc
      (.cells #[.func (.func 51) #[] #[.pointer (some ⟨Be, 0, none⟩), .pointer (some ⟨Bs, 0, none⟩)]] 105)).alloc (.cells #[.func (.func 52) #[] #[.pointer (some ⟨Bs, 0, none⟩), .pointer (some ⟨Bo, 0, none⟩), .pointer (some ⟨Be, 0, none⟩)]] 106)).alloc
      (.cells #[.int .i64 0, .int .i64 0, .int .i64 0, .int .i64 0, .int .i64 0, .slice none 0 0, .slice none 0 0, .slice none 0 0, .bool false] 63)) Bs Bz Be Bo Bt Br s none .nilIface #[.int .i64 0, .int .i64 0, .int .i64 0, .int .i64 0, .int .i64 0, .slice none 0 0, .slice none 0 0, .slice none 0 0, .bool false] := by
    refine ⟨by omega, ?_, by simp, hs, ?_, ?_, ?_, rfl, ⟨?_, ?_⟩, ?_⟩
    · exact ((((((Below.refl _ w).alloc (Nat.le_refl _) _).alloc (by simp) _).alloc (by simp <;> omega) _).alloc (by simp <;> omega) _).alloc (by simp <;> omega) _).alloc (by simp <;> omega) _
    · exact blk_alloc (blk_alloc (blk_alloc (blk_alloc (blk_alloc (blk_new_at _ _ (by first | omega | (simp <;> omega))) _) _) _) _) _
    · exact blk_alloc (blk_alloc (blk_alloc (blk_alloc (blk_new_at _ _ (by first | omega | (simp <;> omega))) _) _) _) _
    · exact blk_alloc (blk_alloc (blk_alloc (blk_new_at _ _ (by first | omega | (simp <;> omega))) _) _) _
    · exact blk_alloc (blk_alloc (blk_new_at _ _ (by first | omega | (simp <;> omega))) _) _
    · exact blk_alloc (blk_new_at _ _ (by first | omega | (simp <;> omega))) _
    · exact blk_new_at _ _ (by first | omega | (simp <;> omega))
  have hct := blk_cell h0.env.bt 0
  have H0 := Lib.hid h0
  clear h0
  go_enter Tryd.func38, Tryd.ntmps38
  go_wp2_with fail
  refine (H0.out.take 1 (by decide)).mono ?_
  obtain ⟨⟨c0, s1, e1⟩, hT⟩ : ∃ p, takeS 1 s none = p := ⟨_, rfl⟩
  rw [hT]
  rintro en W1 ⟨rfl, _, v1, h1⟩
  have HT1 := Lib.hid hT
  have HLY := Lib.hid h1.ly
  clear hBs hBz hBe hBo hBt hBr hct hT H0
  have hr0 := blk_cell h1.br 0
  have hf0 := blk_frozen h1.br 0
  have H1 := Lib.hid h1
  clear h1
  -- GENERATED (wip/gen_parts.py)
  go_wp2
  obtain ⟨Bp, hBp⟩ : ∃ n, W1.heap.size = n := ⟨_, rfl⟩
  have hBp2 : w.heap.size + 6 ≤ Bp := by rw [← hBp]; exact H1.out.size
  rw [hBp]
  obtain ⟨W2, hW2⟩ : ∃ X, (W1.setCell ⟨Br, 0, none⟩ (.int .i64 (wrap64 c0))).alloc (.cells #[.pointer (some ⟨Br, 1, none⟩), .pointer (some ⟨Br, 2, none⟩), .pointer (some ⟨Br, 3, none⟩), .pointer (some ⟨Br, 4, none⟩)] 109) = X := ⟨_, rfl⟩
  have h2 : St w W2 Bs Bz Be Bo Bt Br s1 e1 v1 #[.int .i64 (wrap64 c0), .int .i64 0, .int .i64 0, .int .i64 0, .int .i64 0, .slice none 0 0, .slice none 0 0, .slice none 0 0, .bool false] := by rw [← hW2]; exact (H1.out.set 0 _).alloc _
  have hp2 : W2.heap[Bp]? = some (.cells #[.pointer (some ⟨Br, 1, none⟩), .pointer (some ⟨Br, 2, none⟩), .pointer (some ⟨Br, 3, none⟩), .pointer (some ⟨Br, 4, none⟩)] 109 (0, 0)) := by rw [← hW2]; exact blk_new_at _ _ (by rw [← hBp]; simp [World.setCell])
  rw [hW2]
  have HBP := Lib.hid hBp2
  clear hW2 hr0 hf0 H1 hBp hBp2
  have H2 := Lib.hid h2
  have HP2 := Lib.hid hp2
  have hct := blk_cell h2.env.bt 0
  have hpc := blk_cell hp2 0
  clear h2 hp2
  refine wp_loop_rounds 5 ?_
  rw [rounds_succ]
  go_wp2_with fail
  refine (H2.out.take 4 (by decide)).mono ?_
  obtain ⟨⟨c1, s2, e2⟩, hT⟩ : ∃ p, takeS 4 s1 e1 = p := ⟨_, rfl⟩
  rw [hT]
  rintro en W3 ⟨rfl, hk, v2, h3⟩
  have HT2 := Lib.hid hT
  have hp3 := hk.blk HP2.out (fun h => by have := HLY.out; have := HBP.out; rcases h with h | h <;> omega)
  clear hT hk hct hpc
  have hr := blk_cell h3.br 1
  have hf := blk_frozen h3.br 1
  have H3 := Lib.hid h3
  have HP3 := Lib.hid hp3
  clear h3 hp3
  go_wp2
  rw [rounds_succ]
  obtain ⟨W4, hW⟩ : ∃ X, W3.setCell ⟨Br, 1, none⟩ (.int .i64 (wrap64 c1)) = X := ⟨_, rfl⟩
  have h4 : St w W4 Bs Bz Be Bo Bt Br s2 e2 v2 #[.int .i64 (wrap64 c0), .int .i64 (wrap64 c1), .int .i64 0, .int .i64 0, .int .i64 0, .slice none 0 0, .slice none 0 0, .slice none 0 0, .bool false] := by rw [← hW]; exact H3.out.set 1 _
  have hp4 : W4.heap[Bp]? = some (.cells #[.pointer (some ⟨Br, 1, none⟩), .pointer (some ⟨Br, 2, none⟩), .pointer (some ⟨Br, 3, none⟩), .pointer (some ⟨Br, 4, none⟩)] 109 (0, 0)) := by rw [← hW]; exact (Below.heap_setCell _ _ _ Bp (by show Bp ≠ Br; have := HLY.out; have := HBP.out; omega)).trans HP3.out
  rw [hW]
  clear hW hr hf H3 HP3
  have H4 := Lib.hid h4
  have HP4 := Lib.hid hp4
  have hct := blk_cell h4.env.bt 0
  have hpc := blk_cell hp4 1
  clear h4 hp4
  go_wp2_with fail
  refine (H4.out.take 4 (by decide)).mono ?_
  obtain ⟨⟨c2, s3, e3⟩, hT⟩ : ∃ p, takeS 4 s2 e2 = p := ⟨_, rfl⟩
  rw [hT]
  rintro en W5 ⟨rfl, hk, v3, h5⟩
  have HT3 := Lib.hid hT
  have hp5 := hk.blk HP4.out (fun h => by have := HLY.out; have := HBP.out; rcases h with h | h <;> omega)
  clear hT hk hct hpc
  have hr := blk_cell h5.br 2
  have hf := blk_frozen h5.br 2
  have H5 := Lib.hid h5
  have HP5 := Lib.hid hp5
  clear h5 hp5
  go_wp2
  rw [rounds_succ]
  obtain ⟨W6, hW⟩ : ∃ X, W5.setCell ⟨Br, 2, none⟩ (.int .i64 (wrap64 c2)) = X := ⟨_, rfl⟩
  have h6 : St w W6 Bs Bz Be Bo Bt Br s3 e3 v3 #[.int .i64 (wrap64 c0), .int .i64 (wrap64 c1), .int .i64 (wrap64 c2), .int .i64 0, .int .i64 0, .slice none 0 0, .slice none 0 0, .slice none 0 0, .bool false] := by rw [← hW]; exact H5.out.set 2 _
  have hp6 : W6.heap[Bp]? = some (.cells #[.pointer (some ⟨Br, 1, none⟩), .pointer (some ⟨Br, 2, none⟩), .pointer (some ⟨Br, 3, none⟩), .pointer (some ⟨Br, 4, none⟩)] 109 (0, 0)) := by rw [← hW]; exact (Below.heap_setCell _ _ _ Bp (by show Bp ≠ Br; have := HLY.out; have := HBP.out; omega)).trans HP5.out
  rw [hW]
  clear hW hr hf H5 HP5
  have H6 := Lib.hid h6
  have HP6 := Lib.hid hp6
  have hct := blk_cell h6.env.bt 0
  have hpc := blk_cell hp6 2
  clear h6 hp6
  go_wp2_with fail
  refine (H6.out.take 4 (by decide)).mono ?_
  obtain ⟨⟨c3, s4, e4⟩, hT⟩ : ∃ p, takeS 4 s3 e3 = p := ⟨_, rfl⟩
  rw [hT]
  rintro en W7 ⟨rfl, hk, v4, h7⟩
  have HT4 := Lib.hid hT
  have hp7 := hk.blk HP6.out (fun h => by have := HLY.out; have := HBP.out; rcases h with h | h <;> omega)
  clear hT hk hct hpc
  have hr := blk_cell h7.br 3
  have hf := blk_frozen h7.br 3
  have H7 := Lib.hid h7
  have HP7 := Lib.hid hp7
  clear h7 hp7
  go_wp2
  rw [rounds_succ]
  obtain ⟨W8, hW⟩ : ∃ X, W7.setCell ⟨Br, 3, none⟩ (.int .i64 (wrap64 c3)) = X := ⟨_, rfl⟩
  have h8 : St w W8 Bs Bz Be Bo Bt Br s4 e4 v4 #[.int .i64 (wrap64 c0), .int .i64 (wrap64 c1), .int .i64 (wrap64 c2), .int .i64 (wrap64 c3), .int .i64 0, .slice none 0 0, .slice none 0 0, .slice none 0 0, .bool false] := by rw [← hW]; exact H7.out.set 3 _
  have hp8 : W8.heap[Bp]? = some (.cells #[.pointer (some ⟨Br, 1, none⟩), .pointer (some ⟨Br, 2, none⟩), .pointer (some ⟨Br, 3, none⟩), .pointer (some ⟨Br, 4, none⟩)] 109 (0, 0)) := by rw [← hW]; exact (Below.heap_setCell _ _ _ Bp (by show Bp ≠ Br; have := HLY.out; have := HBP.out; omega)).trans HP7.out
  rw [hW]
  clear hW hr hf H7 HP7
  have H8 := Lib.hid h8
  have HP8 := Lib.hid hp8
  have hct := blk_cell h8.env.bt 0
  have hpc := blk_cell hp8 3
  clear h8 hp8
  go_wp2_with fail
  refine (H8.out.take 4 (by decide)).mono ?_
  obtain ⟨⟨c4, s5, e5⟩, hT⟩ : ∃ p, takeS 4 s4 e4 = p := ⟨_, rfl⟩
  rw [hT]
  rintro en W9 ⟨rfl, hk, v5, h9⟩
  have HT5 := Lib.hid hT
  have hp9 := hk.blk HP8.out (fun h => by have := HLY.out; have := HBP.out; rcases h with h | h <;> omega)
  clear hT hk hct hpc
  have hr := blk_cell h9.br 4
  have hf := blk_frozen h9.br 4
  have H9 := Lib.hid h9
  have HP9 := Lib.hid hp9
  clear h9 hp9
  go_wp2
  rw [rounds_succ]
  obtain ⟨W10, hW⟩ : ∃ X, W9.setCell ⟨Br, 4, none⟩ (.int .i64 (wrap64 c4)) = X := ⟨_, rfl⟩
  have h10 : St w W10 Bs Bz Be Bo Bt Br s5 e5 v5 #[.int .i64 (wrap64 c0), .int .i64 (wrap64 c1), .int .i64 (wrap64 c2), .int .i64 (wrap64 c3), .int .i64 (wrap64 c4), .slice none 0 0, .slice none 0 0, .slice none 0 0, .bool false] := by rw [← hW]; exact H9.out.set 4 _
  have hp10 : W10.heap[Bp]? = some (.cells #[.pointer (some ⟨Br, 1, none⟩), .pointer (some ⟨Br, 2, none⟩), .pointer (some ⟨Br, 3, none⟩), .pointer (some ⟨Br, 4, none⟩)] 109 (0, 0)) := by rw [← hW]; exact (Below.heap_setCell _ _ _ Bp (by show Bp ≠ Br; have := HLY.out; have := HBP.out; omega)).trans HP9.out
  rw [hW]
  clear hW hr hf H9 HP9
  have H10 := Lib.hid h10
  have HP10 := Lib.hid hp10
  have hct := blk_cell h10.env.bt 0
  have hpc : True := trivial
  clear h10 hp10
  go_wp2_with fail
  refine (H10.out.take 1 (by decide)).mono ?_
  obtain ⟨⟨c5, s6, e6⟩, hT⟩ : ∃ p, takeS 1 s5 e5 = p := ⟨_, rfl⟩
  rw [hT]
  rintro en W11 ⟨rfl, hk, v6, h11⟩
  have HT6 := Lib.hid hT
  clear hT hk hct hpc HP10 H10
  have hco := blk_cell h11.env.bo 0
  have H11 := Lib.hid h11
  clear h11
  go_upto_if 47 with (fail)
  go_cut [] (fun wc => ∃ e v, Aside0 (e = if 1 < c5 then oddS 6 e6 else e6) ∧ St w wc Bs Bz Be Bo Bt Br s6 e v #[.int .i64 (wrap64 c0), .int .i64 (wrap64 c1), .int .i64 (wrap64 c2), .int .i64 (wrap64 c3), .int .i64 (wrap64 c4), .slice none 0 0, .slice none 0 0, .slice none 0 0, .bool false])
  case first =>
    by_cases hc5 : 1 < c5
    · have ht : decide (1 < c5) = true := decide_eq_true hc5
      clear hc5
      rw [ht]
      go_wp2_with fail
      refine (H11.out.odd 6).mono ?_
      rintro en W12 ⟨rfl, hk, v7, h12⟩
      have H12 := Lib.hid h12
      clear h12 hk
      try go_wp2
      go_meet
      case rel => exact ⟨_, _, ⟨by rw [if_pos (of_decide_eq_true ht)]⟩, H12.out⟩
    · have ht : decide (1 < c5) = false := decide_eq_false hc5
      clear hc5
      rw [ht]
      go_wp2
      go_meet
      case rel => exact ⟨_, _, ⟨by rw [if_neg (of_decide_eq_false ht)]⟩, H11.out⟩
  case rest =>
  obtain ⟨e7, v7, he7, h12⟩ := hcut
  have HC7 := he7
  have hr := blk_cell h12.br 8
  have hf := blk_frozen h12.br 8
  have H12 := Lib.hid h12
  clear h12 he7 hco
  go_wp2
  obtain ⟨Bq, hBq⟩ : ∃ n, wc.heap.size = n := ⟨_, rfl⟩
  have hBq2 : w.heap.size + 6 ≤ Bq := by rw [← hBq]; exact H12.out.size
  rw [hBq]
  obtain ⟨W13, hW⟩ : ∃ X, (wc.setCell ⟨Br, 8, none⟩ (.bool (c5 == 1))).alloc (.cells #[.pointer (some ⟨Br, 5, none⟩), .pointer (some ⟨Br, 6, none⟩), .pointer (some ⟨Br, 7, none⟩)] 111) = X := ⟨_, rfl⟩
  have h13 : St w W13 Bs Bz Be Bo Bt Br s6 e7 v7 #[.int .i64 (wrap64 c0), .int .i64 (wrap64 c1), .int .i64 (wrap64 c2), .int .i64 (wrap64 c3), .int .i64 (wrap64 c4), .slice none 0 0, .slice none 0 0, .slice none 0 0, .bool (c5 == 1)] := by rw [← hW]; exact (H12.out.set 8 _).alloc _
  have hp13 : W13.heap[Bq]? = some (.cells #[.pointer (some ⟨Br, 5, none⟩), .pointer (some ⟨Br, 6, none⟩), .pointer (some ⟨Br, 7, none⟩)] 111 (0, 0)) := by rw [← hW]; exact blk_new_at _ _ (by rw [← hBq]; simp [World.setCell])
  rw [hW]
  have HBQ := Lib.hid hBq2
  clear hW hr hf H12 hBq hBq2
  have H13 := Lib.hid h13
  have HP13 := Lib.hid hp13
  have hpc := blk_cell hp13 0
  clear h13 hp13
  refine wp_loop_rounds 4 ?_
  rw [rounds_succ]
  go_wp2_with fail
  refine H13.out.row.mono ?_
  obtain ⟨⟨rP, s7, e8⟩, hT⟩ : ∃ p, rowS s6 e7 = p := ⟨_, rfl⟩
  rw [hT]
  dsimp only
  rintro en W14 ⟨AP, kP, v8, rfl, hk, hV, h14⟩
  have HT7 := Lib.hid hT
  have hSB : ∀ k, SB Bs Be k → k < w.heap.size + 6 := fun k h => by have := HLY.out; rcases h with h | h <;> omega
  have hp14 := hk.blk HP13.out (fun h => by have := HLY.out; have := HBQ.out; rcases h with h | h <;> omega)
  have HVP14 := Lib.hid hV
  clear hT hk hV hpc hSB
  have hr := blk_cell h14.br 5
  have hf := blk_frozen h14.br 5
  have H14 := Lib.hid h14
  have HP14 := Lib.hid hp14
  clear h14 hp14
  go_wp2
  rw [rounds_succ]
  obtain ⟨W15, hW⟩ : ∃ X, W14.setCell ⟨Br, 5, none⟩ (.slice AP rP.length kP) = X := ⟨_, rfl⟩
  have h15 : St w W15 Bs Bz Be Bo Bt Br s7 e8 v8 #[.int .i64 (wrap64 c0), .int .i64 (wrap64 c1), .int .i64 (wrap64 c2), .int .i64 (wrap64 c3), .int .i64 (wrap64 c4), .slice AP rP.length kP, .slice none 0 0, .slice none 0 0, .bool (c5 == 1)] := by rw [← hW]; exact H14.out.set 5 _
  have hp15 : W15.heap[Bq]? = some (.cells #[.pointer (some ⟨Br, 5, none⟩), .pointer (some ⟨Br, 6, none⟩), .pointer (some ⟨Br, 7, none⟩)] 111 (0, 0)) := by rw [← hW]; exact (Below.heap_setCell _ _ _ Bq (by show Bq ≠ Br; have := HLY.out; have := HBQ.out; omega)).trans HP14.out
  have HVP15 : Hid (Kd.V (Kd.int .u64) 79 W15 0 (fun k => w.heap.size + 6 ≤ k) (.slice AP rP.length kP) rP) := Lib.hid (by rw [← hW]; exact V_set HVP14.out (by have := HLY.out; omega))
  rw [hW]
  clear hW hr hf H14 HP14 HVP14
  have H15 := Lib.hid h15
  have HP15 := Lib.hid hp15
  have hpc := blk_cell hp15 1
  clear h15 hp15
  go_wp2_with fail
  refine H15.out.row.mono ?_
  obtain ⟨⟨rQ, s8, e9⟩, hT⟩ : ∃ p, rowS s7 e8 = p := ⟨_, rfl⟩
  rw [hT]
  dsimp only
  rintro en W16 ⟨AQ, kQ, v9, rfl, hk, hV, h16⟩
  have HT8 := Lib.hid hT
  have hSB : ∀ k, SB Bs Be k → k < w.heap.size + 6 := fun k h => by have := HLY.out; rcases h with h | h <;> omega
  have hp16 := hk.blk HP15.out (fun h => by have := HLY.out; have := HBQ.out; rcases h with h | h <;> omega)
  have HVP16 := Lib.hid (V_kp (b' := 0) HVP15.out hk hSB)
  clear HVP15
  have HVQ16 := Lib.hid hV
  clear hT hk hV hpc hSB
  have hr := blk_cell h16.br 6
  have hf := blk_frozen h16.br 6
  have H16 := Lib.hid h16
  have HP16 := Lib.hid hp16
  clear h16 hp16
  go_wp2
  rw [rounds_succ]
  obtain ⟨W17, hW⟩ : ∃ X, W16.setCell ⟨Br, 6, none⟩ (.slice AQ rQ.length kQ) = X := ⟨_, rfl⟩
  have h17 : St w W17 Bs Bz Be Bo Bt Br s8 e9 v9 #[.int .i64 (wrap64 c0), .int .i64 (wrap64 c1), .int .i64 (wrap64 c2), .int .i64 (wrap64 c3), .int .i64 (wrap64 c4), .slice AP rP.length kP, .slice AQ rQ.length kQ, .slice none 0 0, .bool (c5 == 1)] := by rw [← hW]; exact H16.out.set 6 _
  have hp17 : W17.heap[Bq]? = some (.cells #[.pointer (some ⟨Br, 5, none⟩), .pointer (some ⟨Br, 6, none⟩), .pointer (some ⟨Br, 7, none⟩)] 111 (0, 0)) := by rw [← hW]; exact (Below.heap_setCell _ _ _ Bq (by show Bq ≠ Br; have := HLY.out; have := HBQ.out; omega)).trans HP16.out
  have HVP17 : Hid (Kd.V (Kd.int .u64) 79 W17 0 (fun k => w.heap.size + 6 ≤ k) (.slice AP rP.length kP) rP) := Lib.hid (by rw [← hW]; exact V_set HVP16.out (by have := HLY.out; omega))
  have HVQ17 : Hid (Kd.V (Kd.int .u64) 79 W17 0 (fun k => w.heap.size + 6 ≤ k) (.slice AQ rQ.length kQ) rQ) := Lib.hid (by rw [← hW]; exact V_set HVQ16.out (by have := HLY.out; omega))
  rw [hW]
  clear hW hr hf H16 HP16 HVP16 HVQ16
  have H17 := Lib.hid h17
  have HP17 := Lib.hid hp17
  have hpc := blk_cell hp17 2
  clear h17 hp17
  go_wp2_with fail
  refine H17.out.row.mono ?_
  obtain ⟨⟨rT, s9, e10⟩, hT⟩ : ∃ p, rowS s8 e9 = p := ⟨_, rfl⟩
  rw [hT]
  dsimp only
  rintro en W18 ⟨AT, kT, v10, rfl, hk, hV, h18⟩
  have HT9 := Lib.hid hT
  have hSB : ∀ k, SB Bs Be k → k < w.heap.size + 6 := fun k h => by have := HLY.out; rcases h with h | h <;> omega
  have hp18 := hk.blk HP17.out (fun h => by have := HLY.out; have := HBQ.out; rcases h with h | h <;> omega)
  have HVP18 := Lib.hid (V_kp (b' := 0) HVP17.out hk hSB)
  clear HVP17
  have HVQ18 := Lib.hid (V_kp (b' := 0) HVQ17.out hk hSB)
  clear HVQ17
  have HVT18 := Lib.hid hV
  clear hT hk hV hpc hSB
  have hr := blk_cell h18.br 7
  have hf := blk_frozen h18.br 7
  have H18 := Lib.hid h18
  have HP18 := Lib.hid hp18
  clear h18 hp18
  go_wp2
  rw [rounds_succ]
  obtain ⟨W19, hW⟩ : ∃ X, W18.setCell ⟨Br, 7, none⟩ (.slice AT rT.length kT) = X := ⟨_, rfl⟩
  have h19 : St w W19 Bs Bz Be Bo Bt Br s9 e10 v10 #[.int .i64 (wrap64 c0), .int .i64 (wrap64 c1), .int .i64 (wrap64 c2), .int .i64 (wrap64 c3), .int .i64 (wrap64 c4), .slice AP rP.length kP, .slice AQ rQ.length kQ, .slice AT rT.length kT, .bool (c5 == 1)] := by rw [← hW]; exact H18.out.set 7 _
  have hp19 : W19.heap[Bq]? = some (.cells #[.pointer (some ⟨Br, 5, none⟩), .pointer (some ⟨Br, 6, none⟩), .pointer (some ⟨Br, 7, none⟩)] 111 (0, 0)) := by rw [← hW]; exact (Below.heap_setCell _ _ _ Bq (by show Bq ≠ Br; have := HLY.out; have := HBQ.out; omega)).trans HP18.out
  have HVP19 : Hid (Kd.V (Kd.int .u64) 79 W19 0 (fun k => w.heap.size + 6 ≤ k) (.slice AP rP.length kP) rP) := Lib.hid (by rw [← hW]; exact V_set HVP18.out (by have := HLY.out; omega))
  have HVQ19 : Hid (Kd.V (Kd.int .u64) 79 W19 0 (fun k => w.heap.size + 6 ≤ k) (.slice AQ rQ.length kQ) rQ) := Lib.hid (by rw [← hW]; exact V_set HVQ18.out (by have := HLY.out; omega))
  have HVT19 : Hid (Kd.V (Kd.int .u64) 79 W19 0 (fun k => w.heap.size + 6 ≤ k) (.slice AT rT.length kT) rT) := Lib.hid (by rw [← hW]; exact V_set HVT18.out (by have := HLY.out; omega))
  rw [hW]
  clear hW hr hf H18 HP18 HVP18 HVQ18 HVT18
  have H19 := Lib.hid h19
  have HP19 := Lib.hid hp19
  have hpc : True := trivial
  clear h19 hp19
  have hsc := blk_cell H19.out.bs 0
  go_upto_if 72 with (fail)
  go_cut [] (fun wc => ∃ e v, Aside0 (e = if s9.size = 0 then e10 else oddS 6 e10) ∧ St w wc Bs Bz Be Bo Bt Br s9 e v #[.int .i64 (wrap64 c0), .int .i64 (wrap64 c1), .int .i64 (wrap64 c2), .int .i64 (wrap64 c3), .int .i64 (wrap64 c4), .slice AP rP.length kP, .slice AQ rQ.length kQ, .slice AT rT.length kT, .bool (c5 == 1)] ∧ Aside0 (Kd.V (Kd.int .u64) 79 wc 0 (fun k => w.heap.size + 6 ≤ k) (.slice AP rP.length kP) rP) ∧ Aside0 (Kd.V (Kd.int .u64) 79 wc 0 (fun k => w.heap.size + 6 ≤ k) (.slice AQ rQ.length kQ) rQ) ∧ Aside0 (Kd.V (Kd.int .u64) 79 wc 0 (fun k => w.heap.size + 6 ≤ k) (.slice AT rT.length kT) rT))
  case first =>
    have hco := blk_cell H19.out.env.bo 0
    by_cases hz : s9.size = 0
    · have he : s9.toList.isEmpty = true := by rw [ByteArray.toList_eq, List.isEmpty_iff]; exact List.length_eq_zero_iff.1 (by simpa using hz)
      have HZ := Lib.hid hz
      clear hz
      simp only [he, Bool.not_true]
      go_wp2
      go_meet
      case rel => exact ⟨_, _, ⟨by rw [if_pos HZ.out]⟩, H19.out, ⟨HVP19.out⟩, ⟨HVQ19.out⟩, ⟨HVT19.out⟩⟩
    · have he : s9.toList.isEmpty = false := by rw [ByteArray.toList_eq, List.isEmpty_eq_false_iff]; intro h; exact hz (by simpa using congrArg List.length h)
      have HZ := Lib.hid hz
      clear hz
      simp only [he, Bool.not_false]
      go_wp2_with fail
      refine (H19.out.odd 6).mono ?_
      rintro en W20 ⟨rfl, hk, v11, h20⟩
      have hSB : ∀ k, SB Bs Be k → k < w.heap.size + 6 := fun k h => by have := HLY.out; rcases h with h | h <;> omega
      have HVP20 := Lib.hid (V_kp (b' := 0) HVP19.out hk hSB)
      have HVQ20 := Lib.hid (V_kp (b' := 0) HVQ19.out hk hSB)
      have HVT20 := Lib.hid (V_kp (b' := 0) HVT19.out hk hSB)
      have H20 := Lib.hid h20
      clear h20 hk hSB
      try go_wp2
      go_meet
      case rel => exact ⟨_, _, ⟨by rw [if_neg HZ.out]⟩, H20.out, ⟨HVP20.out⟩, ⟨HVQ20.out⟩, ⟨HVT20.out⟩⟩
  case rest =>
  clear HVP19 HVQ19 HVT19 H19 HP19 hsc hpc
  obtain ⟨e11, v11, HC11, h20, hVP, hVQ, hVT⟩ := hcut
  have hr0 := blk_cell h20.br 0
  have hr1 := blk_cell h20.br 1
  have hr2 := blk_cell h20.br 2
  have hr3 := blk_cell h20.br 3
  have hr4 := blk_cell h20.br 4
  have hr5 := blk_cell h20.br 5
  have hr6 := blk_cell h20.br 6
  have hr7 := blk_cell h20.br 7
  have hr8 := blk_cell h20.br 8
  have H20 := Lib.hid h20
  have hRP := Kd.V_reads' hVP.out
  have hRQ := Kd.V_reads' hVQ.out
  have hRT := Kd.V_reads' hVT.out
  have HRP := Lib.hid hRP
  have HRQ := Lib.hid hRQ
  have HRT := Lib.hid hRT
  clear h20 hRP hRQ hRT
  have hlP : rP.length < 9223372036854775807 := by have := rowS_len s6 e7; rw [HT7.out] at this; have h2 : rP.length ≤ 4097 := this; omega
  have hlQ : rQ.length < 9223372036854775807 := by have := rowS_len s7 e8; rw [HT8.out] at this; have h2 : rQ.length ≤ 4097 := this; omega
  have hlT : rT.length < 9223372036854775807 := by have := rowS_len s8 e9; rw [HT9.out] at this; have h2 : rT.length ≤ 4097 := this; omega
  go_wp2_with fail
  refine (may_calls _ _ _ _ _ AP AQ AT kP kQ kT rP rQ rT _ _ HRP.out.2.2 HRP.out.2.1 HRQ.out.2.2 HRQ.out.2.1 HRT.out.2.2 HRT.out.2.1 hlP hlQ hlT).mono ?_
  obtain ⟨M, hM⟩ : ∃ M, mayF (wrap64 c0) (wrap64 c1) (wrap64 c2) (wrap64 c3) (wrap64 c4) rP rQ rT = M := ⟨_, rfl⟩
  rw [hM]
  rintro en W21 ⟨rfl, hb⟩
  have HM := Lib.hid hM
  have H21 := Lib.hid (H20.out.below' hb)
  have HVP21 := Lib.hid (V_below' (b' := 0) hVP.out hb)
  have HVQ21 := Lib.hid (V_below' (b' := 0) hVQ.out hb)
  have HVT21 := Lib.hid (V_below' (b' := 0) hVT.out hb)
  clear hb hM H20 hr0 hr1 hr2 hr3 hr4 hr5 hr6 hr7 hr8 hVP hVQ hVT HRP HRQ HRT
  go_upto_if 77 with (fail)
  go_cut [] (fun wc => ∃ e v, Aside0 (e = if M = true then e11 else oddS 1 e11) ∧ St w wc Bs Bz Be Bo Bt Br s9 e v #[.int .i64 (wrap64 c0), .int .i64 (wrap64 c1), .int .i64 (wrap64 c2), .int .i64 (wrap64 c3), .int .i64 (wrap64 c4), .slice AP rP.length kP, .slice AQ rQ.length kQ, .slice AT rT.length kT, .bool (c5 == 1)] ∧ Aside0 (Kd.V (Kd.int .u64) 79 wc 0 (fun k => w.heap.size + 6 ≤ k) (.slice AP rP.length kP) rP) ∧ Aside0 (Kd.V (Kd.int .u64) 79 wc 0 (fun k => w.heap.size + 6 ≤ k) (.slice AQ rQ.length kQ) rQ) ∧ Aside0 (Kd.V (Kd.int .u64) 79 wc 0 (fun k => w.heap.size + 6 ≤ k) (.slice AT rT.length kT) rT))
  case first =>
    have hco := blk_cell H21.out.env.bo 0
    cases M with
    | true =>
      simp only [Bool.not_true]
      go_wp2
      go_meet
      case rel => exact ⟨_, _, ⟨by simp⟩, H21.out, ⟨HVP21.out⟩, ⟨HVQ21.out⟩, ⟨HVT21.out⟩⟩
    | false =>
      simp only [Bool.not_false]
      go_wp2_with fail
      refine (H21.out.odd 1).mono ?_
      rintro en W22 ⟨rfl, hk, v12, h22⟩
      have hSB : ∀ k, SB Bs Be k → k < w.heap.size + 6 := fun k h => by have := HLY.out; rcases h with h | h <;> omega
      have HVP22 := Lib.hid (V_kp (b' := 0) HVP21.out hk hSB)
      have HVQ22 := Lib.hid (V_kp (b' := 0) HVQ21.out hk hSB)
      have HVT22 := Lib.hid (V_kp (b' := 0) HVT21.out hk hSB)
      have H22 := Lib.hid h22
      clear h22 hk hSB
      try go_wp2
      go_meet
      case rel => exact ⟨_, _, ⟨by simp⟩, H22.out, ⟨HVP22.out⟩, ⟨HVQ22.out⟩, ⟨HVT22.out⟩⟩
  case rest =>
  clear HVP21 HVQ21 HVT21 H21
  obtain ⟨e12, v12, HC12, h23, hVP, hVQ, hVT⟩ := hcut
  have hr0 := blk_cell h23.br 0
  have hr1 := blk_cell h23.br 1
  have hr2 := blk_cell h23.br 2
  have hr3 := blk_cell h23.br 3
  have hr4 := blk_cell h23.br 4
  have hr5 := blk_cell h23.br 5
  have hr6 := blk_cell h23.br 6
  have hr7 := blk_cell h23.br 7
  have hr8 := blk_cell h23.br 8
  have hz0 := blk_cell h23.bz 0
  have hz1 := blk_cell h23.bz 1
  have hz2 := blk_cell h23.bz 2
  have hz3 := blk_cell h23.bz 3
  have hz4 := blk_cell h23.bz 4
  have hz5 := blk_cell h23.bz 5
  have hz6 := blk_cell h23.bz 6
  have hz7 := blk_cell h23.bz 7
  have hz8 := blk_cell h23.bz 8
  have hy0 := blk_frozen h23.bz 0
  have hy1 := blk_frozen h23.bz 1
  have hy2 := blk_frozen h23.bz 2
  have hy3 := blk_frozen h23.bz 3
  have hy4 := blk_frozen h23.bz 4
  have hy5 := blk_frozen h23.bz 5
  have hy6 := blk_frozen h23.bz 6
  have hy7 := blk_frozen h23.bz 7
  have hy8 := blk_frozen h23.bz 8
  have hec := blk_cell h23.be 0
  have hne : Bz ≠ Br := by have := HLY.out; omega
  have hne2 : Bz ≠ Be := by have := HLY.out; omega
  have H23 := Lib.hid h23
  clear h23
  have hne3 : Br ≠ Bz := Ne.symm hne
  have hne4 : Be ≠ Bz := Ne.symm hne2
  simp only [List.getElem?_toArray, List.getElem?_cons_zero, List.getElem?_cons_succ] at hr0 hr1 hr2 hr3 hr4 hr5 hr6 hr7 hr8 hz0 hz1 hz2 hz3 hz4 hz5 hz6 hz7 hz8 hec
  go_wp2
  go_region
  have hF : partsF s = ((wrap64 c0, wrap64 c1, wrap64 c2, wrap64 c3, wrap64 c4, rP, rQ, rT, c5 == 1), e12) := by
    unfold partsF
    simp only [HT1.out, HT2.out, HT3.out, HT4.out, HT5.out, HT6.out, ← HC7.out, HT7.out, HT8.out, HT9.out, HM.out, ← HC11.out, ← HC12.out]
  have HF := Lib.hid hF
  clear hF
  all_goals try go_wp2
  all_goals (refine bodyPost_ret (results_ct rfl _ _ Bz 63 #[.int .i64 (wrap64 c0), .int .i64 (wrap64 c1), .int .i64 (wrap64 c2), .int .i64 (wrap64 c3), .int .i64 (wrap64 c4), .slice AP rP.length kP, .slice AQ rQ.length kQ, .slice AT rT.length kT, .bool (c5 == 1)] (0, 0) _ rfl (by with_reducible refine blk_drew ?_; exact put9 _ _ _ _ _ _ _ _ _ H23.out.bz) Tryd.underlying63 rfl (by kernel_rfl)) rfl ?_)
  all_goals rw [HF.out]
  all_goals (
    have hk : Kp (fun k => k = Bz) wc _ := (put9_kp (fun k => k = Bz) (W := wc) (g := Bz) rfl (.int .i64 (wrap64 c0)) (.int .i64 (wrap64 c1)) (.int .i64 (wrap64 c2)) (.int .i64 (wrap64 c3)) (.int .i64 (wrap64 c4)) (.slice AP rP.length kP) (.slice AQ rQ.length kQ) (.slice AT rT.length kT) (.bool (c5 == 1))).drew
    have hly := HLY.out
    exact ⟨AP, kP, AQ, kQ, AT, kT, v12, rfl, Kd.V_mono (V_kp (b' := 0) hVP.out hk (fun k h => by omega)) (fun k h => by omega), Kd.V_mono (V_kp (b' := 0) hVQ.out hk (fun k h => by omega)) (fun k h => by omega), Kd.V_mono (V_kp (b' := 0) hVT.out hk (fun k h => by omega)) (fun k h => by omega), (H23.out.ee.kept hk (fun k h => by omega)).mono (by omega), hk.below H23.out.below H23.out.below.size (fun k h => by omega)⟩)
end Go.Proofs.YtbpobnlkfpjijaaDoorR.Pr
end
-- Pr39
section
namespace Go.Proofs.YtbpobnlkfpjijaaDoorR.Pr
open Go.RowKit Go.Proofs.YtbpobnlkfpjijaaDoorRW.PrintWords Go.Proofs.YtbpobnlkfpjijaaDoorRW.PrintLast Go.Proofs.YtbpobnlkfpjijaaDoorRW.PrintMore
attribute [local go_sem] max2_int min2_int max_two min_two max_three min_three max_four min_four   -- for this text's walks alone
set_option linter.unusedVariables false
set_option linter.unusedSimpArgs false

attribute [local go_sem] Go.Proofs.Aid.cell_set_row
mutual
def crc_Sum.l0 : Nat → ByteArray → Int → Int → Int → Option (Int)
  | 0, _, _, _, _ => none
  | k + 1, x0, x3, x6, x7 => if x7 < x6 then (if 0 ≤ x7 then (if x7 < (x0.size : Int) then (crc_Sum.l1 k x0 (Go.bits .xor .u32 x3 ((bt x0 x7) % 4294967296)) x6 x7 0) else (none)) else (none)) else (some (Go.bits .xor .u32 4294967295 x3))
def crc_Sum.l1 : Nat → ByteArray → Int → Int → Int → Int → Option (Int)
  | 0, _, _, _, _, _ => none
  | k + 1, x0, x3, x6, x7, x16 => if x16 < 8 then (if (Go.bits .and .u32 x3 1) = 1 then (crc_Sum.l1 k x0 (Go.bits .xor .u32 (x3 / 2) 3988292384) x6 x7 (wrap64 (x16 + 1))) else (crc_Sum.l1 k x0 (x3 / 2) x6 x7 (wrap64 (x16 + 1)))) else (crc_Sum.l0 k x0 x3 x6 (wrap64 (x7 + 1)))
end
def crc_Sum.f (k : Nat) (a0 : ByteArray) : Option (Int) := crc_Sum.l0 k a0 4294967295 (a0.size : Int) 0
theorem crc_Sum.mono_l : ∀ k, (∀ y0 y1 y2 y3, LeO (crc_Sum.l0 k y0 y1 y2 y3) (crc_Sum.l0 (k + 1) y0 y1 y2 y3)) ∧ (∀ y0 y1 y2 y3 y4, LeO (crc_Sum.l1 k y0 y1 y2 y3 y4) (crc_Sum.l1 (k + 1) y0 y1 y2 y3 y4))
  | 0 => ⟨fun _ _ _ _ r h => by simp [crc_Sum.l0] at h, fun _ _ _ _ _ r h => by simp [crc_Sum.l1] at h⟩
  | k + 1 => by
    obtain ⟨ih0, ih1⟩ := crc_Sum.mono_l k
    refine ⟨?_, ?_⟩
    · intro y0 y1 y2 y3
      unfold crc_Sum.l0
      repeat' first
      | (with_reducible exact ih0 _ _ _ _)
      | (with_reducible exact ih1 _ _ _ _ _)
      | (with_reducible exact LeO.refl _)
      | (with_reducible exact LeO.none _)
      | (with_reducible refine LeO.ite ?_ ?_)
      | (with_reducible refine LeO.bind ?_ (fun _ => ?_))
      | exact ih0 _ _ _ _
      | exact ih1 _ _ _ _ _
      | exact LeO.none _
      | refine LeO.ite ?_ ?_
      | refine LeO.bind ?_ (fun _ => ?_)
    · intro y0 y1 y2 y3 y4
      unfold crc_Sum.l1
      repeat' first
      | (with_reducible exact ih0 _ _ _ _)
      | (with_reducible exact ih1 _ _ _ _ _)
      | (with_reducible exact LeO.refl _)
      | (with_reducible exact LeO.none _)
      | (with_reducible refine LeO.ite ?_ ?_)
      | (with_reducible refine LeO.bind ?_ (fun _ => ?_))
      | exact ih0 _ _ _ _
      | exact ih1 _ _ _ _ _
      | exact LeO.none _
      | refine LeO.ite ?_ ?_
      | refine LeO.bind ?_ (fun _ => ?_)
theorem crc_Sum.mono : ∀ a0 k, LeO (crc_Sum.f k a0) (crc_Sum.f (k + 1) a0) := by
  intro a0 k
  obtain ⟨ih0, ih1⟩ := crc_Sum.mono_l k
  unfold crc_Sum.f
  repeat' first
      | (with_reducible exact ih0 _ _ _ _)
      | (with_reducible exact ih1 _ _ _ _ _)
      | (with_reducible exact LeO.refl _)
      | (with_reducible exact LeO.none _)
      | (with_reducible refine LeO.ite ?_ ?_)
      | (with_reducible refine LeO.bind ?_ (fun _ => ?_))
      | exact ih0 _ _ _ _
      | exact ih1 _ _ _ _ _
      | exact LeO.none _
      | refine LeO.ite ?_ ?_
      | refine LeO.bind ?_ (fun _ => ?_)
set_option maxHeartbeats 8000000 in
set_option maxRecDepth 100000 in
theorem crc_Sum.calls (k : Nat) (a0 : ByteArray) (r : Int) (w : World) (h : crc_Sum.f k a0 = some r) :
    Calls Tryd.prog 37 #[.string a0] w fun e w' => e = .returned (.int .u32 r) ∧ Drawn0 w w' := by
  have H : (crc_Sum.l0 k a0 4294967295 (a0.size : Int) 0) = some r := h
  clear h
  have H' := Aside0.mk H
  clear H
  go_enter Tryd.func37, Tryd.ntmps37
  go_wp2
  go_loopg [3, 7] k (fun kq v3 v7 w' => ∃ (x3_1 : Int) (x7_1 : Int), v3 = .int .u32 x3_1 ∧ v7 = .int .i64 x7_1 ∧ Aside0 (crc_Sum.l0 kq a0 x3_1 (a0.size : Int) x7_1 = some r) ∧ Aside0 (kq ≤ k) ∧ Drawn0 w w')
  case atStart => exact ⟨(4294967295), (0), (by first | rfl | (simp; done) | (simp [*]; done)), (by first | rfl | (simp; done) | (simp [*]; done)), H', ⟨Nat.le_refl _⟩, by repeat (first | exact Drawn0.refl _ | apply Drawn0.step)⟩
  case round =>
    clear H'
    obtain ⟨x3_1, x7_1, rfl, rfl, HA, HK1, ⟨m1, rfl⟩⟩ := hrel
    cases gk with
    | zero => exact absurd HA.out (by simp [crc_Sum.l0])
    | succ k1 =>
      have H := HA.out
      clear HA
      simp only [crc_Sum.l0] at H
      by_cases c2 : x7_1 < (a0.size : Int)
      · rw [if_pos c2] at H
        have c2b0 : decide (x7_1 < (a0.size : Int)) = true := decide_eq_true c2
        clear c2
        by_cases c3 : 0 ≤ x7_1
        · rw [if_pos c3] at H
          have c3b0 : decide (0 ≤ x7_1) = true := decide_eq_true c3
          clear c3
          by_cases c4 : x7_1 < (a0.size : Int)
          · rw [if_pos c4] at H
            have c4b0 : decide (x7_1 < (a0.size : Int)) = true := decide_eq_true c4
            clear c4
            have H' := Aside0.mk H
            clear H
            have p5 : 0 ≤ (x7_1 : Int) := of_decide_eq_true (by first | (with_reducible assumption) | assumption)
            have q5 : x7_1 < (a0.size : Int) := of_decide_eq_true (by first | (with_reducible assumption) | assumption)
            have hx5 := bt_at a0 x7_1
            replace p5 := eq_true p5
            replace q5 := eq_true q5
            go_wp2
            go_loopg [3, 16] k1 (fun kq v3 v16 w' => ∃ (x3_2 : Int) (x16_2 : Int), v3 = .int .u32 x3_2 ∧ v16 = .int .i64 x16_2 ∧ Aside0 (crc_Sum.l1 kq a0 x3_2 (a0.size : Int) x7_1 x16_2 = some r) ∧ Aside0 (kq ≤ k1) ∧ Drawn0 w w')
            case atStart => exact ⟨(Go.bits .xor .u32 x3_1 ((bt a0 x7_1) % 4294967296)), (0), (by first | rfl | (simp; done) | (simp [*]; done)), (by first | rfl | (simp; done) | (simp [*]; done)), H', ⟨Nat.le_refl _⟩, by repeat (first | exact Drawn0.refl _ | apply Drawn0.step)⟩
            case round =>
              clear H'
              try clear c2
              try clear c2b0
              try clear p2
              try clear c3
              try clear c3b0
              try clear c4
              try clear c4b0
              try clear p5
              try clear q5
              try clear hx5
              try clear p5
              try clear q5
              obtain ⟨x3_2, x16_2, rfl, rfl, HA, HK2, ⟨m2, rfl⟩⟩ := hrel
              cases gk with
              | zero => exact absurd HA.out (by simp [crc_Sum.l1])
              | succ k2 =>
                have H := HA.out
                clear HA
                simp only [crc_Sum.l1] at H
                by_cases c6 : x16_2 < 8
                · rw [if_pos c6] at H
                  have c6b0 : decide (x16_2 < 8) = true := decide_eq_true c6
                  clear c6
                  by_cases c7 : (Go.bits .and .u32 x3_2 1) = 1
                  · rw [if_pos c7] at H
                    have c7b0 : ((Go.bits .and .u32 x3_2 1) == 1) = true := beq_iff_eq.mpr c7
                    have c7b1 : ((Go.bits .and .u32 x3_2 1) != 1) = false := bne_eq_false_iff_eq.mpr c7
                    clear c7
                    have H' := Aside0.mk H
                    clear H
                    go_wp2
                    go_roundg k2
                    case measure => have := HK1.out; have := HK2.out; omega
                    case rel => exact ⟨(Go.bits .xor .u32 (x3_2 / 2) 3988292384), (wrap64 (x16_2 + 1)), (by first | rfl | (simp; done) | (simp [*]; done)), (by first | rfl | (simp; done) | (simp [*]; done)), H', ⟨by have := HK1.out; have := HK2.out; omega⟩, by repeat (first | exact Drawn0.refl _ | apply Drawn0.step)⟩
                  · rw [if_neg c7] at H
                    have c7b0 : ((Go.bits .and .u32 x3_2 1) == 1) = false := beq_eq_false_iff_ne.mpr c7
                    have c7b1 : ((Go.bits .and .u32 x3_2 1) != 1) = true := bne_iff_ne.mpr c7
                    have H' := Aside0.mk H
                    clear H
                    go_wp2
                    go_roundg k2
                    case measure => have := HK1.out; have := HK2.out; omega
                    case rel => exact ⟨(x3_2 / 2), (wrap64 (x16_2 + 1)), (by first | rfl | (simp; done) | (simp [*]; done)), (by first | rfl | (simp; done) | (simp [*]; done)), H', ⟨by have := HK1.out; have := HK2.out; omega⟩, by repeat (first | exact Drawn0.refl _ | apply Drawn0.step)⟩
                · rw [if_neg c6] at H
                  have c6b0 : decide (x16_2 < 8) = false := decide_eq_false c6
                  clear c6
                  have H' := Aside0.mk H
                  clear H
                  go_wp2
                  go_roundg k2
                  case measure => have := HK1.out; have := HK2.out; omega
                  case rel => exact ⟨(x3_2), (wrap64 (x7_1 + 1)), (by first | rfl | (simp; done) | (simp [*]; done)), (by first | rfl | (simp; done) | (simp [*]; done)), H', ⟨by have := HK1.out; have := HK2.out; omega⟩, by repeat (first | exact Drawn0.refl _ | apply Drawn0.step)⟩
          · rw [if_neg c4] at H
            exact absurd H (by simp)
        · rw [if_neg c3] at H
          exact absurd H (by simp)
      · rw [if_neg c2] at H
        have c2b0 : decide (x7_1 < (a0.size : Int)) = false := decide_eq_false c2
        clear c2
        obtain rfl := Option.some.inj H
        go_wp2
        go_ret
        exact ⟨by first | rfl | (simp; done) | (simp [*]; done), by repeat (first | exact Drawn0.refl _ | apply Drawn0.step)⟩

end Go.Proofs.YtbpobnlkfpjijaaDoorR.Pr
end
-- Pr58
section
namespace Go.Proofs.YtbpobnlkfpjijaaDoorR.Pr
open Go.RowKit Go.Proofs.YtbpobnlkfpjijaaDoorRW.PrintWords Go.Proofs.YtbpobnlkfpjijaaDoorRW.PrintLast Go.Proofs.YtbpobnlkfpjijaaDoorRW.PrintMore
attribute [local go_sem] max2_int min2_int max_two min_two max_three min_three max_four min_four   -- for this text's walks alone
set_option linter.unusedVariables false
set_option linter.unusedSimpArgs false

attribute [local go_sem] Go.Proofs.Aid.cell_set_row
mutual
def tallystickref14_Sum.l0 : Nat → ByteArray → Int → Int → Option (Int)
  | 0, _, _, _ => none
  | k + 1, x0, x3, x4 => if x4 < (x0.size : Int) then (tallystickref14_Sum.l1 k x0 x3 x4 0) else (some ((4294967295 - x3) % 4294967296))
def tallystickref14_Sum.l1 : Nat → ByteArray → Int → Int → Int → Option (Int)
  | 0, _, _, _, _ => none
  | k + 1, x0, x3, x4, x5 => if x5 < 8 then (if 0 ≤ x4 then (if x4 < (x0.size : Int) then (if 0 ≤ (IntKind.u64.wrap (x5)) then (if (Go.bits .and .u32 x3 1) = (Go.bits .and .u32 ((shr .u8 (bt x0 x4) (IntKind.u64.wrap (x5))) % 4294967296) 1) then (tallystickref14_Sum.l1 k x0 ((Int.tdiv x3 2) % 4294967296) x4 (wrap64 (x5 + 1))) else (tallystickref14_Sum.l1 k x0 (Go.bits .xor .u32 ((Int.tdiv x3 2) % 4294967296) 3988292384) x4 (wrap64 (x5 + 1)))) else (none)) else (none)) else (none)) else (tallystickref14_Sum.l0 k x0 x3 (wrap64 (x4 + 1)))
end
def tallystickref14_Sum.f (k : Nat) (a0 : ByteArray) : Option (Int) := tallystickref14_Sum.l0 k a0 4294967295 0
theorem tallystickref14_Sum.mono_l : ∀ k, (∀ y0 y1 y2, LeO (tallystickref14_Sum.l0 k y0 y1 y2) (tallystickref14_Sum.l0 (k + 1) y0 y1 y2)) ∧ (∀ y0 y1 y2 y3, LeO (tallystickref14_Sum.l1 k y0 y1 y2 y3) (tallystickref14_Sum.l1 (k + 1) y0 y1 y2 y3))
  | 0 => ⟨fun _ _ _ r h => by simp [tallystickref14_Sum.l0] at h, fun _ _ _ _ r h => by simp [tallystickref14_Sum.l1] at h⟩
  | k + 1 => by
    obtain ⟨ih0, ih1⟩ := tallystickref14_Sum.mono_l k
    refine ⟨?_, ?_⟩
    · intro y0 y1 y2
      unfold tallystickref14_Sum.l0
      repeat' first
      | (with_reducible exact ih0 _ _ _)
      | (with_reducible exact ih1 _ _ _ _)
      | (with_reducible exact LeO.refl _)
      | (with_reducible exact LeO.none _)
      | (with_reducible refine LeO.ite ?_ ?_)
      | (with_reducible refine LeO.bind ?_ (fun _ => ?_))
      | exact ih0 _ _ _
      | exact ih1 _ _ _ _
      | exact LeO.none _
      | refine LeO.ite ?_ ?_
      | refine LeO.bind ?_ (fun _ => ?_)
    · intro y0 y1 y2 y3
      unfold tallystickref14_Sum.l1
      repeat' first
      | (with_reducible exact ih0 _ _ _)
      | (with_reducible exact ih1 _ _ _ _)
      | (with_reducible exact LeO.refl _)
      | (with_reducible exact LeO.none _)
      | (with_reducible refine LeO.ite ?_ ?_)
      | (with_reducible refine LeO.bind ?_ (fun _ => ?_))
      | exact ih0 _ _ _
      | exact ih1 _ _ _ _
      | exact LeO.none _
      | refine LeO.ite ?_ ?_
      | refine LeO.bind ?_ (fun _ => ?_)
theorem tallystickref14_Sum.mono : ∀ a0 k, LeO (tallystickref14_Sum.f k a0) (tallystickref14_Sum.f (k + 1) a0) := by
  intro a0 k
  obtain ⟨ih0, ih1⟩ := tallystickref14_Sum.mono_l k
  unfold tallystickref14_Sum.f
  repeat' first
      | (with_reducible exact ih0 _ _ _)
      | (with_reducible exact ih1 _ _ _ _)
      | (with_reducible exact LeO.refl _)
      | (with_reducible exact LeO.none _)
      | (with_reducible refine LeO.ite ?_ ?_)
      | (with_reducible refine LeO.bind ?_ (fun _ => ?_))
      | exact ih0 _ _ _
      | exact ih1 _ _ _ _
      | exact LeO.none _
      | refine LeO.ite ?_ ?_
      | refine LeO.bind ?_ (fun _ => ?_)
set_option maxHeartbeats 8000000 in
set_option maxRecDepth 100000 in
theorem tallystickref14_Sum.calls (k : Nat) (a0 : ByteArray) (r : Int) (w : World) (h : tallystickref14_Sum.f k a0 = some r) :
    Calls Tryd.prog 41 #[.string a0] w fun e w' => e = .returned (.int .u32 r) ∧ Drawn0 w w' := by
  have H : (tallystickref14_Sum.l0 k a0 4294967295 0) = some r := h
  clear h
  have H' := Aside0.mk H
  clear H
  go_enter Tryd.func41, Tryd.ntmps41
  go_wp2
  go_loopg [3, 4] k (fun kq v3 v4 w' => ∃ (x3_1 : Int) (x4_1 : Int), v3 = .int .u32 x3_1 ∧ v4 = .int .i64 x4_1 ∧ Aside0 (tallystickref14_Sum.l0 kq a0 x3_1 x4_1 = some r) ∧ Aside0 (kq ≤ k) ∧ Drawn0 w w')
  case atStart => exact ⟨(4294967295), (0), (by first | rfl | (simp; done) | (simp [*]; done)), (by first | rfl | (simp; done) | (simp [*]; done)), H', ⟨Nat.le_refl _⟩, by repeat (first | exact Drawn0.refl _ | apply Drawn0.step)⟩
  case round =>
    clear H'
    obtain ⟨x3_1, x4_1, rfl, rfl, HA, HK1, ⟨m1, rfl⟩⟩ := hrel
    cases gk with
    | zero => exact absurd HA.out (by simp [tallystickref14_Sum.l0])
    | succ k1 =>
      have H := HA.out
      clear HA
      simp only [tallystickref14_Sum.l0] at H
      by_cases c2 : x4_1 < (a0.size : Int)
      · rw [if_pos c2] at H
        have c2b0 : decide (x4_1 < (a0.size : Int)) = true := decide_eq_true c2
        clear c2
        have H' := Aside0.mk H
        clear H
        go_wp2
        go_loopg [3, 5] k1 (fun kq v3 v5 w' => ∃ (x3_2 : Int) (x5_2 : Int), v3 = .int .u32 x3_2 ∧ v5 = .int .i64 x5_2 ∧ Aside0 (tallystickref14_Sum.l1 kq a0 x3_2 x4_1 x5_2 = some r) ∧ Aside0 (kq ≤ k1) ∧ Drawn0 w w')
        case atStart => exact ⟨(x3_1), (0), (by first | rfl | (simp; done) | (simp [*]; done)), (by first | rfl | (simp; done) | (simp [*]; done)), H', ⟨Nat.le_refl _⟩, by repeat (first | exact Drawn0.refl _ | apply Drawn0.step)⟩
        case round =>
          clear H'
          try clear c2
          try clear c2b0
          try clear p2
          obtain ⟨x3_2, x5_2, rfl, rfl, HA, HK2, ⟨m2, rfl⟩⟩ := hrel
          cases gk with
          | zero => exact absurd HA.out (by simp [tallystickref14_Sum.l1])
          | succ k2 =>
            have H := HA.out
            clear HA
            simp only [tallystickref14_Sum.l1] at H
            by_cases c3 : x5_2 < 8
            · rw [if_pos c3] at H
              have c3b0 : decide (x5_2 < 8) = true := decide_eq_true c3
              clear c3
              by_cases c4 : 0 ≤ x4_1
              · rw [if_pos c4] at H
                have c4b0 : decide (0 ≤ x4_1) = true := decide_eq_true c4
                clear c4
                by_cases c5 : x4_1 < (a0.size : Int)
                · rw [if_pos c5] at H
                  have c5b0 : decide (x4_1 < (a0.size : Int)) = true := decide_eq_true c5
                  clear c5
                  obtain ⟨ji7, hji7⟩ : ∃ j_ : Int, (IntKind.u64.wrap (x5_2)) = j_ := ⟨_, rfl⟩
                  replace H : (if 0 ≤ (ji7) then (if (Go.bits .and .u32 x3_2 1) = (Go.bits .and .u32 ((shr .u8 (bt a0 x4_1) (ji7)) % 4294967296) 1) then (tallystickref14_Sum.l1 k2 a0 ((Int.tdiv x3_2 2) % 4294967296) x4_1 (wrap64 (x5_2 + 1))) else (tallystickref14_Sum.l1 k2 a0 (Go.bits .xor .u32 ((Int.tdiv x3_2 2) % 4294967296) 3988292384) x4_1 (wrap64 (x5_2 + 1)))) else (none)) = some r := by first | (rw [hji7] at H; exact H) | (simp only [hji7] at H ⊢; exact H)
                  by_cases c8 : 0 ≤ (ji7)
                  · rw [if_pos c8] at H
                    have c8b0 := eq_true c8
                    have c8b1 : decide (0 ≤ (ji7)) = true := decide_eq_true c8
                    clear c8
                    obtain ⟨ji9, hji9⟩ : ∃ j_ : Int, (shr .u8 (bt a0 x4_1) (ji7)) = j_ := ⟨_, rfl⟩
                    replace H : (if (Go.bits .and .u32 x3_2 1) = (Go.bits .and .u32 ((ji9) % 4294967296) 1) then (tallystickref14_Sum.l1 k2 a0 ((Int.tdiv x3_2 2) % 4294967296) x4_1 (wrap64 (x5_2 + 1))) else (tallystickref14_Sum.l1 k2 a0 (Go.bits .xor .u32 ((Int.tdiv x3_2 2) % 4294967296) 3988292384) x4_1 (wrap64 (x5_2 + 1)))) = some r := by first | (rw [hji9] at H; exact H) | (simp only [hji9] at H ⊢; exact H)
                    have hji9_ : ((bt a0 x4_1) / 2 ^ min (ji7).toNat 8) = ji9 := hji9
                    have hji9z : (ji7) ≤ 8 → ((bt a0 x4_1) / 2 ^ (ji7).toNat) = ji9 := shr_small hji9
                    by_cases c10 : (Go.bits .and .u32 x3_2 1) = (Go.bits .and .u32 ((ji9) % 4294967296) 1)
                    · rw [if_pos c10] at H
                      have c10b0 : ((Go.bits .and .u32 x3_2 1) == (Go.bits .and .u32 ((ji9) % 4294967296) 1)) = true := beq_iff_eq.mpr c10
                      have c10b1 : ((Go.bits .and .u32 x3_2 1) != (Go.bits .and .u32 ((ji9) % 4294967296) 1)) = false := bne_eq_false_iff_eq.mpr c10
                      clear c10
                      have H' := Aside0.mk H
                      clear H
                      have p6 : 0 ≤ (x4_1 : Int) := of_decide_eq_true (by first | (with_reducible assumption) | assumption)
                      have q6 : x4_1 < (a0.size : Int) := of_decide_eq_true (by first | (with_reducible assumption) | assumption)
                      have hx6 := bt_at a0 x4_1
                      replace p6 := eq_true p6
                      replace q6 := eq_true q6
                      go_wp2
                      go_roundg k2
                      case measure => have := HK1.out; have := HK2.out; omega
                      case rel => exact ⟨((Int.tdiv x3_2 2) % 4294967296), (wrap64 (x5_2 + 1)), (by first | rfl | (simp; done) | (simp [*]; done)), (by first | rfl | (simp; done) | (simp [*]; done)), H', ⟨by have := HK1.out; have := HK2.out; omega⟩, by repeat (first | exact Drawn0.refl _ | apply Drawn0.step)⟩
                    · rw [if_neg c10] at H
                      have c10b0 : ((Go.bits .and .u32 x3_2 1) == (Go.bits .and .u32 ((ji9) % 4294967296) 1)) = false := beq_eq_false_iff_ne.mpr c10
                      have c10b1 : ((Go.bits .and .u32 x3_2 1) != (Go.bits .and .u32 ((ji9) % 4294967296) 1)) = true := bne_iff_ne.mpr c10
                      have H' := Aside0.mk H
                      clear H
                      have p6 : 0 ≤ (x4_1 : Int) := of_decide_eq_true (by first | (with_reducible assumption) | assumption)
                      have q6 : x4_1 < (a0.size : Int) := of_decide_eq_true (by first | (with_reducible assumption) | assumption)
                      have hx6 := bt_at a0 x4_1
                      replace p6 := eq_true p6
                      replace q6 := eq_true q6
                      go_wp2
                      go_roundg k2
                      case measure => have := HK1.out; have := HK2.out; omega
                      case rel => exact ⟨(Go.bits .xor .u32 ((Int.tdiv x3_2 2) % 4294967296) 3988292384), (wrap64 (x5_2 + 1)), (by first | rfl | (simp; done) | (simp [*]; done)), (by first | rfl | (simp; done) | (simp [*]; done)), H', ⟨by have := HK1.out; have := HK2.out; omega⟩, by repeat (first | exact Drawn0.refl _ | apply Drawn0.step)⟩
                  · rw [if_neg c8] at H
                    exact absurd H (by simp)
                · rw [if_neg c5] at H
                  exact absurd H (by simp)
              · rw [if_neg c4] at H
                exact absurd H (by simp)
            · rw [if_neg c3] at H
              have c3b0 : decide (x5_2 < 8) = false := decide_eq_false c3
              clear c3
              have H' := Aside0.mk H
              clear H
              go_wp2
              go_roundg k2
              case measure => have := HK1.out; have := HK2.out; omega
              case rel => exact ⟨(x3_2), (wrap64 (x4_1 + 1)), (by first | rfl | (simp; done) | (simp [*]; done)), (by first | rfl | (simp; done) | (simp [*]; done)), H', ⟨by have := HK1.out; have := HK2.out; omega⟩, by repeat (first | exact Drawn0.refl _ | apply Drawn0.step)⟩
      · rw [if_neg c2] at H
        have c2b0 : decide (x4_1 < (a0.size : Int)) = false := decide_eq_false c2
        clear c2
        obtain rfl := Option.some.inj H
        go_wp2
        go_ret
        exact ⟨by first | rfl | (simp; done) | (simp [*]; done), by repeat (first | exact Drawn0.refl _ | apply Drawn0.step)⟩

end Go.Proofs.YtbpobnlkfpjijaaDoorR.Pr
end
-- Su
section
namespace Go.Proofs.YtbpobnlkfpjijaaDoorR.Pr
open Go.RowKit Go.Proofs.YtbpobnlkfpjijaaDoorRW.PrintWords Go.Proofs.YtbpobnlkfpjijaaDoorRW.PrintLast Go.Proofs.YtbpobnlkfpjijaaDoorRW.PrintMore
set_option linter.unusedVariables false
set_option linter.unusedSimpArgs false
def poly : Nat := 3988292384
/-- One turn. -/
def cstep (u : Nat) : Nat := if u % 2 = 1 then (u / 2) ^^^ poly else u / 2
def citer : Nat → Nat → Nat
  | 0, u => u
  | d + 1, u => citer d (cstep u)
def cbyte (v b : Nat) : Nat := citer 8 (v ^^^ b)
def sumN : List UInt8 → Nat → Nat
  | [], v => v
  | b :: l, v => sumN l (cbyte v b.toNat)
def sumF (s : ByteArray) : Int := 4294967295 - (sumN s.data.toList 4294967295 : Int)
theorem w32 (x : Int) : IntKind.u32.wrap x = x % 4294967296 := by simp [IntKind.wrap, IntKind.bits, IntKind.signed]
theorem xor32 (a b : Nat) (ha : a < 4294967296) (hb : b < 4294967296) : Go.bits .xor .u32 (a : Int) (b : Int) = ((a ^^^ b : Nat) : Int) ∧ a ^^^ b < 4294967296 := by
  have hx : a ^^^ b < 2 ^ 32 := Nat.xor_lt_two_pow (by simpa using ha) (by simpa using hb)
  have hx2 : a ^^^ b < 4294967296 := by simpa using hx
  refine ⟨?_, hx2⟩
  have ha' : a % 2 ^ 32 = a := Nat.mod_eq_of_lt (by simpa using ha)
  have hb' : b % 2 ^ 32 = b := Nat.mod_eq_of_lt (by simpa using hb)
  have e : (BitVec.ofNat 32 a ^^^ BitVec.ofNat 32 b).toNat = a ^^^ b := by rw [BitVec.toNat_xor, BitVec.toNat_ofNat, BitVec.toNat_ofNat, ha', hb']
  show IntKind.u32.wrap ((BitVec.ofInt 32 (a : Int) ^^^ BitVec.ofInt 32 (b : Int)).toNat : Int) = _
  rw [BitVec.ofInt_natCast, BitVec.ofInt_natCast, e, w32]
  omega
theorem and32 (a : Nat) (ha : a < 4294967296) : Go.bits .and .u32 (a : Int) 1 = ((a % 2 : Nat) : Int) := by
  have := (bits_nat .u32 32 (by decide) (fun n h0 h1 => by rw [w32]; have : n < 4294967296 := by simpa using h1
                                                           omega) a 1 (by simpa using ha) (by decide)).1
  rw [show ((1 : Int)) = ((1 : Nat) : Int) from rfl, this, Nat.and_one_is_mod]
theorem cstep_lt (u : Nat) (h : u < 4294967296) : cstep u < 4294967296 := by
  unfold cstep
  split
  · exact (xor32 (u / 2) poly (by omega) (by decide)).2
  · omega
theorem crc_turns (s : ByteArray) (n i : Nat) (hi : i < 9223372036854775807) (k : Nat) : ∀ (d u : Nat), d ≤ 8 → u < 4294967296 →
    crc_Sum.l1 (k + d + 1) s (u : Int) (n : Int) (i : Int) ((8 - d : Nat) : Int) = crc_Sum.l0 k s (citer d u : Int) (n : Int) ((i + 1 : Nat) : Int)
  | 0, u, _, _ => by
    unfold crc_Sum.l1
    rw [if_neg (by omega), wrap_i i hi]
    rfl
  | d + 1, u, hd, hu => by
    have ih := crc_turns s n i hi k d (cstep u) (by omega) (cstep_lt u hu)
    show crc_Sum.l1 ((k + d + 1) + 1) s (u : Int) (n : Int) (i : Int) ((8 - (d + 1) : Nat) : Int) = _
    unfold crc_Sum.l1
    rw [if_pos (by omega), and32 u hu]
    have hw : wrap64 (((8 - (d + 1) : Nat) : Int) + 1) = ((8 - d : Nat) : Int) := by rw [wrap_i _ (by omega)]; omega
    rw [hw]
    have hh : ((u : Int) / 2) = ((u / 2 : Nat) : Int) := by omega
    by_cases h1 : u % 2 = 1
    · rw [if_pos (by omega), hh, show (3988292384 : Int) = ((poly : Nat) : Int) from rfl, (xor32 (u / 2) poly (by omega) (by decide)).1]
      have : cstep u = (u / 2) ^^^ poly := by unfold cstep; rw [if_pos h1]
      rw [this] at ih
      exact ih.trans (by show _ = crc_Sum.l0 k s (citer d (cstep u) : Int) _ _; rw [this])
    · rw [if_neg (by omega), hh]
      have : cstep u = u / 2 := by unfold cstep; rw [if_neg h1]
      rw [this] at ih
      exact ih.trans (by show _ = crc_Sum.l0 k s (citer d (cstep u) : Int) _ _; rw [this])
theorem citer_lt : ∀ (d u : Nat), u < 4294967296 → citer d u < 4294967296
  | 0, u, h => h
  | d + 1, u, h => citer_lt d _ (cstep_lt u h)
theorem cbyte_lt (v b : Nat) (hv : v < 4294967296) (hb : b < 256) : cbyte v b < 4294967296 := citer_lt 8 _ (xor32 v b hv (by omega)).2
theorem notx (v : Nat) (hv : v < 4294967296) : Go.bits .xor .u32 4294967295 (v : Int) = 4294967295 - (v : Int) := by
  have h := (xor32 4294967295 v (by decide) hv).1
  have h2 : 4294967295 ^^^ v = 4294967295 - v := by
    have e : (BitVec.ofNat 32 4294967295 ^^^ BitVec.ofNat 32 v).toNat = (~~~ (BitVec.ofNat 32 v)).toNat := by
      rw [show BitVec.ofNat 32 4294967295 = BitVec.allOnes 32 from by decide, BitVec.allOnes_xor]
    rw [BitVec.toNat_xor, BitVec.toNat_not, BitVec.toNat_ofNat, BitVec.toNat_ofNat, Nat.mod_eq_of_lt (show v < 2 ^ 32 by simpa using hv)] at e
    simpa using e
  rw [show (4294967295 : Int) = ((4294967295 : Nat) : Int) from rfl, h, h2]
  omega
theorem crc_sum_l (s : ByteArray) (hs : s.size < 9223372036854775807) : ∀ (d i k v : Nat), i + d = s.size → v < 4294967296 →
    crc_Sum.l0 (k + 10 * d + 1) s (v : Int) (s.size : Int) (i : Int) = some (4294967295 - (sumN (s.data.toList.drop i) v : Int))
  | 0, i, k, v, hi, hv => by
    unfold crc_Sum.l0
    rw [if_neg (by omega), List.drop_of_length_le (by simp; omega), notx v hv]
    rfl
  | d + 1, i, k, v, hi, hv => by
    obtain ⟨b, hb, h1, h2, h3⟩ := drop_bt s i (by omega)
    have hb2 : b.toNat < 256 := b.toNat_lt
    have ih := crc_sum_l s hs d (i + 1) k (cbyte v b.toNat) (by omega) (cbyte_lt v _ hv hb2)
    rw [show k + 10 * (d + 1) + 1 = (k + 10 * d + 1) + 8 + 1 + 1 by omega]
    unfold crc_Sum.l0
    rw [if_pos (by omega), if_pos (by omega), if_pos (by omega), h1, hb]
    have e : (b.toNat : Int) % 4294967296 = ((b.toNat : Nat) : Int) := by omega
    have ht := crc_turns s s.size i (by omega) (k + 10 * d + 1) 8 (v ^^^ b.toNat) (Nat.le_refl _) (xor32 v _ hv (by omega)).2
    rw [e, (xor32 v _ hv (by omega)).1]
    exact ht.trans ih
theorem sum_crc (s : ByteArray) (hs : s.size < 9223372036854775807) (k : Nat) : crc_Sum.f (k + 10 * s.size + 1) s = some (sumF s) := by
  unfold crc_Sum.f
  exact crc_sum_l s hs s.size 0 k 4294967295 (by omega) (by decide)
def rstep (b j v : Nat) : Nat := if v % 2 = (b / 2 ^ j) % 2 then v / 2 else (v / 2) ^^^ poly
theorem rstep_lt (b j v : Nat) (h : v < 4294967296) : rstep b j v < 4294967296 := by
  unfold rstep
  split
  · omega
  · exact (xor32 (v / 2) poly (by omega) (by decide)).2
theorem xor_mod2 (a b : Nat) : (a ^^^ b) % 2 = if a % 2 = b % 2 then 0 else 1 := by
  have h := Nat.xor_mod_two_pow (a := a) (b := b) (n := 1)
  simp only [Nat.pow_one] at h
  rw [h]
  rcases Nat.mod_two_eq_zero_or_one a with ha | ha <;> rcases Nat.mod_two_eq_zero_or_one b with hb | hb <;> rw [ha, hb] <;> decide
theorem xor_div2 (a b : Nat) : (a ^^^ b) / 2 = (a / 2) ^^^ (b / 2) := by
  have h := Nat.xor_div_two_pow (a := a) (b := b) (n := 1)
  simpa using h
theorem steps_agree (b j v : Nat) : cstep (v ^^^ (b / 2 ^ j)) = rstep b j v ^^^ (b / 2 ^ (j + 1)) := by
  have hd : b / 2 ^ (j + 1) = b / 2 ^ j / 2 := by rw [Nat.pow_succ, Nat.div_div_eq_div_mul]
  unfold cstep rstep
  rw [xor_mod2, xor_div2, hd]
  by_cases h : v % 2 = b / 2 ^ j % 2
  · rw [if_pos h, if_pos h, if_neg (by decide)]
  · rw [if_neg h, if_neg h, if_pos rfl, Nat.xor_assoc, Nat.xor_assoc, Nat.xor_comm poly]
def riter (b : Nat) : Nat → Nat → Nat → Nat
  | 0, _, v => v
  | d + 1, j, v => riter b d (j + 1) (rstep b j v)
theorem iter_agree (b : Nat) : ∀ (d j v : Nat), citer d (v ^^^ (b / 2 ^ j)) = riter b d j v ^^^ (b / 2 ^ (j + d))
  | 0, j, v => rfl
  | d + 1, j, v => by
    show citer d (cstep (v ^^^ (b / 2 ^ j))) = riter b d (j + 1) (rstep b j v) ^^^ _
    rw [steps_agree, iter_agree b d (j + 1) (rstep b j v), show j + 1 + d = j + (d + 1) by omega]
theorem byte_agree (b v : Nat) (hb : b < 256) : riter b 8 0 v = cbyte v b := by
  have h := iter_agree b 8 0 v
  rw [Nat.pow_zero, Nat.div_one, show b / 2 ^ (0 + 8) = 0 from Nat.div_eq_of_lt (by simpa using hb), Nat.xor_zero] at h
  exact h.symm
theorem shr8 (b : UInt8) (j : Nat) (hj : j < 8) : (shr .u8 (b.toNat : Int) (IntKind.u64.wrap (j : Int))) % 4294967296 = ((b.toNat / 2 ^ j : Nat) : Int) := by
  have hb := b.toNat_lt
  unfold shr
  rw [w64, show ((j : Int) % 18446744073709551616) = ((j : Nat) : Int) by omega, Int.toNat_natCast, show min j (IntKind.u8.bits) = j from Nat.min_eq_left (by show j ≤ 8; omega)]
  have : (b.toNat : Int) / 2 ^ j = ((b.toNat / 2 ^ j : Nat) : Int) := by
    rw [Int.natCast_ediv]; simp
  rw [this]
  have h2 : b.toNat / 2 ^ j ≤ b.toNat := Nat.div_le_self _ _
  generalize b.toNat / 2 ^ j = q at h2 ⊢
  omega
theorem ref_turns (s : ByteArray) (i : Nat) (b : UInt8) (hi : i < s.size) (hs : s.size < 9223372036854775807) (hbt : bt s (i : Int) = (b.toNat : Int)) (k : Nat) : ∀ (d v : Nat), d ≤ 8 → v < 4294967296 →
    tallystickref14_Sum.l1 (k + d + 1) s (v : Int) (i : Int) ((8 - d : Nat) : Int) = tallystickref14_Sum.l0 k s (riter b.toNat d (8 - d) v : Int) ((i + 1 : Nat) : Int)
  | 0, v, _, _ => by
    unfold tallystickref14_Sum.l1
    rw [if_neg (by omega), wrap_i i (by omega)]
    rfl
  | d + 1, v, hd, hv => by
    have hb := b.toNat_lt
    have ih := ref_turns s i b hi hs hbt k d (rstep b.toNat (8 - (d + 1)) v) (by omega) (rstep_lt _ _ v hv)
    show tallystickref14_Sum.l1 ((k + d + 1) + 1) s (v : Int) (i : Int) ((8 - (d + 1) : Nat) : Int) = _
    unfold tallystickref14_Sum.l1
    have hsm : b.toNat / 2 ^ (8 - (d + 1)) < 4294967296 := by
      have h2 : b.toNat / 2 ^ (8 - (d + 1)) ≤ b.toNat := Nat.div_le_self _ _
      omega
    rw [if_pos (by omega), if_pos (by omega), if_pos (by omega), if_pos (by rw [w64]; omega), hbt, shr8 b _ (by omega), and32 v hv, and32 _ hsm]
    have hw : wrap64 (((8 - (d + 1) : Nat) : Int) + 1) = ((8 - d : Nat) : Int) := by rw [wrap_i _ (by omega)]; omega
    rw [hw]
    have hh : (Int.tdiv (v : Int) 2) % 4294967296 = ((v / 2 : Nat) : Int) := by
      rw [Int.tdiv_eq_ediv_of_nonneg (by omega)]; omega
    rw [hh]
    have hr : riter b.toNat (d + 1) (8 - (d + 1)) v = riter b.toNat d (8 - d) (rstep b.toNat (8 - (d + 1)) v) := by
      show riter b.toNat d (8 - (d + 1) + 1) _ = _
      rw [show 8 - (d + 1) + 1 = 8 - d by omega]
    rw [hr]
    by_cases h1 : v % 2 = b.toNat / 2 ^ (8 - (d + 1)) % 2
    · rw [if_pos (by omega)]
      have : rstep b.toNat (8 - (d + 1)) v = v / 2 := by unfold rstep; rw [if_pos h1]
      rw [this] at ih ⊢
      exact ih
    · rw [if_neg (by omega), show (3988292384 : Int) = ((poly : Nat) : Int) from rfl, (xor32 (v / 2) poly (by omega) (by decide)).1]
      have : rstep b.toNat (8 - (d + 1)) v = (v / 2) ^^^ poly := by unfold rstep; rw [if_neg h1]
      rw [this] at ih ⊢
      exact ih
theorem sumN_lt : ∀ (l : List UInt8) (v : Nat), v < 4294967296 → sumN l v < 4294967296
  | [], v, h => h
  | b :: l, v, h => sumN_lt l _ (cbyte_lt v _ h b.toNat_lt)
theorem ref_sum_l (s : ByteArray) (hs : s.size < 9223372036854775807) : ∀ (d i k v : Nat), i + d = s.size → v < 4294967296 →
    tallystickref14_Sum.l0 (k + 10 * d + 1) s (v : Int) (i : Int) = some (4294967295 - (sumN (s.data.toList.drop i) v : Int))
  | 0, i, k, v, hi, hv => by
    unfold tallystickref14_Sum.l0
    rw [if_neg (by omega), List.drop_of_length_le (by simp; omega)]
    show some ((4294967295 - (v : Int)) % 4294967296) = some (4294967295 - (v : Int))
    congr 1
    omega
  | d + 1, i, k, v, hi, hv => by
    obtain ⟨b, hb, h1, h2, h3⟩ := drop_bt s i (by omega)
    have hb2 : b.toNat < 256 := b.toNat_lt
    have ih := ref_sum_l s hs d (i + 1) k (cbyte v b.toNat) (by omega) (cbyte_lt v _ hv hb2)
    rw [show k + 10 * (d + 1) + 1 = (k + 10 * d + 1) + 8 + 1 + 1 by omega]
    unfold tallystickref14_Sum.l0
    rw [if_pos (by omega), hb]
    have ht := ref_turns s i b (by omega) hs h1 (k + 10 * d + 1) 8 v (Nat.le_refl _) hv
    rw [show (8 - 8 : Nat) = 0 from rfl, byte_agree _ _ hb2] at ht
    exact ht.trans ih
theorem sum_ref (s : ByteArray) (hs : s.size < 9223372036854775807) (k : Nat) : tallystickref14_Sum.f (k + 10 * s.size + 1) s = some (sumF s) := by
  unfold tallystickref14_Sum.f
  exact ref_sum_l s hs s.size 0 k 4294967295 (by omega) (by decide)
theorem sumF_range (s : ByteArray) : 0 ≤ sumF s ∧ sumF s < 4294967296 := by
  have := sumN_lt s.data.toList 4294967295 (by decide)
  unfold sumF
  omega
/-- crc.Sum. -/
theorem sum_calls (s : ByteArray) (hs : s.size < 9223372036854775807) (w : World) : Calls Tryd.prog 37 #[.string s] w fun e w' => e = .returned (.int .u32 (sumF s)) ∧ ∃ n, w' = w.drewN n :=
  (crc_Sum.calls _ s _ w (sum_crc s hs 0)).mono fun _ _ h => ⟨h.1, h.2.out⟩
/-- The document's sum. -/
theorem rsum_calls (s : ByteArray) (hs : s.size < 9223372036854775807) (w : World) : Calls Tryd.prog 41 #[.string s] w fun e w' => e = .returned (.int .u32 (sumF s)) ∧ ∃ n, w' = w.drewN n :=
  (tallystickref14_Sum.calls _ s _ w (sum_ref s hs 0)).mono fun _ _ h => ⟨h.1, h.2.out⟩
end Go.Proofs.YtbpobnlkfpjijaaDoorR.Pr
end
-- Ea
section
namespace Go.Proofs.YtbpobnlkfpjijaaDoorR.Ea
open Go.RowKit Go.Extern.Stop Go.Stop Go.Extern
set_option linter.unusedVariables false
set_option linter.unusedSimpArgs false
theorem as_nil (t : Value) (w : World) :
    Calls Tryd.prog 39 #[.nilIface, t] w fun e w' => e = .returned (.bool false) ∧ w' = w := by
  go_enter Tryd.func39, Tryd.ntmps39
  go_wp2
  go_ret
  exact ⟨rfl, rfl⟩
theorem unwrap_calls (n u : Value) (w : World) : Calls Tryd.prog 98 #[.agg #[n, u]] w fun e w' => e = .returned u ∧ w' = w.alloc (.cells #[n, u] 104) := by
  go_enter Tryd.func98, Tryd.ntmps98
  go_wp2
  go_ret
  exact ⟨rfl, rfl⟩
theorem valueOf90 (t : Addr) (w : World) : (ReflectliteValue.unpack (.iface 90 (.pointer (some t)))).run Tryd.prog w
    = .ok (.agg #[.pointer (some ⟨5, 90, none⟩), .pointer (some ⟨w.heap.size, 0, none⟩), .int .u64 150]) (w.alloc (.cells #[.pointer (some t)] 90)) := by kernel_rfl
theorem type90 (a : Addr) (w : World) : (ReflectliteValue.methodAny (ReflectliteValue.valueError "reflectlite.Value.Type" 0) (fun t _ _ _ => ReflectliteType.toType t) #[.agg #[.pointer (some ⟨5, 90, none⟩), .pointer (some a), .int .u64 150]]).run Tryd.prog w
    = .ok (.iface 137 (.agg #[.pointer (some ⟨5, 90, none⟩)])) w := by kernel_rfl
theorem kind90 (w : World) : ((ReflectliteType.abiMethod fun t => (fun a : Nat => Value.int IntKind.u8 (a : Int)) <$> Rtype.kind t) #[.pointer (some ⟨5, 90, none⟩)]).run Tryd.prog w = .ok (.int .u8 22) w := by kernel_rfl
theorem kind88 (w : World) : ((ReflectliteType.abiMethod fun t => (fun a : Nat => Value.int IntKind.u8 (a : Int)) <$> Rtype.kind t) #[.pointer (some ⟨5, 88, none⟩)]).run Tryd.prog w = .ok (.int .u8 22) w := by kernel_rfl
theorem rlm (z : Sem Value) (f : TypeId → Addr → Nat → Nat → Sem Value) (v : Value) :
    ReflectliteValue.method z f #[v] = (do match ← ReflectliteValue.parts v with | none => z | some (t, a, fl) => f t a fl (fl % 32)) := rfl
theorem parts90 (a : Addr) (w : World) : (ReflectliteValue.parts (.agg #[.pointer (some ⟨5, 90, none⟩), .pointer (some a), .int .u64 150])).run Tryd.prog w = .ok (some (90, a, 150)) w := by kernel_rfl
theorem isNil90 (a p : Addr) (W : World) (ha : W.cell? a = some (.pointer (some p))) :
    (ReflectliteValue.method (ReflectliteValue.valueError "reflectlite.Value.IsNil" 0) ReflectliteValue.isNil #[.agg #[.pointer (some ⟨5, 90, none⟩), .pointer (some a), .int .u64 150]]).run Tryd.prog W = .ok (.bool false) W := by
  rw [rlm]
  simp only [Sem.run_bind, parts90, Result.andThen]
  simp [ReflectliteValue.isNil, loadVar, isAgg, underlying, Tryd.underlying90, ha, Result.andThen]
theorem elem90 (w : World) : (ReflectliteType.method ReflectliteType.elem #[.agg #[.pointer (some ⟨5, 90, none⟩)]]).run Tryd.prog w = .ok (.iface 137 (.agg #[.pointer (some ⟨5, 88, none⟩)])) w := by kernel_rfl
theorem implements88 (w : World) : (ReflectliteType.relation "Implements" ReflectliteType.implements_ #[.agg #[.pointer (some ⟨5, 88, none⟩)], .iface 137 (.agg #[.pointer (some ⟨5, 74, none⟩)])]).run Tryd.prog w = .ok (.bool true) w := by kernel_rfl
theorem typeOf88 (v : Value) (w : World) : (ReflectliteType.typeOf #[.iface 88 v]).run Tryd.prog w = .ok (.iface 137 (.agg #[.pointer (some ⟨5, 88, none⟩)])) w := by kernel_rfl
theorem typeOf104 (v : Value) (w : World) : (ReflectliteType.typeOf #[.iface 104 v]).run Tryd.prog w = .ok (.iface 137 (.agg #[.pointer (some ⟨5, 104, none⟩)])) w := by kernel_rfl
theorem assignable88 (w : World) : (ReflectliteType.relation "AssignableTo" ReflectliteType.assignableTo #[.agg #[.pointer (some ⟨5, 88, none⟩)], .iface 137 (.agg #[.pointer (some ⟨5, 88, none⟩)])]).run Tryd.prog w = .ok (.bool true) w := by kernel_rfl
theorem assignable104 (w : World) : (ReflectliteType.relation "AssignableTo" ReflectliteType.assignableTo #[.agg #[.pointer (some ⟨5, 104, none⟩)], .iface 137 (.agg #[.pointer (some ⟨5, 88, none⟩)])]).run Tryd.prog w = .ok (.bool false) w := by kernel_rfl
theorem valueOf88 (e : Addr) (w : World) : (ReflectliteValue.unpack (.iface 88 (.pointer (some e)))).run Tryd.prog w
    = .ok (.agg #[.pointer (some ⟨5, 88, none⟩), .pointer (some ⟨w.heap.size, 0, none⟩), .int .u64 150]) (w.alloc (.cells #[.pointer (some e)] 88)) := by kernel_rfl
theorem elemOf90 (w : World) : (Rtype.elem? 90).run Tryd.prog w = .ok (some 88) w := by kernel_rfl
theorem mk88 (p : Addr) (w : World) : (ReflectliteValue.mk 88 p ReflectliteValue.flagAddr).run Tryd.prog w = .ok (.agg #[.pointer (some ⟨5, 88, none⟩), .pointer (some p), .int .u64 406]) w := by kernel_rfl
theorem elemV90 (a p : Addr) (W : World) (ha : W.cell? a = some (.pointer (some p))) :
    (ReflectliteValue.method (ReflectliteValue.valueError "reflectlite.Value.Elem" 0) ReflectliteValue.elem #[.agg #[.pointer (some ⟨5, 90, none⟩), .pointer (some a), .int .u64 150]]).run Tryd.prog W
      = .ok (.agg #[.pointer (some ⟨5, 88, none⟩), .pointer (some p), .int .u64 406]) W := by
  rw [rlm]
  simp only [Sem.run_bind, parts90, Result.andThen]
  simp [ReflectliteValue.elem, loadVar, isAgg, underlying, Tryd.underlying90, ha, Result.andThen, elemOf90, mk88]
theorem rls (v x : Value) : ReflectliteValue.set #[v, x] = (do
    let (some (dst, a, fl), some (src, b, _)) := (← ReflectliteValue.parts v, ← ReflectliteValue.parts x)
      | unsupported (.noEntry "extern/(internal/reflectlite.Value).Set.zeroValue")
    if fl / ReflectliteValue.flagAddr % 2 == 0 then unsupported (.noEntry "extern/(internal/reflectlite.Value).Set.unaddressable")
    let val ← loadVar src b
    if ← Rtype.directlyAssignable dst src then storeVar dst a val
    else if ← Rtype.implements dst src then
      if (← Rtype.kind src) == 20 then
        match val with
        | .nilIface => unsupported (.noEntry "extern/reflectlite: a nil value of one interface type handed on as a value of another")
        | _ => storeVar dst a val
      else storeVar dst a (.iface src val)
    else panicString ("reflectlite.Set: value of type " ++ (← Rtype.spelt src) ++ " is not assignable to type " ++ (← Rtype.spelt dst))
    pure (.tuple #[])) := rfl
theorem parts88a (a : Addr) (w : World) : (ReflectliteValue.parts (.agg #[.pointer (some ⟨5, 88, none⟩), .pointer (some a), .int .u64 406])).run Tryd.prog w = .ok (some (88, a, 406)) w := by kernel_rfl
theorem parts88 (a : Addr) (w : World) : (ReflectliteValue.parts (.agg #[.pointer (some ⟨5, 88, none⟩), .pointer (some a), .int .u64 150])).run Tryd.prog w = .ok (some (88, a, 150)) w := by kernel_rfl
theorem direct88 (w : World) : (Rtype.directlyAssignable 88 88).run Tryd.prog w = .ok true w := by kernel_rfl
theorem set88 (ta b e : Addr) (old : Value) (W : World) (hb : W.cell? b = some (.pointer (some e))) (ht : W.cell? ta = some old) (hf : W.frozen? ta = false) :
    (ReflectliteValue.set #[.agg #[.pointer (some ⟨5, 88, none⟩), .pointer (some ta), .int .u64 406], .agg #[.pointer (some ⟨5, 88, none⟩), .pointer (some b), .int .u64 150]]).run Tryd.prog W
      = .ok (.tuple #[]) (W.setCell ta (.pointer (some e))) := by
  rw [rls]
  simp only [Sem.run_bind, parts88a, parts88, Result.andThen]
  simp [ReflectliteValue.flagAddr, loadVar, isAgg, underlying, Tryd.underlying88, hb, Result.andThen, direct88, storeVar, Value.cells, storeCells, Addr.add]
  rw [run_store Tryd.prog W ta _ _ (by rfl)]
  simp [ht, hf]
theorem methodKind (h : Value) (w : World) : (Go.method 281 137 (.agg #[h]) "Kind").run Tryd.prog w = .ok (92, h) w := by kernel_rfl
theorem methodElem (h : Value) (w : World) : (Go.method 281 137 (.agg #[h]) "Elem").run Tryd.prog w = .ok (105, .agg #[h]) w := by kernel_rfl
theorem methodImplements (h : Value) (w : World) : (Go.method 281 137 (.agg #[h]) "Implements").run Tryd.prog w = .ok (106, .agg #[h]) w := by kernel_rfl
theorem methodAssignableTo (h : Value) (w : World) : (Go.method 281 137 (.agg #[h]) "AssignableTo").run Tryd.prog w = .ok (103, .agg #[h]) w := by kernel_rfl
theorem methodUnwrap (n u : Value) (w : World) : (Go.method 281 104 (.agg #[n, u]) "Unwrap").run Tryd.prog w = .ok (98, .agg #[n, u]) w := by kernel_rfl
theorem noAs104 (v : Value) (xT : TypeId) (w : World) : (Instr.typeAssert (.iface 104 v) xT 142 true).run Tryd.prog w = .ok (.tuple #[.nilIface, .bool false]) w := run_typeAssert_lacksB Tryd.underlying142 (by kernel_rfl) (by kernel_rfl) v xT w
theorem unw104 (v : Value) (xT : TypeId) (w : World) : (Instr.typeAssert (.iface 104 v) xT 145 true).run Tryd.prog w = .ok (.tuple #[.iface 104 v, .bool true]) w := run_typeAssert_hasB Tryd.underlying145 (by kernel_rfl) v xT w
set_option maxRecDepth 100000 in
set_option maxHeartbeats 4000000 in
theorem as_hit (n : Value) (e t : Addr) (old : Value) (w : World) (hg : w.cell? ⟨0, 0, none⟩ = some (.iface 137 (.agg #[.pointer (some ⟨5, 74, none⟩)]))) (ht0 : w.cell? t = some old) (hf0 : w.frozen? t = false) :
    Calls Tryd.prog 39 #[.iface 104 (.agg #[n, .iface 88 (.pointer (some e))]), .iface 90 (.pointer (some t))] w fun ev w' => ev = .returned (.bool true) ∧ w' = (((((w.alloc (.cells #[.pointer (some t)] 90)).alloc (.cells #[.pointer (some ⟨5, 90, none⟩), .pointer (some ⟨w.heap.size, 0, none⟩), .int .u64 150] 116)).alloc (.cells #[.pointer (some ⟨5, 90, none⟩), .pointer (some ⟨w.heap.size, 0, none⟩), .int .u64 150] 116)).alloc (.cells #[n, .iface 88 (.pointer (some e))] 104)).alloc (.cells #[.pointer (some e)] 88)).setCell t (.pointer (some e)) := by
  have h56 := @run_callFunc_extern Tryd.prog 56 _ (fun args => ReflectliteValue.unpack (args.getD 0 (.tuple #[]))) Tryd.func56 (by kernel_rfl) (by kernel_rfl) (by kernel_rfl) (by kernel_rfl)
  have h57 := @run_callFunc_extern Tryd.prog 57 _ (ReflectliteValue.methodAny (ReflectliteValue.valueError "reflectlite.Value.Type" 0) (fun t _ _ _ => ReflectliteType.toType t)) Tryd.func57 (by kernel_rfl) (by kernel_rfl) (by kernel_rfl) (by kernel_rfl)
  have h58 := @run_callFunc_extern Tryd.prog 58 _ (ReflectliteValue.method (ReflectliteValue.valueError "reflectlite.Value.IsNil" 0) ReflectliteValue.isNil) Tryd.func58 (by kernel_rfl) (by kernel_rfl) (by kernel_rfl) (by kernel_rfl)
  have h92 := @run_callFunc_extern Tryd.prog 92 _ (ReflectliteType.abiMethod fun t => do pure (.int .u8 (← Rtype.kind t))) Tryd.func92 (by kernel_rfl) (by kernel_rfl) (by kernel_rfl) (by kernel_rfl)
  have h105 := @run_callFunc_extern Tryd.prog 105 _ (ReflectliteType.method ReflectliteType.elem) Tryd.func105 (by kernel_rfl) (by kernel_rfl) (by kernel_rfl) (by kernel_rfl)
  have h106 := @run_callFunc_extern Tryd.prog 106 _ (ReflectliteType.relation "Implements" ReflectliteType.implements_) Tryd.func106 (by kernel_rfl) (by kernel_rfl) (by kernel_rfl) (by kernel_rfl)
  have h72 := @run_callFunc_extern Tryd.prog 72 _ ReflectliteType.typeOf Tryd.func72 (by kernel_rfl) (by kernel_rfl) (by kernel_rfl) (by kernel_rfl)
  have h103 := @run_callFunc_extern Tryd.prog 103 _ (ReflectliteType.relation "AssignableTo" ReflectliteType.assignableTo) Tryd.func103 (by kernel_rfl) (by kernel_rfl) (by kernel_rfl) (by kernel_rfl)
  have h73 := @run_callFunc_extern Tryd.prog 73 _ (ReflectliteValue.method (ReflectliteValue.valueError "reflectlite.Value.Elem" 0) ReflectliteValue.elem) Tryd.func73 (by kernel_rfl) (by kernel_rfl) (by kernel_rfl) (by kernel_rfl)
  have h74 := @run_callFunc_extern Tryd.prog 74 _ ReflectliteValue.set Tryd.func74 (by kernel_rfl) (by kernel_rfl) (by kernel_rfl) (by kernel_rfl)
  have tO := typeOf88
  have tO1 := typeOf104
  have mA := methodAssignableTo
  have mU := methodUnwrap
  have a88 := assignable88
  have a104 := assignable104
  have v88 := valueOf88
  have f6 := valueOf90
  have f7 := type90
  have mK := methodKind
  have mE := methodElem
  have mI := methodImplements
  have k90 := kind90
  have k88 := kind88
  have e90 := elem90
  have i88 := implements88
  have nA := noAs104
  have uA := unw104
  have hUn := unwrap_calls
  have HUn := Lib.hid hUn
  clear hUn
  have n8 := isNil90 ⟨w.heap.size, 0, none⟩ t ((w.alloc (.cells #[.pointer (some t)] 90)).alloc (.cells #[.pointer (some ⟨5, 90, none⟩), .pointer (some ⟨w.heap.size, 0, none⟩), .int .u64 150] 116)) (by simp)
  have hlt : 0 < w.heap.size := by
    rcases Nat.eq_zero_or_pos w.heap.size with h0 | h
    · simp [World.cell?, h0] at hg
    · exact h
  have hg2 : ((w.alloc (.cells #[.pointer (some t)] 90)).alloc (.cells #[.pointer (some ⟨5, 90, none⟩), .pointer (some ⟨w.heap.size, 0, none⟩), .int .u64 150] 116)).cell? ⟨0, 0, none⟩ = some (.iface 137 (.agg #[.pointer (some ⟨5, 74, none⟩)])) := by
    rw [World.cell?_alloc_lt _ _ ⟨0, 0, none⟩ (by simp), World.cell?_alloc_lt _ _ ⟨0, 0, none⟩ hlt]; exact hg
  have htl : t.block < w.heap.size := by
    rcases Nat.lt_or_ge t.block w.heap.size with h | h
    · exact h
    · simp [World.cell?, Array.getElem?_eq_none h] at ht0
  have el := elemV90 ⟨w.heap.size, 0, none⟩ t ((((w.alloc (.cells #[.pointer (some t)] 90)).alloc (.cells #[.pointer (some ⟨5, 90, none⟩), .pointer (some ⟨w.heap.size, 0, none⟩), .int .u64 150] 116)).alloc (.cells #[.pointer (some ⟨5, 90, none⟩), .pointer (some ⟨w.heap.size, 0, none⟩), .int .u64 150] 116)).alloc (.cells #[n, .iface 88 (.pointer (some e))] 104)) (by rw [World.cell?_alloc_lt _ _ ⟨w.heap.size, 0, none⟩ (by simp; omega), World.cell?_alloc_lt _ _ ⟨w.heap.size, 0, none⟩ (by simp; omega), World.cell?_alloc_lt _ _ ⟨w.heap.size, 0, none⟩ (by simp)]; simp)
  have st := set88 t ⟨w.heap.size + 1 + 1 + 1 + 1, 0, none⟩ e old (((((w.alloc (.cells #[.pointer (some t)] 90)).alloc (.cells #[.pointer (some ⟨5, 90, none⟩), .pointer (some ⟨w.heap.size, 0, none⟩), .int .u64 150] 116)).alloc (.cells #[.pointer (some ⟨5, 90, none⟩), .pointer (some ⟨w.heap.size, 0, none⟩), .int .u64 150] 116)).alloc (.cells #[n, .iface 88 (.pointer (some e))] 104)).alloc (.cells #[.pointer (some e)] 88))
    (by rw [World.cell?_alloc_at _ _ _ _ (by simp)]; rfl)
    (by rw [World.cell?_alloc_lt _ _ t (by simp; omega), World.cell?_alloc_lt _ _ t (by simp; omega), World.cell?_alloc_lt _ _ t (by simp; omega), World.cell?_alloc_lt _ _ t (by simp; omega), World.cell?_alloc_lt _ _ t htl]; exact ht0)
    (by rw [World.frozen?_alloc_old _ _ t (by simp; omega), World.frozen?_alloc_old _ _ t (by simp; omega), World.frozen?_alloc_old _ _ t (by simp; omega), World.frozen?_alloc_old _ _ t (by simp; omega), World.frozen?_alloc_old _ _ t (Nat.ne_of_lt htl)]; exact hf0)
  go_enter Tryd.func39, Tryd.ntmps39
  go_wp2
  refine wp_loop_rounds 2 ?_
  rw [rounds_succ]
  go_wp2_with (go_at_call 98; refine (HUn.out _ _ _).mono ?_; rintro ev w' ⟨rfl, rfl⟩)
  rw [rounds_succ]
  go_wp2
  go_ret
  exact ⟨rfl, rfl⟩
end Go.Proofs.YtbpobnlkfpjijaaDoorR.Ea
end
-- Ex
section
namespace Go.Proofs.YtbpobnlkfpjijaaDoorR.Pr
open Go.RowKit Go.Proofs.YtbpobnlkfpjijaaDoorRW.PrintWords Go.Proofs.YtbpobnlkfpjijaaDoorRW.PrintLast Go.Proofs.YtbpobnlkfpjijaaDoorRW.PrintMore
/-- W', with nothing but blocks laid and draws made behind W. -/
inductive Ex (W : World) : World → Prop
  | refl : Ex W W
  | alloc {W' : World} (o : Obj) : Ex W W' → Ex W (W'.alloc o)
  | drew {W' : World} : Ex W W' → Ex W W'.drew
  | drewN {W' : World} (n : Nat) : Ex W W' → Ex W (W'.drewN n)
class ExC (W W' : World) : Prop where
  ex : Ex W W'
instance exc_refl (W : World) : ExC W W := ⟨.refl⟩
instance exc_alloc (W W' : World) (o : Obj) [h : ExC W W'] : ExC W (W'.alloc o) := ⟨.alloc o h.ex⟩
instance exc_drew (W W' : World) [h : ExC W W'] : ExC W W'.drew := ⟨.drew h.ex⟩
instance exc_drewN (W W' : World) (n : Nat) [h : ExC W W'] : ExC W (W'.drewN n) := ⟨.drewN n h.ex⟩
/-- A fact that is kept aside (and found by its words). -/
class AsC (p : Prop) : Prop where mk :: (out : p)
theorem A_ {p : Prop} (h : p) : AsC p := ⟨h⟩
class BlC (w W : World) : Prop where
  bl : Below w.heap.size w W
instance blc_of (w W : World) [h : AsC (Below w.heap.size w W)] : BlC w W := ⟨h.out⟩
instance blc_alloc (w W : World) (o : Obj) [h : BlC w W] : BlC w (W.alloc o) := ⟨below_alloc h.bl o⟩
instance blc_drew (w W : World) [h : BlC w W] : BlC w W.drew := ⟨below_drew1 h.bl⟩
instance blc_drewN (w W : World) (n : Nat) [h : BlC w W] : BlC w (W.drewN n) := ⟨pw_below_drewN h.bl n⟩
instance blc_set (w W : World) (g j : Nat) (v : Value) [h : BlC w W] [hg : AsC (w.heap.size ≤ g)] : BlC w (W.setCell ⟨g, j, none⟩ v) := ⟨below_set h.bl hg.out⟩
theorem hB_ (w : World) {W : World} [h : BlC w W] : Below w.heap.size w W := h.bl
theorem ex_ind {C : World → Prop} {W W' : World} (hA : ∀ V o, C V → C (V.alloc o)) (hD : ∀ V, C V → C V.drew) (hN : ∀ V n, C V → C (V.drewN n)) (h : C W) [hx : ExC W W'] : C W' := by
  have hx := hx.ex
  induction hx with
  | refl => exact h
  | alloc o _ ih => exact hA _ o ih
  | drew _ ih => exact hD _ ih
  | drewN n _ ih => exact hN _ n ih
section
variable {α : Type} {d : Kd α} {e base g : Nat} {ok : Nat → Prop} {W W' w : World} {v : Value} {xs : List α} {o : Obj}
theorem b_ (h : AsC (W.heap[g]? = some o)) [ExC W W'] : W'.heap[g]? = some o := ex_ind (C := fun V => V.heap[g]? = some o) (fun _ o' h => blk_alloc h o') (fun _ h => h) (fun _ _ h => h) h.out
theorem v_ (h : AsC (Kd.V d e W base ok v xs)) [ExC W W'] : Kd.V d e W' base ok v xs := ex_ind (C := fun V => Kd.V d e V base ok v xs) (fun _ o' h => Kd.V_alloc h o') (fun _ h => Kd.V_drew h) (fun _ n h => Kd.V_drewN h n) h.out
theorem n_ (h : AsC (Kd.N d e W base ok v xs)) [ExC W W'] : Kd.N d e W' base ok v xs := ex_ind (C := fun V => Kd.N d e V base ok v xs) (fun _ o' h => Kd.N_alloc h o') (fun _ h => Kd.N_drew h) (fun _ n h => Kd.N_drewN h n) h.out
theorem r_ (h : AsC (Kd.R d e W base ok v xs)) [ExC W W'] : Kd.R d e W' base ok v xs := ex_ind (C := fun V => Kd.R d e V base ok v xs) (fun _ o' h => Kd.R_alloc h o') (fun _ h => Kd.R_drew h) (fun _ n h => Kd.R_drewN h n) h.out
theorem h_ (h : AsC (Below w.heap.size w W)) [ExC W W'] : Below w.heap.size w W' := ex_ind (C := fun V => Below w.heap.size w V) (fun _ o' h => below_alloc h o') (fun _ h => below_drew1 h) (fun _ n h => pw_below_drewN h n) h.out
end
section
variable {W : World} {g : Nat} {t : TypeId}
theorem cf1_ {x0 : Value} (h : AsC (W.heap[g]? = some (.cells #[x0] t (0, 0)))) : W.cell? ⟨g, 0, none⟩ = some x0 ∧ W.frozen? ⟨g, 0, none⟩ = false := ⟨(blk_cell h.out 0).trans rfl, blk_frozen h.out 0⟩
theorem cf2_ {x0 x1 : Value} (h : AsC (W.heap[g]? = some (.cells #[x0, x1] t (0, 0)))) : W.cell? ⟨g, 0, none⟩ = some x0 ∧ W.cell? ⟨g, 1, none⟩ = some x1 ∧ W.frozen? ⟨g, 0, none⟩ = false ∧ W.frozen? ⟨g, 1, none⟩ = false := ⟨(blk_cell h.out 0).trans rfl, (blk_cell h.out 1).trans rfl, blk_frozen h.out 0, blk_frozen h.out 1⟩
theorem cf3_ {x0 x1 x2 : Value} (h : AsC (W.heap[g]? = some (.cells #[x0, x1, x2] t (0, 0)))) : W.cell? ⟨g, 0, none⟩ = some x0 ∧ W.cell? ⟨g, 1, none⟩ = some x1 ∧ W.cell? ⟨g, 2, none⟩ = some x2 ∧ W.frozen? ⟨g, 0, none⟩ = false ∧ W.frozen? ⟨g, 1, none⟩ = false ∧ W.frozen? ⟨g, 2, none⟩ = false := ⟨(blk_cell h.out 0).trans rfl, (blk_cell h.out 1).trans rfl, (blk_cell h.out 2).trans rfl, blk_frozen h.out 0, blk_frozen h.out 1, blk_frozen h.out 2⟩
theorem cf4_ {x0 x1 x2 x3 : Value} (h : AsC (W.heap[g]? = some (.cells #[x0, x1, x2, x3] t (0, 0)))) : W.cell? ⟨g, 0, none⟩ = some x0 ∧ W.cell? ⟨g, 1, none⟩ = some x1 ∧ W.cell? ⟨g, 2, none⟩ = some x2 ∧ W.cell? ⟨g, 3, none⟩ = some x3 ∧ W.frozen? ⟨g, 0, none⟩ = false ∧ W.frozen? ⟨g, 1, none⟩ = false ∧ W.frozen? ⟨g, 2, none⟩ = false ∧ W.frozen? ⟨g, 3, none⟩ = false := ⟨(blk_cell h.out 0).trans rfl, (blk_cell h.out 1).trans rfl, (blk_cell h.out 2).trans rfl, (blk_cell h.out 3).trans rfl, blk_frozen h.out 0, blk_frozen h.out 1, blk_frozen h.out 2, blk_frozen h.out 3⟩
theorem cf5_ {x0 x1 x2 x3 x4 : Value} (h : AsC (W.heap[g]? = some (.cells #[x0, x1, x2, x3, x4] t (0, 0)))) : W.cell? ⟨g, 0, none⟩ = some x0 ∧ W.cell? ⟨g, 1, none⟩ = some x1 ∧ W.cell? ⟨g, 2, none⟩ = some x2 ∧ W.cell? ⟨g, 3, none⟩ = some x3 ∧ W.cell? ⟨g, 4, none⟩ = some x4 ∧ W.frozen? ⟨g, 0, none⟩ = false ∧ W.frozen? ⟨g, 1, none⟩ = false ∧ W.frozen? ⟨g, 2, none⟩ = false ∧ W.frozen? ⟨g, 3, none⟩ = false ∧ W.frozen? ⟨g, 4, none⟩ = false := ⟨(blk_cell h.out 0).trans rfl, (blk_cell h.out 1).trans rfl, (blk_cell h.out 2).trans rfl, (blk_cell h.out 3).trans rfl, (blk_cell h.out 4).trans rfl, blk_frozen h.out 0, blk_frozen h.out 1, blk_frozen h.out 2, blk_frozen h.out 3, blk_frozen h.out 4⟩
theorem cf6_ {x0 x1 x2 x3 x4 x5 : Value} (h : AsC (W.heap[g]? = some (.cells #[x0, x1, x2, x3, x4, x5] t (0, 0)))) : W.cell? ⟨g, 0, none⟩ = some x0 ∧ W.cell? ⟨g, 1, none⟩ = some x1 ∧ W.cell? ⟨g, 2, none⟩ = some x2 ∧ W.cell? ⟨g, 3, none⟩ = some x3 ∧ W.cell? ⟨g, 4, none⟩ = some x4 ∧ W.cell? ⟨g, 5, none⟩ = some x5 ∧ W.frozen? ⟨g, 0, none⟩ = false ∧ W.frozen? ⟨g, 1, none⟩ = false ∧ W.frozen? ⟨g, 2, none⟩ = false ∧ W.frozen? ⟨g, 3, none⟩ = false ∧ W.frozen? ⟨g, 4, none⟩ = false ∧ W.frozen? ⟨g, 5, none⟩ = false := ⟨(blk_cell h.out 0).trans rfl, (blk_cell h.out 1).trans rfl, (blk_cell h.out 2).trans rfl, (blk_cell h.out 3).trans rfl, (blk_cell h.out 4).trans rfl, (blk_cell h.out 5).trans rfl, blk_frozen h.out 0, blk_frozen h.out 1, blk_frozen h.out 2, blk_frozen h.out 3, blk_frozen h.out 4, blk_frozen h.out 5⟩
theorem cf7_ {x0 x1 x2 x3 x4 x5 x6 : Value} (h : AsC (W.heap[g]? = some (.cells #[x0, x1, x2, x3, x4, x5, x6] t (0, 0)))) : W.cell? ⟨g, 0, none⟩ = some x0 ∧ W.cell? ⟨g, 1, none⟩ = some x1 ∧ W.cell? ⟨g, 2, none⟩ = some x2 ∧ W.cell? ⟨g, 3, none⟩ = some x3 ∧ W.cell? ⟨g, 4, none⟩ = some x4 ∧ W.cell? ⟨g, 5, none⟩ = some x5 ∧ W.cell? ⟨g, 6, none⟩ = some x6 ∧ W.frozen? ⟨g, 0, none⟩ = false ∧ W.frozen? ⟨g, 1, none⟩ = false ∧ W.frozen? ⟨g, 2, none⟩ = false ∧ W.frozen? ⟨g, 3, none⟩ = false ∧ W.frozen? ⟨g, 4, none⟩ = false ∧ W.frozen? ⟨g, 5, none⟩ = false ∧ W.frozen? ⟨g, 6, none⟩ = false := ⟨(blk_cell h.out 0).trans rfl, (blk_cell h.out 1).trans rfl, (blk_cell h.out 2).trans rfl, (blk_cell h.out 3).trans rfl, (blk_cell h.out 4).trans rfl, (blk_cell h.out 5).trans rfl, (blk_cell h.out 6).trans rfl, blk_frozen h.out 0, blk_frozen h.out 1, blk_frozen h.out 2, blk_frozen h.out 3, blk_frozen h.out 4, blk_frozen h.out 5, blk_frozen h.out 6⟩
end
section
variable {α : Type} {d : Kd α} {e base g : Nat} {ok : Nat → Prop} {W w : World} {v : Value} {xs : List α} {o : Obj}
theorem bA_ (h : w.heap[g]? = some o) (o' : Obj) : (w.alloc o').heap[g]? = some o := blk_alloc h o'
theorem bD_ (h : w.heap[g]? = some o) : w.drew.heap[g]? = some o := h
theorem bN_ (h : w.heap[g]? = some o) (n : Nat) : (w.drewN n).heap[g]? = some o := h
theorem vA_ (h : Kd.V d e W base ok v xs) (o : Obj) : Kd.V d e (W.alloc o) base ok v xs := Kd.V_alloc h o
theorem vD_ (h : Kd.V d e W base ok v xs) : Kd.V d e W.drew base ok v xs := Kd.V_drew h
theorem vN_ (h : Kd.V d e W base ok v xs) (m : Nat) : Kd.V d e (W.drewN m) base ok v xs := Kd.V_drewN h m
theorem rA_ (h : Kd.R d e W base ok v xs) (o : Obj) : Kd.R d e (W.alloc o) base ok v xs := Kd.R_alloc h o
theorem rD_ (h : Kd.R d e W base ok v xs) : Kd.R d e W.drew base ok v xs := Kd.R_drew h
theorem rN_ (h : Kd.R d e W base ok v xs) (m : Nat) : Kd.R d e (W.drewN m) base ok v xs := Kd.R_drewN h m
theorem nA_ (h : Kd.N d e W base ok v xs) (o : Obj) : Kd.N d e (W.alloc o) base ok v xs := Kd.N_alloc h o
theorem nD_ (h : Kd.N d e W base ok v xs) : Kd.N d e W.drew base ok v xs := Kd.N_drew h
theorem nN_ (h : Kd.N d e W base ok v xs) (m : Nat) : Kd.N d e (W.drewN m) base ok v xs := Kd.N_drewN h m
end
end Go.Proofs.YtbpobnlkfpjijaaDoorR.Pr
end
-- Shelf
section
namespace Go.Proofs
open Go.Shelf
def Tryd.lays156_ren : Go.Shelf.Ren := ⟨fun | 156 => 20 | 165 => 28 | 166 => 29 | 169 => 30 | 240 => 44 | 241 => 45 | 276 => 62 | 277 => 63 | n => n, fun | 31 => 46 | 9 => 9 | 3 => 3 | 4 => 4 | 0 => 0 | 20 => 20 | 72 => 71 | 76 => 75 | 70 => 68 | 37 => 69 | 75 => 74 | 127 => 96 | 164 => 113 | 5 => 5 | 80 => 77 | n => n, fun | n => n⟩
theorem Tryd.lays156 : Go.Proofs.Lays.n156 Tryd.prog Tryd.lays156_ren := {
  mixed := by kernel_rfl
  f156 := Tryd.func20.trans (congrArg some (by kernel_rfl))
  f165 := Tryd.func28.trans (congrArg some (by kernel_rfl))
  f166 := Tryd.func29.trans (congrArg some (by kernel_rfl))
  f169 := Tryd.func30.trans (congrArg some (by kernel_rfl))
  f240 := Tryd.func44.trans (congrArg some (by kernel_rfl))
  f241 := Tryd.func45.trans (congrArg some (by kernel_rfl))
  f276 := Tryd.func62.trans (congrArg some (by kernel_rfl))
  f277 := Tryd.func63.trans (congrArg some (by kernel_rfl))
  t0 := Tryd.underlying0
  a0 := Tryd.isAgg0
  z0 := Tryd.sizeOf0
  v0 := Tryd.zeroValue0
  t3 := Tryd.underlying3
  a3 := Tryd.isAgg3
  z3 := Tryd.sizeOf3
  v3 := Tryd.zeroValue3
  t4 := Tryd.underlying4
  a4 := Tryd.isAgg4
  z4 := Tryd.sizeOf4
  v4 := Tryd.zeroValue4
  t9 := Tryd.underlying9
  a9 := Tryd.isAgg9
  z9 := Tryd.sizeOf9
  v9 := Tryd.zeroValue9
  t20 := Tryd.underlying20
  a20 := Tryd.isAgg20
  z20 := Tryd.sizeOf20
  v20 := Tryd.zeroValue20
  t31 := Tryd.underlying46
  a31 := Tryd.isAgg46
  z31 := Tryd.sizeOf46
  v31 := Tryd.zeroValue46
  t37 := Tryd.underlying69
  a37 := Tryd.isAgg69
  z37 := Tryd.sizeOf69
  v37 := Tryd.zeroValue69
  t70 := Tryd.underlying68
  a70 := Tryd.isAgg68
  z70 := Tryd.sizeOf68
  v70 := Tryd.zeroValue68
  t72 := Tryd.underlying71
  a72 := Tryd.isAgg71
  z72 := Tryd.sizeOf71
  v72 := Tryd.zeroValue71
  t75 := Tryd.underlying74
  a75 := Tryd.isAgg74
  z75 := Tryd.sizeOf74
  v75 := Tryd.zeroValue74
  t76 := Tryd.underlying75
  a76 := Tryd.isAgg75
  z76 := Tryd.sizeOf75
  v76 := Tryd.zeroValue75
  t127 := Tryd.underlying96
  a127 := Tryd.isAgg96
  z127 := Tryd.sizeOf96
  v127 := Tryd.zeroValue96
  t164 := Tryd.underlying113
  a164 := Tryd.isAgg113
  z164 := Tryd.sizeOf113
  v164 := Tryd.zeroValue113 }
theorem Tryd.Builder_Extra_156 : Builder.Extra Tryd.prog Tryd.lays156_ren := {
  sizeBuilder := by kernel_rfl
  liesBuilder := by kernel_rfl
  t5 := Tryd.underlying5
  a5 := Tryd.isAgg5
  z5 := Tryd.sizeOf5
  v5 := Tryd.zeroValue5
  infoByte := by kernel_rfl
  cellsByte := by kernel_rfl
  sizeByte := by kernel_rfl
  neB5 := by decide }
open Go.RowKit in
/-- No element: the empty string; the world is as it was. (Whatever the slice's address and capacity: a nil slice too.) (LAID: no walk: one application.) -/
theorem Tryd.strings_Join_none (a : Option Addr) (c : Nat) (sep : ByteArray) (w : World) :
    Calls Tryd.prog 20 #[.slice a 0 c, .string sep] w fun e w' => e = .returned (.string ⟨#[]⟩) ∧ w' = w := Any.strings_Join_none Tryd.lays156 Tryd.Builder_Extra_156 a c sep w
open Go.RowKit in
/-- strings.Join: "Join concatenates the elements of its first argument to create a single string. The separator string sep is placed between elements in the resulting string.": HOWEVER MANY ELEMENTS. Below the heap's end the world is as it was. (LAID: no walk: one application.) -/
theorem Tryd.strings_Join (bk o c : Nat) (xs : List ByteArray) (sep : ByteArray) (w : World) (hcells : ∀ (j : Nat) x, xs[j]? = some x → w.cell? ⟨bk, o + j, none⟩ = some (.string x)) (hbk : bk < w.heap.size) (hN : xs.length ≤ 140737488355328) (hcap : xs.length ≤ c) (hlen : (Lib.join (xs.map (·.data.toList)) sep.data.toList).length ≤ 140737488355328) :
    Calls Tryd.prog 20 #[.slice (some ⟨bk, o, none⟩) xs.length c, .string sep] w fun e w' => e = .returned (.string ⟨(Lib.join (xs.map (·.data.toList)) sep.data.toList).toArray⟩) ∧ Below w.heap.size w w' := Any.strings_Join Tryd.lays156 Tryd.Builder_Extra_156 bk o c xs sep w hcells hbk hN hcap hlen
def Tryd.laysM171_ren : Go.Shelf.Ren := ⟨fun | 171 => 12 | 243 => 21 | 246 => 31 | 283 => 46 | 284 => 47 | 285 => 48 | 286 => 49 | 129 => 65 | 317 => 64 | 318 => 66 | 319 => 67 | 320 => 68 | 337 => 75 | 338 => 76 | n => n, fun | 3 => 3 | 9 => 9 | 2 => 2 | 4 => 4 | 171 => 97 | 0 => 0 | 53 => 79 | 37 => 69 | 5 => 5 | 173 => 100 | 212 => 131 | 51 => 84 | 20 => 20 | 213 => 132 | 46 => 102 | 232 => 152 | 233 => 153 | n => n, fun | 17 => 1 | 18 => 3 | 19 => 4 | n => n⟩
theorem Tryd.laysM171 : Go.Proofs.LaysM.n171 Tryd.prog Tryd.laysM171_ren := {
  mixed := by kernel_rfl
  f129 := Tryd.func65.trans (congrArg some (by kernel_rfl))
  f171 := Tryd.func12.trans (congrArg some (by kernel_rfl))
  f243 := Tryd.func21.trans (congrArg some (by kernel_rfl))
  f246 := Tryd.func31.trans (congrArg some (by kernel_rfl))
  f283 := Tryd.func46.trans (congrArg some (by kernel_rfl))
  f284 := Tryd.func47.trans (congrArg some (by kernel_rfl))
  f285 := Tryd.func48.trans (congrArg some (by kernel_rfl))
  f286 := Tryd.func49.trans (congrArg some (by kernel_rfl))
  f317 := Tryd.func64.trans (congrArg some (by kernel_rfl))
  f318 := Tryd.func66.trans (congrArg some (by kernel_rfl))
  f319 := Tryd.func67.trans (congrArg some (by kernel_rfl))
  f320 := Tryd.func68.trans (congrArg some (by kernel_rfl))
  f337 := Tryd.func75.trans (congrArg some (by kernel_rfl))
  f338 := Tryd.func76.trans (congrArg some (by kernel_rfl))
  t0 := Tryd.underlying0
  a0 := Tryd.isAgg0
  z0 := Tryd.sizeOf0
  v0 := Tryd.zeroValue0
  t2 := Tryd.underlying2
  a2 := Tryd.isAgg2
  z2 := Tryd.sizeOf2
  v2 := Tryd.zeroValue2
  t3 := Tryd.underlying3
  a3 := Tryd.isAgg3
  z3 := Tryd.sizeOf3
  v3 := Tryd.zeroValue3
  t4 := Tryd.underlying4
  a4 := Tryd.isAgg4
  z4 := Tryd.sizeOf4
  v4 := Tryd.zeroValue4
  t5 := Tryd.underlying5
  a5 := Tryd.isAgg5
  z5 := Tryd.sizeOf5
  v5 := Tryd.zeroValue5
  t9 := Tryd.underlying9
  a9 := Tryd.isAgg9
  z9 := Tryd.sizeOf9
  v9 := Tryd.zeroValue9
  t20 := Tryd.underlying20
  a20 := Tryd.isAgg20
  z20 := Tryd.sizeOf20
  v20 := Tryd.zeroValue20
  t37 := Tryd.underlying69
  a37 := Tryd.isAgg69
  z37 := Tryd.sizeOf69
  v37 := Tryd.zeroValue69
  t46 := Tryd.underlying102
  a46 := Tryd.isAgg102
  z46 := Tryd.sizeOf102
  v46 := Tryd.zeroValue102
  t51 := Tryd.underlying84
  a51 := Tryd.isAgg84
  z51 := Tryd.sizeOf84
  v51 := Tryd.zeroValue84
  t53 := Tryd.underlying79
  a53 := Tryd.isAgg79
  z53 := Tryd.sizeOf79
  v53 := Tryd.zeroValue79
  t171 := Tryd.underlying97
  a171 := Tryd.isAgg97
  z171 := Tryd.sizeOf97
  v171 := Tryd.zeroValue97
  t173 := Tryd.underlying100
  a173 := Tryd.isAgg100
  z173 := Tryd.sizeOf100
  v173 := Tryd.zeroValue100
  t212 := Tryd.underlying131
  a212 := Tryd.isAgg131
  z212 := Tryd.sizeOf131
  v212 := Tryd.zeroValue131
  t213 := Tryd.underlying132
  a213 := Tryd.isAgg132
  z213 := Tryd.sizeOf132
  t232 := Tryd.underlying152
  a232 := Tryd.isAgg152
  z232 := Tryd.sizeOf152
  v232 := Tryd.zeroValue152
  t233 := Tryd.underlying153
  a233 := Tryd.isAgg153
  z233 := Tryd.sizeOf153
  v233 := Tryd.zeroValue153
  g17 := by kernel_rfl
  g18 := by kernel_rfl
  g19 := by kernel_rfl
  i0 := by kernel_rfl
  i2 := by kernel_rfl
  i3 := by kernel_rfl
  i4 := by kernel_rfl
  i5 := by kernel_rfl
  i9 := by kernel_rfl
  i20 := by kernel_rfl
  i37 := by kernel_rfl
  i46 := by kernel_rfl
  i51 := by kernel_rfl
  i53 := by kernel_rfl
  i171 := by kernel_rfl
  i173 := by kernel_rfl
  i212 := by kernel_rfl
  i232 := by kernel_rfl
  i233 := by kernel_rfl
  m17 := by kernel_rfl
  m18 := by kernel_rfl
  m19 := by kernel_rfl }
open Go.RowKit Go.Sort Go.Lib in
/-- strconv.Itoa: "Itoa is equivalent to FormatInt(int64(i), 10).": i's DECIMAL NUMERAL ('Lib.itoa': a '-' where i is negative, then the digits), FOR EVERY int. The world behind the call: the world before it, new blocks behind the heap (the library's 'var a [24]byte'), draws. (LAID: no walk: one application.) -/
theorem Tryd.strconv_Itoa (n : Int) (h0 : -9223372036854775808 ≤ n) (h1 : n ≤ 9223372036854775807) (w : World) (htab : Lib.TabIs Tryd.prog w "internal/strconv.uint64pow10" .u64 Lib.pow10Tab) :
    Calls Tryd.prog 12 #[.int .i64 n] w fun e w' => e = .returned (.string ⟨(Lib.itoa n).toArray⟩) ∧ ∃ k os, w' = grow (w.drewN k) os := Any.strconv_Itoa Tryd.laysM171 n h0 h1 w htab
end Go.Proofs
end
-- Kn
section
namespace Go.Proofs.YtbpobnlkfpjijaaDoorR
open Go.RowKit Go.Shelf Go.Sort
set_option linter.unusedVariables false
set_option linter.unusedSimpArgs false
def Tb (w : World) : Prop := Lib.TabIs Tryd.prog w "internal/strconv.uint64pow10" .u64 Lib.pow10Tab
theorem gPow : Tryd.prog.globalNamed "internal/strconv.uint64pow10" = some 1 := by kernel_rfl
theorem tb_below {w w' : World} (h : Tb w) (hb : Below w.heap.size w w') : Tb w' := by
  unfold Tb Lib.TabIs World.var? at *
  rw [gPow] at *
  simp only [Option.bind_some] at *
  cases hg : w.heap[1]? with
  | none => rw [hg] at h; cases h
  | some o =>
    rw [hb.block 1 (Array.getElem?_eq_some_iff.1 hg).1]
    exact h
/-- A number's text. -/
def numS (n : Int) : ByteArray := ⟨(Lib.itoa n).toArray⟩
def nameL (n m : Int) : List UInt8 := [99] ++ (Lib.itoa n ++ ([45] ++ Lib.itoa m))
def nameS (n m : Int) : ByteArray := ⟨(nameL n m).toArray⟩
theorem itoa_calls (n : Int) (h0 : 0 ≤ n) (h1 : n ≤ 9223372036854775807) (w : World) (ht : Tb w) :
    Calls Tryd.prog 12 #[.int .i64 n] w fun e w' => e = .returned (.string (numS n)) ∧ Below w.heap.size w w' := by
  refine (Tryd.strconv_Itoa n (by omega) h1 w ht).mono ?_
  rintro e w' ⟨rfl, k, os, rfl⟩
  refine ⟨rfl, ⟨rfl, rfl, rfl, by simp [grow], fun i hi => ?_⟩⟩
  show ((w.drewN k).heap ++ os)[i]? = (w.drewN k).heap[i]?
  exact Array.getElem?_append_left hi
theorem joined_calls (bk c : Nat) (n m : Int) (h0 : 0 ≤ n) (h1 : n ≤ 9223372036854775807) (g0 : 0 ≤ m) (g1 : m ≤ 9223372036854775807) (w : World) (hb : w.heap[bk]? = some (.cells #[.string ⟨#[99]⟩, .string (numS n), .string ⟨#[45]⟩, .string (numS m)] 9 (0, 0))) (hc : 4 ≤ c) :
    Calls Tryd.prog 11 #[.slice (some ⟨bk, 0, none⟩) 4 c] w fun e w' => e = .returned (.string (nameS n m)) ∧ Below w.heap.size w w' := by
  have hj : Lib.join ([⟨#[99]⟩, numS n, ⟨#[45]⟩, numS m].map (·.data.toList)) (⟨#[]⟩ : ByteArray).data.toList = nameL n m := by
    simp [Lib.join, numS, nameL, List.intercalate, List.intersperse]
  have hl := Lib.itoa_length_le n (by omega) h1
  have hl2 := Lib.itoa_length_le m (by omega) g1
  have hJ := Tryd.strings_Join bk 0 c [⟨#[99]⟩, numS n, ⟨#[45]⟩, numS m] ⟨#[]⟩ w (by
    intro j x hx
    have hj4 : j < 4 := by have := (List.getElem?_eq_some_iff.1 hx).1; simpa using this
    rcases (show j = 0 ∨ j = 1 ∨ j = 2 ∨ j = 3 by omega) with rfl | rfl | rfl | rfl <;> (simp at hx; subst hx; simp [World.cell?, hb])) (Array.getElem?_eq_some_iff.1 hb).1 (by simp) (by simpa using hc) (by rw [hj]; simp [nameL]; omega)
  rw [hj] at hJ
  have HJ := Lib.hid hJ
  clear hJ hj
  go_enter Tryd.func11, Tryd.ntmps11
  go_wp2_with fail
  refine HJ.out.mono ?_
  rintro e w' ⟨rfl, hb⟩
  go_wp2
  go_ret
  exact ⟨rfl, hb⟩
/-- What the region of keep.Name reads: kept by what makes memory alone. -/
theorem alloc_below (W : World) (o : Obj) : Below W.heap.size W (W.alloc o) := (Below.refl _ _).alloc (Nat.le_refl _) _
theorem hold_step {n m : Int} {w W W1 : World} (h : W.cell? ⟨w.heap.size, 0, none⟩ = some (.int .i64 n) ∧ W.cell? ⟨w.heap.size, 1, none⟩ = some (.int .i64 m) ∧ Tb W ∧ Below w.heap.size w W) (hb : Below W.heap.size W W1) :
    W1.cell? ⟨w.heap.size, 0, none⟩ = some (.int .i64 n) ∧ W1.cell? ⟨w.heap.size, 1, none⟩ = some (.int .i64 m) ∧ Tb W1 ∧ Below w.heap.size w W1 := by
  have hlt := World.block_lt_of_cell? W _ h.1
  have hlt1 := World.block_lt_of_cell? W _ h.2.1
  exact ⟨(hb.cell hlt).trans h.1, (hb.cell hlt1).trans h.2.1, tb_below h.2.2.1 hb, h.2.2.2.trans (hb.mono h.2.2.2.size)⟩
theorem hold_bel {p q r : Prop} {B : Nat} {w W : World} (h : p ∧ q ∧ r ∧ Below B w W) : Below B w W := h.2.2.2
theorem hold_tb {p q r : Prop} {W : World} (h : p ∧ q ∧ Tb W ∧ r) : Tb W := h.2.2.1
set_option maxRecDepth 100000 in
set_option maxHeartbeats 4000000 in
theorem name_calls (n m : Int) (h0 : 0 ≤ n) (h1 : n ≤ 9223372036854775807) (g0 : 0 ≤ m) (g1 : m ≤ 9223372036854775807) (w : World) (ht : Tb w) :
    Calls Tryd.prog 6 #[.agg #[.int .i64 n, .int .i64 m]] w fun e w' => e = .returned (.string (nameS n m)) ∧ Below w.heap.size w w' := by
  have hn : ¬ n < 0 := by omega
  have hm : ¬ m < 0 := by omega
  have hmx : max n 0 = n := by omega
  have hmy : max m 0 = m := by omega
  obtain ⟨W, hW⟩ : ∃ W, w.alloc (.cells #[.int .i64 n, .int .i64 m] 23) = W := ⟨_, rfl⟩
  have hB0 : Below w.heap.size w W := by rw [← hW]; exact (Below.refl _ _).alloc (Nat.le_refl _) _
  have hc0 : W.cell? ⟨w.heap.size, 0, none⟩ = some (.int .i64 n) := by subst hW; go_simp
  have hc1 : W.cell? ⟨w.heap.size, 1, none⟩ = some (.int .i64 m) := by subst hW; go_simp
  have hT := tb_below ht hB0
  go_enter Tryd.func6, Tryd.ntmps6
  go_wp2_with fail
  clear hW
  go_region_held3 (fun w' => w'.cell? ⟨w.heap.size, 0, none⟩ = some (.int .i64 n) ∧ w'.cell? ⟨w.heap.size, 1, none⟩ = some (.int .i64 m) ∧ Tb w' ∧ Below w.heap.size w w')
    (first | exact ⟨hc0, hc1, hT, hB0.drew⟩ | assumption | exact hold_step (by assumption) hb | exact hold_step (by assumption) (alloc_below _ _) | (trace_state; fail))
    (first | (go_at_call 12; refine (itoa_calls _ (by omega) (by omega) _ (by first | assumption | exact hold_tb (by assumption))).mono ?_; rintro e w1 ⟨rfl, hb⟩) | (go_at_call 11; refine (joined_calls _ 4 n m h0 h1 g0 g1 _ (heap_alloc_new _ _) (Nat.le_refl _)).mono ?_; rintro e w1 ⟨rfl, hb⟩))
  all_goals
    try go_wp2
    go_ret
    exact ⟨rfl, hold_bel (by assumption)⟩
end Go.Proofs.YtbpobnlkfpjijaaDoorR
end
-- Ct
section
namespace Go.Proofs.YtbpobnlkfpjijaaDoorR.Pr
open Go.RowKit Go.Proofs.YtbpobnlkfpjijaaDoorRW.PrintWords Go.Proofs.YtbpobnlkfpjijaaDoorRW.PrintLast Go.Proofs.YtbpobnlkfpjijaaDoorRW.PrintMore
set_option linter.unusedVariables false
set_option linter.unusedSimpArgs false
/-- The listed variables, as they are laid: a table, and the type of errors. -/
class TbC (w : World) : Prop where
  tb : YtbpobnlkfpjijaaDoorR.Tb w
  et : w.cell? ⟨0, 0, none⟩ = some (.iface 137 (.agg #[.pointer (some ⟨5, 74, none⟩)]))
theorem TbC.below {w W : World} (h : TbC w) (hb : Below w.heap.size w W) : TbC W :=
  ⟨YtbpobnlkfpjijaaDoorR.tb_below h.tb hb, (hb.cell (World.block_lt_of_cell? _ _ h.et)).trans h.et⟩
theorem tbc_at (w : World) {W : World} [h : TbC w] [hb : BlC w W] : TbC W := h.below hb.bl
abbrev RecT := Int × Int × Int × Int × Int × List Int × List Int × List Int × Bool
def zeroRec : RecT := (0, 0, 0, 0, 0, [], [], [], false)
theorem as_hit' (n : Value) (b Bb : Nat) (W : World) (hT : TbC W) (hb : W.heap[Bb]? = some (.cells #[.pointer none] 88 (0, 0))) :
    Calls Tryd.prog 39 #[.iface 104 (.agg #[n, .iface 88 (.pointer (some ⟨b, 0, none⟩))]), .iface 90 (.pointer (some ⟨Bb, 0, none⟩))] W fun ev W' => ev = .returned (.bool true) ∧ W'.heap[Bb]? = some (.cells #[.pointer (some ⟨b, 0, none⟩)] 88 (0, 0)) ∧ Kp (fun k => k = Bb) W W' := by
  refine (Ea.as_hit n ⟨b, 0, none⟩ ⟨Bb, 0, none⟩ (.pointer none) W hT.et (blk_cell hb 0) (blk_frozen hb 0)).mono ?_
  rintro ev W' ⟨rfl, rfl⟩
  refine ⟨rfl, ?_, ?_⟩
  · exact blk_put (cs := #[.pointer none]) (blk_alloc (blk_alloc (blk_alloc (blk_alloc (blk_alloc hb _) _) _) _) _) 0 _ rfl
  · exact ((((((Kp.refl (fun k => k = Bb) W).alloc _).alloc _).alloc _).alloc _).alloc _).set (.inl rfl) _
def recEnd : RecT × Option Int → RecT × Int
  | (_, some e) => (zeroRec, e)
  | (r, none) => (r, 0)
/-- What crc.Take answers. -/
def takeRec (s : ByteArray) : RecT × Int :=
  if s.size < 8 then (zeroRec, 5)
  else if numF (s.extract (s.size - 4) s.size) ≠ sumF (s.extract 0 (s.size - 4)) then (zeroRec, 7)
  else if (s.extract 0 4).toList ≠ [84, 65, 76, 89] then (zeroRec, 6)
  else recEnd (partsF (s.extract 4 (s.size - 4)))
set_option maxRecDepth 100000 in
set_option maxHeartbeats 1000000 in
theorem take_rec (s : ByteArray) (hs : s.size < 9223372036854775807) (w : World) (hT : TbC w) :
    Calls Tryd.prog 25 #[.string s] w fun en w' => ∃ AP kP AQ kQ AT kT, en = .returned (.tuple #[.agg #[.int .i64 (takeRec s).1.1, .int .i64 (takeRec s).1.2.1, .int .i64 (takeRec s).1.2.2.1, .int .i64 (takeRec s).1.2.2.2.1, .int .i64 (takeRec s).1.2.2.2.2.1,
        .slice AP (takeRec s).1.2.2.2.2.2.1.length kP, .slice AQ (takeRec s).1.2.2.2.2.2.2.1.length kQ, .slice AT (takeRec s).1.2.2.2.2.2.2.2.1.length kT, .bool (takeRec s).1.2.2.2.2.2.2.2.2], .int .i64 (takeRec s).2]) ∧
      Kd.V (Kd.int .u64) 79 w' 0 (fun k => w.heap.size ≤ k) (.slice AP (takeRec s).1.2.2.2.2.2.1.length kP) (takeRec s).1.2.2.2.2.2.1 ∧ Kd.V (Kd.int .u64) 79 w' 0 (fun k => w.heap.size ≤ k) (.slice AQ (takeRec s).1.2.2.2.2.2.2.1.length kQ) (takeRec s).1.2.2.2.2.2.2.1 ∧
      Kd.V (Kd.int .u64) 79 w' 0 (fun k => w.heap.size ≤ k) (.slice AT (takeRec s).1.2.2.2.2.2.2.2.1.length kT) (takeRec s).1.2.2.2.2.2.2.2.1 ∧ Below w.heap.size w w' := by
  by_cases h8 : s.size < 8
  · have hR : takeRec s = (zeroRec, 5) := by unfold takeRec; rw [if_pos h8]
    have HR := Lib.hid hR
    have ht : decide ((s.size : Int) - 4 < 4) = true := by simp; omega
    clear hR
    go_enter Tryd.func25, Tryd.ntmps25
    go_wp2
    refine bodyPost_ret (results_ct rfl _ _ w.heap.size 63 #[.int .i64 0, .int .i64 0, .int .i64 0, .int .i64 0, .int .i64 0, .slice none 0 0, .slice none 0 0, .slice none 0 0, .bool false] (0, 0) _ rfl (blk_new _ _) Tryd.underlying63 rfl (by kernel_rfl)) rfl ?_
    rw [HR.out]
    exact ⟨none, 0, none, 0, none, 0, rfl, Kd.V_nil _ _ _ _ _, Kd.V_nil _ _ _ _ _, Kd.V_nil _ _ _ _ _, (Below.refl _ w).alloc (Nat.le_refl _) _⟩
  · obtain ⟨n, hn⟩ : ∃ n : Nat, s.size = n + 4 := ⟨s.size - 4, by omega⟩
    have hn4 : 4 ≤ n := by omega
    have hni : ((s.size : Int) - 4) = (n : Int) := by omega
    have hns : s.size - 4 = n := by omega
    have hle : n ≤ s.size := by omega
    have ht : decide ((n : Int) < 4) = false := by simp; omega
    have hz1 : (s.extract n s.size).size < 9223372036854775807 := by simp; omega
    have hz2 : (s.extract 0 n).size < 9223372036854775807 := by simp; omega
    have HZ1 := Lib.hid hz1
    have HZ2 := Lib.hid hz2
    have HN := Lib.hid hn
    have HNS := Lib.hid hns
    clear hz1 hz2 hn hns
    go_enter Tryd.func25, Tryd.ntmps25
    go_wp2_with fail
    clear hni
    go_quiet (first | (go_at_call 36; exact Calls.quiet_of (number_calls _ HZ1.out _)) | (go_at_call 37; exact Calls.quiet_of (sum_calls _ HZ2.out _)))
    obtain ⟨W0, hW0⟩ : ∃ X, (w.alloc (.cells #[.int .i64 0, .int .i64 0, .int .i64 0, .int .i64 0, .int .i64 0, .slice none 0 0, .slice none 0 0, .slice none 0 0, .bool false] 63)).drewN nq = X := ⟨_, rfl⟩
    rw [hW0]
    have hbz : W0.heap[w.heap.size]? = some (.cells #[.int .i64 0, .int .i64 0, .int .i64 0, .int .i64 0, .int .i64 0, .slice none 0 0, .slice none 0 0, .slice none 0 0, .bool false] 63 (0, 0)) := by rw [← hW0]; exact blk_new w _
    have hB0 : Below w.heap.size w W0 := by rw [← hW0]; exact pw_below_drewN ((Below.refl _ w).alloc (Nat.le_refl _) _) _
    have HBZ := Lib.hid hbz
    have HB0 := Lib.hid hB0
    have hz0 := blk_cell hbz 0
    have hy0 := blk_frozen hbz 0
    have hz1 := blk_cell hbz 1
    have hy1 := blk_frozen hbz 1
    have hz2 := blk_cell hbz 2
    have hy2 := blk_frozen hbz 2
    have hz3 := blk_cell hbz 3
    have hy3 := blk_frozen hbz 3
    have hz4 := blk_cell hbz 4
    have hy4 := blk_frozen hbz 4
    have hz5 := blk_cell hbz 5
    have hy5 := blk_frozen hbz 5
    have hz6 := blk_cell hbz 6
    have hy6 := blk_frozen hbz 6
    have hz7 := blk_cell hbz 7
    have hy7 := blk_frozen hbz 7
    have hz8 := blk_cell hbz 8
    have hy8 := blk_frozen hbz 8
    simp only [List.getElem?_toArray, List.getElem?_cons_zero, List.getElem?_cons_succ] at hz0 hz1 hz2 hz3 hz4 hz5 hz6 hz7 hz8
    clear hW0 hbz hB0
    have hwr : IntKind.u64.wrap (sumF (s.extract 0 n)) = sumF (s.extract 0 n) := by rw [w64]; have := sumF_range (s.extract 0 n); omega
    rw [hwr]
    clear hwr
    by_cases hq : numF (s.extract n s.size) = sumF (s.extract 0 n)
    · have hb : (numF (s.extract n s.size) != sumF (s.extract 0 n)) = false := bne_eq_false_iff_eq.mpr hq
      rw [hb]
      have HQ := Lib.hid hq
      clear hq hb
      by_cases hm : (s.extract 0 4).toList = [84, 65, 76, 89]
      · have HM := Lib.hid hm
        have hmb : ((s.extract 0 4).toList == [84, 65, 76, 89]) = true := beq_iff_eq.mpr hm
        clear hm
        have hz3 : (s.extract 4 n).size < 9223372036854775807 := by simp; omega
        have HZ3 := Lib.hid hz3
        clear hz3
        have hi1 : (4 : Int) ≤ (n : Int) := by omega
        have hi2 : (n : Int) ≤ (s.size : Int) := by omega
        have hi3 : (0 : Int) ≤ (n : Int) := by omega
        go_wp2_with fail
        refine (parts_calls _ HZ3.out _).mono ?_
        obtain ⟨⟨⟨c, d, g, f, u, P, Q, R, m⟩, er⟩, hp⟩ : ∃ p, partsF (s.extract 4 n) = p := ⟨_, rfl⟩
        rw [hp]
        dsimp only
        rintro en W1 ⟨AP, kP, AQ, kQ, AT, kT, v, rfl, hVP, hVQ, hVT, hE, hb1⟩
        have HPF := Lib.hid hp
        have hTk : takeRec s = recEnd ((c, d, g, f, u, P, Q, R, m), er) := by
          unfold takeRec
          rw [if_neg h8, HNS.out, if_neg (fun h => h HQ.out), if_neg (fun h => h HM.out), HPF.out]
        have HTK := Lib.hid hTk
        have HB1 := Lib.hid (below_step HB0.out hb1)
        have HBZ1 := Lib.hid (blk_below HBZ.out hb1)
        have HSZ := Lib.hid hb1.size
        have HB01 := Lib.hid hb1
        have HVP := Lib.hid hVP
        have HVQ := Lib.hid hVQ
        have HVT := Lib.hid hVT
        have HE := Lib.hid hE
        clear hp hTk hb1 hVP hVQ hVT hE hz0 hz1 hz2 hz3 hz4 hz5 hz6 hz7 hz8 hy0 hy1 hy2 hy3 hy4 hy5 hy6 hy7 hy8
        have hsz : w.heap.size ≤ W1.heap.size := HB1.out.size
        cases er with
        | none =>
          have hv : v = .nilIface := HE.out
          subst hv
          have hTR : takeRec s = ((c, d, g, f, u, P, Q, R, m), 0) := HTK.out
          have HTR := Lib.hid hTR
          clear hTR HTK
          go_wp2_with fail
          obtain ⟨W2, hW2⟩ : ∃ X, (W1.alloc (.cells #[.int .i64 c, .int .i64 d, .int .i64 g, .int .i64 f, .int .i64 u, .slice AP P.length kP, .slice AQ Q.length kQ, .slice AT R.length kT, .bool m] 63)).alloc (.cells #[.pointer none] 88) = X := ⟨_, rfl⟩
          have hb2 : Below W1.heap.size W1 W2 := by rw [← hW2]; exact ((Below.refl _ W1).alloc (Nat.le_refl _) _).alloc (by simp) _
          have hq : W2.heap[W1.heap.size]? = some (.cells #[.int .i64 c, .int .i64 d, .int .i64 g, .int .i64 f, .int .i64 u, .slice AP P.length kP, .slice AQ Q.length kQ, .slice AT R.length kT, .bool m] 63 (0, 0)) := by rw [← hW2]; exact blk_alloc (blk_new _ _) _
          have hp : W2.heap[W1.heap.size + 1]? = some (.cells #[.pointer none] 88 (0, 0)) := by rw [← hW2]; exact blk_new_at _ _ (by simp)
          rw [hW2]
          obtain ⟨Bq, hBq⟩ : ∃ n, W1.heap.size = n := ⟨_, rfl⟩
          rw [hBq] at hq hp
          rw [hBq]
          have HBQ := Lib.hid hBq
          have HP := Lib.hid hp
          have HQ2 := Lib.hid hq
          have HB2 := Lib.hid hb2
          have hlt2 : w.heap.size < Bq := by rw [← hBq]; exact Nat.lt_of_lt_of_le (blk_lt HBZ.out) HSZ.out
          clear hW2 hBq hp hb2 hq hsz
          refine (Ea.as_nil _ _).mono ?_
          rintro en W3 ⟨rfl, rfl⟩
          have hr0 := blk_cell HQ2.out 0
          have hr1 := blk_cell HQ2.out 1
          have hr2 := blk_cell HQ2.out 2
          have hr3 := blk_cell HQ2.out 3
          have hr4 := blk_cell HQ2.out 4
          have hr5 := blk_cell HQ2.out 5
          have hr6 := blk_cell HQ2.out 6
          have hr7 := blk_cell HQ2.out 7
          have hr8 := blk_cell HQ2.out 8
          have hz0 := blk_cell (blk_below HBZ1.out HB2.out) 0
          have hz1 := blk_cell (blk_below HBZ1.out HB2.out) 1
          have hz2 := blk_cell (blk_below HBZ1.out HB2.out) 2
          have hz3 := blk_cell (blk_below HBZ1.out HB2.out) 3
          have hz4 := blk_cell (blk_below HBZ1.out HB2.out) 4
          have hz5 := blk_cell (blk_below HBZ1.out HB2.out) 5
          have hz6 := blk_cell (blk_below HBZ1.out HB2.out) 6
          have hz7 := blk_cell (blk_below HBZ1.out HB2.out) 7
          have hz8 := blk_cell (blk_below HBZ1.out HB2.out) 8
          have hy0 := blk_frozen (blk_below HBZ1.out HB2.out) 0
          have hy1 := blk_frozen (blk_below HBZ1.out HB2.out) 1
          have hy2 := blk_frozen (blk_below HBZ1.out HB2.out) 2
          have hy3 := blk_frozen (blk_below HBZ1.out HB2.out) 3
          have hy4 := blk_frozen (blk_below HBZ1.out HB2.out) 4
          have hy5 := blk_frozen (blk_below HBZ1.out HB2.out) 5
          have hy6 := blk_frozen (blk_below HBZ1.out HB2.out) 6
          have hy7 := blk_frozen (blk_below HBZ1.out HB2.out) 7
          have hy8 := blk_frozen (blk_below HBZ1.out HB2.out) 8
          simp only [List.getElem?_toArray, List.getElem?_cons_zero, List.getElem?_cons_succ] at hr0 hz0 hr1 hz1 hr2 hz2 hr3 hz3 hr4 hz4 hr5 hz5 hr6 hz6 hr7 hz7 hr8 hz8
          go_wp2
          refine bodyPost_ret (results_ct rfl _ _ w.heap.size 63 #[.int .i64 c, .int .i64 d, .int .i64 g, .int .i64 f, .int .i64 u, .slice AP P.length kP, .slice AQ Q.length kQ, .slice AT R.length kT, .bool m] (0, 0) _ rfl ?blk Tryd.underlying63 rfl (by kernel_rfl)) rfl ?_
          case blk => first | (with_reducible exact put9 _ _ _ _ _ _ _ _ _ (blk_below HBZ1.out HB2.out)) | (trace_state; fail)
          rw [HTR.out]
          have hk : Kp (fun k => k = w.heap.size) W3 _ := put9_kp (fun k => k = w.heap.size) (W := W3) (g := w.heap.size) rfl (.int .i64 c) (.int .i64 d) (.int .i64 g) (.int .i64 f) (.int .i64 u) (.slice AP P.length kP) (.slice AQ Q.length kQ) (.slice AT R.length kT) (.bool m)
          have hlt0 := blk_lt HBZ.out
          exact ⟨AP, kP, AQ, kQ, AT, kT, rfl, Kd.V_mono (V_kp (b' := 0) (V_below' (b' := 0) HVP.out HB2.out) hk (fun k h => by omega)) (fun k h => by omega), Kd.V_mono (V_kp (b' := 0) (V_below' (b' := 0) HVQ.out HB2.out) hk (fun k h => by omega)) (fun k h => by omega), Kd.V_mono (V_kp (b' := 0) (V_below' (b' := 0) HVT.out HB2.out) hk (fun k h => by omega)) (fun k h => by omega), hk.below (below_step HB1.out HB2.out) (below_step HB1.out HB2.out).size (fun k h => by omega)⟩
        | some e =>
          obtain ⟨n1, b1, hv, hbb, hh⟩ := HE.out
          subst hv
          have hTR : takeRec s = (zeroRec, e) := HTK.out
          have HTR := Lib.hid hTR
          have HBB := Lib.hid hbb
          have HH := Lib.hid hh
          clear hTR HTK hbb hh
          go_wp2_with fail
          obtain ⟨W2, hW2⟩ : ∃ X, (W1.alloc (.cells #[.int .i64 c, .int .i64 d, .int .i64 g, .int .i64 f, .int .i64 u, .slice AP P.length kP, .slice AQ Q.length kQ, .slice AT R.length kT, .bool m] 63)).alloc (.cells #[.pointer none] 88) = X := ⟨_, rfl⟩
          have hb2 : Below W1.heap.size W1 W2 := by rw [← hW2]; exact ((Below.refl _ W1).alloc (Nat.le_refl _) _).alloc (by simp) _
          have hq : W2.heap[W1.heap.size]? = some (.cells #[.int .i64 c, .int .i64 d, .int .i64 g, .int .i64 f, .int .i64 u, .slice AP P.length kP, .slice AQ Q.length kQ, .slice AT R.length kT, .bool m] 63 (0, 0)) := by rw [← hW2]; exact blk_alloc (blk_new _ _) _
          have hp : W2.heap[W1.heap.size + 1]? = some (.cells #[.pointer none] 88 (0, 0)) := by rw [← hW2]; exact blk_new_at _ _ (by simp)
          rw [hW2]
          obtain ⟨Bq, hBq⟩ : ∃ n, W1.heap.size = n := ⟨_, rfl⟩
          rw [hBq] at hq hp
          rw [hBq]
          have HBQ := Lib.hid hBq
          have HP := Lib.hid hp
          have HQ2 := Lib.hid hq
          have HB2 := Lib.hid hb2
          have hlt2 : w.heap.size < Bq := by rw [← hBq]; exact Nat.lt_of_lt_of_le (blk_lt HBZ.out) HSZ.out
          clear hW2 hBq hp hb2 hq hsz
          have hT2 : TbC W2 := hT.below (below_step HB1.out HB2.out)
          have HT2 := Lib.hid hT2
          clear hT2
          refine (as_hit' _ b1 (Bq + 1) W2 HT2.out HP.out).mono ?_
          rintro en W3 ⟨rfl, hp3, hk3⟩
          have hlb := blk_lt HH.out
          have hbq := HBQ.out
          have hzb := hk3.blk (blk_below HBZ1.out HB2.out) (by omega)
          have heb := hk3.blk (blk_below HH.out HB2.out) (by omega)
          have hz0 := blk_cell hzb 0
          have hz1 := blk_cell hzb 1
          have hz2 := blk_cell hzb 2
          have hz3 := blk_cell hzb 3
          have hz4 := blk_cell hzb 4
          have hz5 := blk_cell hzb 5
          have hz6 := blk_cell hzb 6
          have hz7 := blk_cell hzb 7
          have hz8 := blk_cell hzb 8
          have hy0 := blk_frozen hzb 0
          have hy1 := blk_frozen hzb 1
          have hy2 := blk_frozen hzb 2
          have hy3 := blk_frozen hzb 3
          have hy4 := blk_frozen hzb 4
          have hy5 := blk_frozen hzb 5
          have hy6 := blk_frozen hzb 6
          have hy7 := blk_frozen hzb 7
          have hy8 := blk_frozen hzb 8
          have hpc := blk_cell hp3 0
          have hec := blk_cell heb 0
          simp only [List.getElem?_toArray, List.getElem?_cons_zero, List.getElem?_cons_succ] at hz0 hz1 hz2 hz3 hz4 hz5 hz6 hz7 hz8 hpc hec
          have HK3 := Lib.hid hk3
          have HZB := Lib.hid hzb
          clear hp3 hk3 hzb heb
          have hn1 : b1 ≠ w.heap.size := by have := HBB.out; have := blk_lt HBZ.out; omega
          have hn2 : w.heap.size ≠ b1 := Ne.symm hn1
          have hn3 : Bq + 1 ≠ w.heap.size := by omega
          have hn4 : w.heap.size ≠ Bq + 1 := by omega
          clear hbq
          go_wp2
          go_region
          all_goals try go_wp2
          all_goals
            refine bodyPost_ret (results_ct rfl _ _ w.heap.size 63 #[.int .i64 0, .int .i64 0, .int .i64 0, .int .i64 0, .int .i64 0, .slice none 0 0, .slice none 0 0, .slice none 0 0, .bool false] (0, 0) _ rfl ?blk Tryd.underlying63 rfl (by kernel_rfl)) rfl ?_
            case blk => with_reducible refine blk_drew ?_; exact put9 _ _ _ _ _ _ _ _ _ HZB.out
            rw [HTR.out]
            have hk : Kp (fun k => k = w.heap.size) W3 _ := (put9_kp (fun k => k = w.heap.size) (W := W3) (g := w.heap.size) rfl (.int .i64 0) (.int .i64 0) (.int .i64 0) (.int .i64 0) (.int .i64 0) (.slice none 0 0) (.slice none 0 0) (.slice none 0 0) (.bool false)).drew
            have hb3 : Below w.heap.size w W3 := HK3.out.below (below_step HB1.out HB2.out) (below_step HB1.out HB2.out).size (fun k h => by omega)
            exact ⟨none, 0, none, 0, none, 0, rfl, Kd.V_nil _ _ _ _ _, Kd.V_nil _ _ _ _ _, Kd.V_nil _ _ _ _ _, hk.below hb3 hb3.size (fun k h => by omega)⟩
      · have hmb : ((s.extract 0 4).toList == [84, 65, 76, 89]) = false := beq_eq_false_iff_ne.mpr hm
        have hR : takeRec s = (zeroRec, 6) := by unfold takeRec; rw [if_neg h8, HNS.out, if_neg (fun h => h HQ.out), if_pos hm]
        have HR := Lib.hid hR
        clear hm hR
        go_wp2
        refine bodyPost_ret (results_ct rfl _ _ w.heap.size 63 #[.int .i64 0, .int .i64 0, .int .i64 0, .int .i64 0, .int .i64 0, .slice none 0 0, .slice none 0 0, .slice none 0 0, .bool false] (0, 0) _ rfl ?blk Tryd.underlying63 rfl (by kernel_rfl)) rfl ?_
        case blk => first | (with_reducible exact put9 _ _ _ _ _ _ _ _ _ HBZ.out) | (trace_state; fail)
        rw [HR.out]
        exact ⟨none, 0, none, 0, none, 0, rfl, Kd.V_nil _ _ _ _ _, Kd.V_nil _ _ _ _ _, Kd.V_nil _ _ _ _ _, (put9_kp (fun k => k = w.heap.size) rfl _ _ _ _ _ _ _ _ _).below HB0.out HB0.out.size (fun k h => by omega)⟩
    · have hb : (numF (s.extract n s.size) != sumF (s.extract 0 n)) = true := by rw [bne_iff_ne]; exact hq
      rw [hb]
      have hR : takeRec s = (zeroRec, 7) := by unfold takeRec; rw [if_neg h8, HNS.out, if_pos hq]
      have HR := Lib.hid hR
      clear hq hb hR
      go_wp2
      refine bodyPost_ret (results_ct rfl _ _ w.heap.size 63 #[.int .i64 0, .int .i64 0, .int .i64 0, .int .i64 0, .int .i64 0, .slice none 0 0, .slice none 0 0, .slice none 0 0, .bool false] (0, 0) _ rfl ?blk Tryd.underlying63 rfl (by kernel_rfl)) rfl ?_
      case blk => first | (with_reducible exact put9 _ _ _ _ _ _ _ _ _ HBZ.out) | (trace_state; fail)
      rw [HR.out]
      exact ⟨none, 0, none, 0, none, 0, rfl, Kd.V_nil _ _ _ _ _, Kd.V_nil _ _ _ _ _, Kd.V_nil _ _ _ _ _, (put9_kp (fun k => k = w.heap.size) rfl _ _ _ _ _ _ _ _ _).below HB0.out HB0.out.size (fun k h => by omega)⟩
/-- crc.Take, as the printed texts take it. -/
def crc_Take.f (a0 : ByteArray) : Option (Int × Int × Int × Int × Int × List Int × List Int × List Int × Bool × Int) :=
  if a0.size < 9223372036854775807 then some ((takeRec a0).1.1, (takeRec a0).1.2.1, (takeRec a0).1.2.2.1, (takeRec a0).1.2.2.2.1, (takeRec a0).1.2.2.2.2.1, (takeRec a0).1.2.2.2.2.2.1, (takeRec a0).1.2.2.2.2.2.2.1, (takeRec a0).1.2.2.2.2.2.2.2.1, (takeRec a0).1.2.2.2.2.2.2.2.2, (takeRec a0).2) else none
theorem crc_Take.calls (a0 : ByteArray) (r1 : Int) (r2 : Int) (r3 : Int) (r4 : Int) (r5 : Int) (r6 : List Int) (r7 : List Int) (r8 : List Int) (r9 : Bool) (r10 : Int) (w : World) (hT : TbC w) (h : crc_Take.f a0 = some (r1, r2, r3, r4, r5, r6, r7, r8, r9, r10)) :
    Calls Tryd.prog 25 #[.string a0] w fun e w' => ∃ v5_ v6_ v7_ : Value, e = .returned (.tuple #[.agg #[.int .i64 r1, .int .i64 r2, .int .i64 r3, .int .i64 r4, .int .i64 r5, v5_, v6_, v7_, .bool r9], .int .i64 r10]) ∧ Kd.V (Kd.int .u64) 79 w' w.heap.size (fun k_ => (w.heap.size ≤ k_)) v5_ r6 ∧ Kd.V (Kd.int .u64) 79 w' w.heap.size (fun k_ => (w.heap.size ≤ k_)) v6_ r7 ∧ Kd.V (Kd.int .u64) 79 w' w.heap.size (fun k_ => (w.heap.size ≤ k_)) v7_ r8 ∧ Below w.heap.size w w' := by
  unfold crc_Take.f at h
  split at h
  · rename_i hs
    simp only [Option.some.injEq, Prod.mk.injEq] at h
    obtain ⟨rfl, rfl, rfl, rfl, rfl, rfl, rfl, rfl, rfl, rfl⟩ := h
    refine (take_rec a0 hs w hT).mono ?_
    rintro e w' ⟨AP, kP, AQ, kQ, AT, kT, rfl, h1, h2, h3, hb⟩
    exact ⟨_, _, _, rfl, h1, h2, h3, hb⟩
  · cases h
end Go.Proofs.YtbpobnlkfpjijaaDoorR.Pr
end
-- Pr59
section
namespace Go.Proofs.YtbpobnlkfpjijaaDoorR.Pr
open Go.RowKit Go.Proofs.YtbpobnlkfpjijaaDoorRW.PrintWords Go.Proofs.YtbpobnlkfpjijaaDoorRW.PrintLast Go.Proofs.YtbpobnlkfpjijaaDoorRW.PrintMore
attribute [local go_sem] max2_int min2_int max_two min_two max_three min_three max_four min_four   -- for this text's walks alone
set_option linter.unusedVariables false
set_option linter.unusedSimpArgs false

attribute [local go_sem] Go.Proofs.Aid.cell_set_row
def tallystickref14_ordered.f (l0 : List Int) : Option (Bool) := if (l0.length : Int) ≤ 4096 then (if (l0.length : Int) = 0 then (some true) else (if 0 ≤ (wrap64 ((l0.length : Int) - 1)) then (if (wrap64 ((l0.length : Int) - 1)) < (l0.length : Int) then (some ((rd l0 (wrap64 ((l0.length : Int) - 1))) != 0)) else (none)) else (none))) else (some false)
set_option maxHeartbeats 8000000 in
set_option maxRecDepth 100000 in
theorem tallystickref14_ordered.calls (A0 : Option Addr) (c0 : Nat) (l0 : List Int) (r : Bool) (w : World) (hr0 : Kd.C (Kd.int .u64) w A0 l0.length l0) (hc0 : l0.length ≤ c0) (h : tallystickref14_ordered.f l0 = some r) :
    Calls Tryd.prog 60 #[.slice A0 l0.length c0] w fun e w' => e = .returned (.bool r) ∧ Drawn0 w w' := by
  have HR0 := Aside0.mk hr0
  have HC0 := Aside0.mk hc0
  clear hr0 hc0
  have H : (if (l0.length : Int) ≤ 4096 then (if (l0.length : Int) = 0 then (some true) else (if 0 ≤ (wrap64 ((l0.length : Int) - 1)) then (if (wrap64 ((l0.length : Int) - 1)) < (l0.length : Int) then (some ((rd l0 (wrap64 ((l0.length : Int) - 1))) != 0)) else (none)) else (none))) else (some false)) = some r := h
  clear h
  by_cases c2 : (l0.length : Int) ≤ 4096
  · rw [if_pos c2] at H
    have c2b0 : decide ((l0.length : Int) ≤ 4096) = true := decide_eq_true c2
    have c2b1 : decide (l0.length ≤ 4096) = true := decide_eq_true (by omega)
    clear c2
    by_cases c3 : (l0.length : Int) = 0
    · rw [if_pos c3] at H
      have c3b0 : ((l0.length : Int) == 0) = true := beq_iff_eq.mpr c3
      have c3b1 : ((l0.length : Int) != 0) = false := bne_eq_false_iff_eq.mpr c3
      clear c3
      obtain rfl := Option.some.inj H
      go_enter Tryd.func60, Tryd.ntmps60
      go_wp2
      go_ret
      exact ⟨by first | rfl | (simp; done) | (simp [*]; done), by repeat (first | exact Drawn0.refl _ | apply Drawn0.step)⟩
    · rw [if_neg c3] at H
      have c3b0 : ((l0.length : Int) == 0) = false := beq_eq_false_iff_ne.mpr c3
      have c3b1 : ((l0.length : Int) != 0) = true := bne_iff_ne.mpr c3
      have c3b2 : ¬ (l0 = []) := fun h_ => c3 (by rw [h_]; rfl)
      obtain ⟨ji4, hji4⟩ : ∃ j_ : Int, (wrap64 ((l0.length : Int) - 1)) = j_ := ⟨_, rfl⟩
      replace H : (if 0 ≤ (ji4) then (if (ji4) < (l0.length : Int) then (some ((rd l0 (ji4)) != 0)) else (none)) else (none)) = some r := by first | (rw [hji4] at H; exact H) | (simp only [hji4] at H ⊢; exact H)
      have hji4w : (IntKind.i64.wrap ((l0.length : Int) - 1)) = ji4 := (i64_w _).trans hji4
      by_cases c5 : 0 ≤ (ji4)
      · rw [if_pos c5] at H
        have c5b0 : decide (0 ≤ (ji4)) = true := decide_eq_true c5
        clear c5
        by_cases c6 : (ji4) < (l0.length : Int)
        · rw [if_pos c6] at H
          have c6b0 : decide ((ji4) < (l0.length : Int)) = true := decide_eq_true c6
          clear c6
          obtain rfl := Option.some.inj H
          have p200 : 0 ≤ ((ji4) : Int) := of_decide_eq_true (by first | (with_reducible assumption) | assumption)
          have q200 : (ji4) < (l0.length : Int) := of_decide_eq_true (by first | (with_reducible assumption) | assumption)
          obtain ⟨ad200, e200, hx200_0⟩ := Kd.at_int HR0.out (ji4) p200 q200
          cases e200
          replace p200 := eq_true p200
          replace q200 := eq_true q200
          go_enter Tryd.func60, Tryd.ntmps60
          go_wp2
          go_ret
          exact ⟨by first | rfl | (simp; done) | (simp only [← hji4] <;> (first | rfl | simp)) | (simp [*]; done), by repeat (first | exact Drawn0.refl _ | apply Drawn0.step)⟩
        · rw [if_neg c6] at H
          exact absurd H (by simp)
      · rw [if_neg c5] at H
        exact absurd H (by simp)
  · rw [if_neg c2] at H
    have c2b0 : decide ((l0.length : Int) ≤ 4096) = false := decide_eq_false c2
    have c2b1 : decide (l0.length ≤ 4096) = false := decide_eq_false (by omega)
    clear c2
    obtain rfl := Option.some.inj H
    go_enter Tryd.func60, Tryd.ntmps60
    go_wp2
    go_ret
    exact ⟨by first | rfl | (simp; done) | (simp [*]; done), by repeat (first | exact Drawn0.refl _ | apply Drawn0.step)⟩

end Go.Proofs.YtbpobnlkfpjijaaDoorR.Pr
end
