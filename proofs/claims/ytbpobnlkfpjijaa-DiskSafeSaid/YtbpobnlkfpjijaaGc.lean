import Derived.Test.YtbpobnlkfpjijaaPr0
import Derived.Test.YtbpobnlkfpjijaaAid
import Derived.Laws.Cover1
import Derived.Lib.Hide
import Derived.Laws.CopyOwn
import Derived.Laws.OwnMore
import Derived.Lib.BufferWrite
import Derived.Shelf.RegionOpenPlain
/-! disk.kept. -/
namespace Go.Proofs.Ytbpobnlkfpjijaa.Pr
open Go.RowKit Go.Proofs.YtbpobnlkfpjijaaW.PrintWords Go.Proofs.YtbpobnlkfpjijaaW.PrintLast Go.Proofs.YtbpobnlkfpjijaaW.PrintMore
set_option linter.unusedVariables false
set_option linter.unusedSimpArgs false
attribute [local go_sem] max2_int min2_int max_two min_two max_three min_three max_four min_four Go.Proofs.Aid.cell_set_row
open Go.Lib in
/-- 'copy(dst, s)', s a string, whichever is longer. -/
theorem run_copy_row_str_min {P : Program} (w : World) (dT sT ty elem : TypeId) (g o dLen dCap : Nat) (s : ByteArray) (cur : Array Value) (t : TypeId)
    (hu : P.underlying dT = some (.slice elem)) (hs : (P.info? elem).map (·.size) = some 1) (hg : w.heap[g]? = some (.cells cur t (0, 0))) (hfit : o + dLen ≤ cur.size) :
    (Builtin.copy_ #[dT, sT] ty #[.slice (some ⟨g, o, none⟩) dLen dCap, .string s]).run P w =
      .ok (goInt (min s.size dLen : Nat)) (w.setRow g (cur.toList.take o ++ byteCells (s.data.toList.take dLen) ++ cur.toList.drop (o + min s.size dLen)).toArray) := by
  have hlen : (byteCells (s.data.toList.take dLen)).length = min s.size dLen := by rw [byteCells_length, List.length_take, ← size_eq, Nat.min_comm]
  have hst := run_storeCells_at P g o t (byteCells (s.data.toList.take dLen)) 0 cur w hg (by rw [hlen]; omega) (byteCells_one _)
  have htk : List.take (min s.size dLen) (List.map (fun b : UInt8 => Value.int IntKind.u8 (b.toNat : Int)) s.data.toList) = byteCells (s.data.toList.take dLen) := by
    rw [← List.map_take]
    unfold byteCells
    congr 1
    rw [size_eq, Nat.min_comm, ← List.take_take, List.take_length]
  rw [hlen] at hst
  simp only [Nat.add_zero] at hst
  have hm : Nat.min s.size dLen = min s.size dLen := rfl
  cases hq : P.info? elem with
  | none => simp [hq] at hs
  | some i =>
    simp [Builtin.copy_, run_underlying hu, Builtin.lenOf, Builtin.firstCells, sizeOf, typeInfo, hq, hm]
    rw [htk, hst]
    simp [Result.andThen]
theorem step_copy_runK {P : Program} {ops : Array Oper} {o : Oper} {a : Act} {w : World} {K : Act → World → Prop} {Q : Exit → Act → World → Prop} {E : Prop}
    (hg : o.guard = none) (d x : Operand) (dT sT : TypeId) (hop : o.op = Op.call { callee := Callee.builtin Builtin.copy, args := #[d, x], argTypes := #[dT, sT] })
    (v u : Value) (hd : a.eval d = v) (hx : a.eval x = u) {v' : Value} {w' : World} (hr : (Builtin.copy_ #[dT, sT] o.type #[v, u]).run P w = .ok v' w')
    (hK : K (a.put o.dst v') w') :
    if Region.wanted o (yielded ops a.tmps) = true then Oper.wp P o a w K Q else E := by
  have hw : Region.wanted o (yielded ops a.tmps) = true := by simp [Region.wanted, hg]
  rw [if_pos hw]
  unfold Oper.wp
  simp [execOp, hop, resolve, invoke, builtin, hd, hx, hr, Result.andThen]
  exact hK


theorem und115 : Try.prog.underlying 115 = some (.slice 5) := by kernel_rfl
theorem info5b : (Try.prog.info? 5).map (fun i => (i.zero, i.size, i.bytes)) = some (some (.int .u8 0), 1, 1) := by kernel_rfl

/-- One block of a file: of what was written, or of what was safe. -/
def kFrom (x1 x2 : ByteArray) (m : Int) (k : Nat) : ByteArray := if (bits BinOp.and IntKind.u64 (m / 2 ^ (1 + k % 63)) 1 == 1) = true then x1 else x2
def kPut (fr : ByteArray) (n k : Nat) (o : List UInt8) : List UInt8 :=
  if k * 16 < fr.size then o.take (k * 16) ++ (fr.data.toList.drop (k * 16)).take (min ((k + 1) * 16) n - k * 16) ++ o.drop (k * 16 + min (fr.size - k * 16) (min ((k + 1) * 16) n - k * 16)) else o
/-- From block k on. -/
def kLoop (x1 x2 : ByteArray) (m : Int) (n : Nat) (k : Nat) (o : List UInt8) : List UInt8 :=
  if k * 16 < n then kLoop x1 x2 m n (k + 1) (kPut (kFrom x1 x2 m k) n k o) else o
termination_by n - k
theorem kLoop_at (x1 x2 : ByteArray) (m : Int) (n : Nat) (k : Nat) (o : List UInt8) (h : k * 16 < n) : kLoop x1 x2 m n k o = kLoop x1 x2 m n (k + 1) (kPut (kFrom x1 x2 m k) n k o) := by
  conv => lhs; unfold kLoop
  rw [if_pos h]
theorem kLoop_end (x1 x2 : ByteArray) (m : Int) (n : Nat) (k : Nat) (o : List UInt8) (h : ¬ k * 16 < n) : kLoop x1 x2 m n k o = o := by
  unfold kLoop
  rw [if_neg h]
theorem extract_toList (b : ByteArray) (i : Nat) : (b.extract i b.size).data.toList = b.data.toList.drop i := by
  rw [ByteArray.data_extract, Array.toList_extract, Lib.size_eq]
  simp
  apply List.take_of_length_le
  simp
theorem kPut_length (fr : ByteArray) (n k : Nat) (o : List UInt8) (ho : o.length = n) (hk : k * 16 < n) : (kPut fr n k o).length = n := by
  unfold kPut
  split
  · rename_i h
    rw [Lib.size_eq] at *
    simp only [List.length_append, List.length_take, List.length_drop]
    omega
  · exact ho
theorem kPut_cells (fr : ByteArray) (n k : Nat) (o : List UInt8) (h : k * 16 < fr.size) :
    ((Lib.byteCells o).toArray.toList.take (k * 16) ++ Lib.byteCells ((fr.extract (k * 16) fr.size).data.toList.take (min ((k + 1) * 16) n - k * 16)) ++ (Lib.byteCells o).toArray.toList.drop (k * 16 + min (fr.extract (k * 16) fr.size).size (min ((k + 1) * 16) n - k * 16))).toArray = (Lib.byteCells (kPut fr n k o)).toArray := by
  unfold kPut
  rw [if_pos h, extract_toList]
  have : (fr.extract (k * 16) fr.size).size = fr.size - k * 16 := by simp
  rw [this]
  simp only [Lib.byteCells, List.map_append, List.map_take, List.map_drop]

set_option maxRecDepth 100000 in
set_option maxHeartbeats 8000000 in
theorem kept_T (x0 x1 x2 : ByteArray) (m : Int) (hn : x1.size ≤ 140737488351232) (w : World) (hne : (x1.toList == x2.toList) = false) (hb : (bits BinOp.and IntKind.u64 m 1 == 1) = true) (hm0 : 0 ≤ m) (hm1 : m < 18446744073709551616) :
    Calls Try.prog 45 #[.agg #[.string x0, .string x1, .string x2], .int .u64 m] w fun e w' => e = .returned (.string ⟨(kLoop x1 x2 m x1.size 0 (List.replicate x1.size 0)).toArray⟩) ∧ Below w.heap.size w w' := by
  have hmk := run_make_row' (P := Try.prog) 115 5 (.int .u8 0) 1 und115 info5b rfl .i64 .i64 x1.size (by omega) (by omega)
  obtain ⟨W, hW⟩ : ∃ W, (w.alloc (.cells #[.string x0, .string x1, .string x2] 55)).alloc (.cells (madeCells #[.int .u8 0] x1.size) 5) = W := ⟨_, rfl⟩
  have hbW : Below w.heap.size w W := by rw [← hW]; exact ((Below.refl _ _).alloc (Nat.le_refl _) _).alloc (by simp) _
  have hd1 : W.cell? ⟨w.heap.size, 1, none⟩ = some (.string x1) := by
    subst hW
    rw [World.cell?_alloc_lt _ _ _ (by simp)]
    exact (World.cell?_alloc_mark w _ _ (0, 0) 1).trans rfl
  have hd2 : W.cell? ⟨w.heap.size, 2, none⟩ = some (.string x2) := by
    subst hW
    rw [World.cell?_alloc_lt _ _ _ (by simp)]
    exact (World.cell?_alloc_mark w _ _ (0, 0) 2).trans rfl
  have hz : W.heap[w.heap.size + 1]? = some (.cells (Lib.byteCells (List.replicate x1.size 0)).toArray 5 (0, 0)) := by
    subst hW
    have := heap_alloc_new (w.alloc (.cells #[.string x0, .string x1, .string x2] 55)) (.cells (madeCells #[.int .u8 0] x1.size) 5)
    rw [World.size_alloc] at this
    rw [this]
    congr 2
    apply Array.ext'
    rw [toList_madeCells_one]
    simp [Lib.byteCells]
  go_enter Try.func45, Try.ntmps45
  go_wp2
  clear hW
  go_loopw [7] (fun i wr => ∃ k : Nat, k ≤ x1.size ∧ i = .int .i64 k ∧ Below w.heap.size w wr ∧ wr.cell? ⟨w.heap.size, 1, none⟩ = some (.string x1) ∧ wr.cell? ⟨w.heap.size, 2, none⟩ = some (.string x2) ∧ ∃ o : List UInt8, o.length = x1.size ∧ kLoop x1 x2 m x1.size 0 (List.replicate x1.size 0) = kLoop x1 x2 m x1.size k o ∧ wr.heap[w.heap.size + 1]? = some (.cells (Lib.byteCells o).toArray 5 (0, 0))) (fun i _ => x1.size - (intOf i).toNat)
  case atStart => exact ⟨0, Nat.zero_le _, rfl, hbW, hd1, hd2, _, by simp, rfl, hz⟩
  case round =>
    clear hz hbW hd1 hd2
    obtain ⟨k, hk, rfl, hb, hc1, hc2, o, ho, he, hh⟩ := hrel
    have hw1 : wrap64 ((k : Int) * 16) = (k : Int) * 16 := by unfold wrap64; omega
    have hw2 : wrap64 (((k : Int) + 1) * 16) = ((k : Int) + 1) * 16 := by unfold wrap64; omega
    by_cases hlt : k * 16 < x1.size
    · have hlt' : (k : Int) * 16 < x1.size := by omega
      have hkn : ¬ x1.size = k * 16 := by omega
      have hkn2 : ¬ k * 16 = x1.size := by omega
      have hk3 : ((k : Int) * 16).toNat = k * 16 := by omega
      have hk4 : (((k : Int) + 1) * 16).toNat = (k + 1) * 16 := by omega
      have hw4 : IntKind.i64.wrap ((k : Int) * 16) = (k : Int) * 16 := by rw [IntKind.wrap_i64]; omega
      have hk7 : 0 ≤ ((k : Int) + 1) * 16 := by omega
      have hk8 : (k : Int) ≤ (k : Int) + 1 := by omega
      have hk5 : 0 ≤ (k : Int) * 16 := by omega
      have hk6 : (k : Int) * 16 ≤ x1.size := by omega
      rw [kLoop_at _ _ _ _ _ _ hlt] at he
      have HE := Lib.hid he
      clear he
      have HH := Lib.hid hh
      clear hh
      have HO := Lib.hid ho
      clear ho
      have step : ∀ (fr : ByteArray) (hfr : kFrom x1 x2 m k = fr) (hf : k * 16 < fr.size) (E : Nat) (hE : E = min ((k + 1) * 16) x1.size),
          (∀ ty, (Builtin.copy_ #[115, 9] ty #[.slice (some ⟨w.heap.size + 1, k * 16, none⟩) (E - k * 16) (x1.size - k * 16), .string (fr.extract (k * 16) fr.size)]).run Try.prog wr.drew = .ok (goInt (min (fr.extract (k * 16) fr.size).size (E - k * 16) : Nat)) (wr.drew.setRow (w.heap.size + 1) (Lib.byteCells (kPut fr x1.size k o)).toArray)) := by
        intro fr hfr hf E hE ty
        subst hE
        rw [← kPut_cells fr x1.size k o hf]
        exact run_copy_row_str_min (P := Try.prog) wr.drew 115 9 ty 5 (w.heap.size + 1) (k * 16) _ _ _ _ 5 und115 (by simpa using congrArg (Option.map (fun z => z.2.1)) info5b) HH.out (by simp [Lib.byteCells, HO.out]; omega)
      have done : ∀ (fr : ByteArray) (hfr : kFrom x1 x2 m k = fr) (hf : k * 16 < fr.size),
          ∃ k' : Nat, k' ≤ x1.size ∧ Value.int .i64 ((k : Int) + 1) = .int .i64 k' ∧ Below w.heap.size w (wr.drew.setRow (w.heap.size + 1) (Lib.byteCells (kPut fr x1.size k o)).toArray) ∧ (wr.drew.setRow (w.heap.size + 1) (Lib.byteCells (kPut fr x1.size k o)).toArray).cell? ⟨w.heap.size, 1, none⟩ = some (.string x1) ∧ (wr.drew.setRow (w.heap.size + 1) (Lib.byteCells (kPut fr x1.size k o)).toArray).cell? ⟨w.heap.size, 2, none⟩ = some (.string x2) ∧ ∃ o' : List UInt8, o'.length = x1.size ∧ kLoop x1 x2 m x1.size 0 (List.replicate x1.size 0) = kLoop x1 x2 m x1.size k' o' ∧ (wr.drew.setRow (w.heap.size + 1) (Lib.byteCells (kPut fr x1.size k o)).toArray).heap[w.heap.size + 1]? = some (.cells (Lib.byteCells o').toArray 5 (0, 0)) := by
        intro fr hfr hf
        refine ⟨k + 1, by omega, by simp, Go.below_setRow hb.drew (by omega) _, ?_, ?_, _, kPut_length fr _ k o HO.out hlt, by rw [HE.out, hfr], setRow_heap _ _ _ _ _ _ HH.out⟩
        · rw [cell_setRow_other _ _ _ _ (by simp)]; exact hc1
        · rw [cell_setRow_other _ _ _ _ (by simp)]; exact hc2
      have skip : ∀ (fr : ByteArray) (hfr : kFrom x1 x2 m k = fr) (hf : ¬ k * 16 < fr.size),
          ∃ k' : Nat, k' ≤ x1.size ∧ Value.int .i64 ((k : Int) + 1) = .int .i64 k' ∧ Below w.heap.size w wr ∧ wr.cell? ⟨w.heap.size, 1, none⟩ = some (.string x1) ∧ wr.cell? ⟨w.heap.size, 2, none⟩ = some (.string x2) ∧ ∃ o' : List UInt8, o'.length = x1.size ∧ kLoop x1 x2 m x1.size 0 (List.replicate x1.size 0) = kLoop x1 x2 m x1.size k' o' ∧ wr.heap[w.heap.size + 1]? = some (.cells (Lib.byteCells o').toArray 5 (0, 0)) := by
        intro fr hfr hf
        refine ⟨k + 1, by omega, by simp, hb, hc1, hc2, o, HO.out, ?_, HH.out⟩
        rw [HE.out, hfr]
        unfold kPut
        rw [if_neg hf]
      by_cases hg : (bits BinOp.and IntKind.u64 (m / 2 ^ (1 + k % 63)) 1 == 1) = true
      · have hfr : kFrom x1 x2 m k = x1 := by unfold kFrom; rw [if_pos hg]
        rcases Nat.lt_or_ge (k * 16) x1.size with hf | hf
        rotate_left
        · exact absurd hf (by omega)
        -- k * 16 < x1.size
        · have hf' : (k : Int) * 16 < x1.size := by omega
          have hf6 : (k : Int) * 16 ≤ x1.size := by omega
          have hfd := done x1 hfr hf
          by_cases hE1 : (k + 1) * 16 ≤ x1.size
          · have hE2 : ((k : Int) + 1) * 16 ≤ x1.size := by omega
            have hst := step x1 hfr hf ((k + 1) * 16) (by omega)
            clear step done skip hfr HH HE HO
            have HD := Lib.hid hfd
            clear hfd
            go_wp2
            go_region_law (refine step_copy_runK rfl (.tmp 59) (.tmp 63) 115 9 rfl (.slice (some ⟨w.heap.size + 1, k * 16, none⟩) ((k + 1) * 16 - k * 16) (x1.size - k * 16)) (.string (x1.extract (k * 16) x1.size)) (by simp [Act.eval, Act.put]) (by simp [Act.eval, Act.put]) (hst _) ?_)
            all_goals (
              go_wp2
              go_roundw
              case rel => exact HD.out
              case measure => simp [intOf]; omega)
          · have hE2 : ¬ ((k : Int) + 1) * 16 ≤ x1.size := by omega
            have hst := step x1 hfr hf x1.size (by omega)
            clear step done skip hfr HH HE HO
            have HD := Lib.hid hfd
            clear hfd
            go_wp2
            go_region_law (refine step_copy_runK rfl (.tmp 59) (.tmp 63) 115 9 rfl (.slice (some ⟨w.heap.size + 1, k * 16, none⟩) (x1.size - k * 16) (x1.size - k * 16)) (.string (x1.extract (k * 16) x1.size)) (by simp [Act.eval, Act.put]) (by simp [Act.eval, Act.put]) (hst _) ?_)
            all_goals (
              go_wp2
              go_roundw
              case rel => exact HD.out
              case measure => simp [intOf]; omega)
      · have hfr : kFrom x1 x2 m k = x2 := by unfold kFrom; rw [if_neg hg]
        by_cases hf : k * 16 < x2.size
        · have hf' : (k : Int) * 16 < x2.size := by omega
          have hf6 : (k : Int) * 16 ≤ x2.size := by omega
          have hfd := done x2 hfr hf
          by_cases hE1 : (k + 1) * 16 ≤ x1.size
          · have hE2 : ((k : Int) + 1) * 16 ≤ x1.size := by omega
            have hst := step x2 hfr hf ((k + 1) * 16) (by omega)
            clear step done skip hfr HH HE HO
            have HD := Lib.hid hfd
            clear hfd
            go_wp2
            go_region_law (refine step_copy_runK rfl (.tmp 59) (.tmp 63) 115 9 rfl (.slice (some ⟨w.heap.size + 1, k * 16, none⟩) ((k + 1) * 16 - k * 16) (x1.size - k * 16)) (.string (x2.extract (k * 16) x2.size)) (by simp [Act.eval, Act.put]) (by simp [Act.eval, Act.put]) (hst _) ?_)
            all_goals (
              go_wp2
              go_roundw
              case rel => exact HD.out
              case measure => simp [intOf]; omega)
          · have hE2 : ¬ ((k : Int) + 1) * 16 ≤ x1.size := by omega
            have hst := step x2 hfr hf x1.size (by omega)
            clear step done skip hfr HH HE HO
            have HD := Lib.hid hfd
            clear hfd
            go_wp2
            go_region_law (refine step_copy_runK rfl (.tmp 59) (.tmp 63) 115 9 rfl (.slice (some ⟨w.heap.size + 1, k * 16, none⟩) (x1.size - k * 16) (x1.size - k * 16)) (.string (x2.extract (k * 16) x2.size)) (by simp [Act.eval, Act.put]) (by simp [Act.eval, Act.put]) (hst _) ?_)
            all_goals (
              go_wp2
              go_roundw
              case rel => exact HD.out
              case measure => simp [intOf]; omega)
        · have hf' : ¬ (k : Int) * 16 < x2.size := by omega
          have hfd := skip x2 hfr hf
          clear step done skip hfr HH HE HO
          have HD := Lib.hid hfd
          clear hfd
          go_wp2
          all_goals (
            go_roundw
            case rel => exact HD.out
            case measure => simp [intOf]; omega)
    · have hlt' : ¬ (k : Int) * 16 < x1.size := by omega
      rw [kLoop_end _ _ _ _ _ _ hlt] at he
      have hcv := run_convert_bytes_back (P := Try.prog) wr 115 9 5 ⟨w.heap.size + 1, 0, none⟩ x1.size o und115 rfl rfl (fun j hj => by
        have hp : (⟨w.heap.size + 1, 0, none⟩ : Addr).add j = ⟨w.heap.size + 1, j, none⟩ := by unfold Addr.add; split <;> simp_all
        rw [hp]
        simp [World.cell?, hh, Lib.byteCells, List.getElem?_eq_getElem hj])
      rw [ho] at hcv
      have HE := Lib.hid he
      clear he
      go_wp2
      go_ret
      exact ⟨by rw [HE.out]; rfl, hb⟩

set_option maxRecDepth 100000 in
set_option maxHeartbeats 8000000 in
theorem kept_F (x0 x1 x2 : ByteArray) (m : Int) (hn : x2.size ≤ 140737488351232) (w : World) (hne : (x1.toList == x2.toList) = false) (hb : (bits BinOp.and IntKind.u64 m 1 == 1) = false) (hm0 : 0 ≤ m) (hm1 : m < 18446744073709551616) :
    Calls Try.prog 45 #[.agg #[.string x0, .string x1, .string x2], .int .u64 m] w fun e w' => e = .returned (.string ⟨(kLoop x1 x2 m x2.size 0 (List.replicate x2.size 0)).toArray⟩) ∧ Below w.heap.size w w' := by
  have hmk := run_make_row' (P := Try.prog) 115 5 (.int .u8 0) 1 und115 info5b rfl .i64 .i64 x2.size (by omega) (by omega)
  obtain ⟨W, hW⟩ : ∃ W, (w.alloc (.cells #[.string x0, .string x1, .string x2] 55)).alloc (.cells (madeCells #[.int .u8 0] x2.size) 5) = W := ⟨_, rfl⟩
  have hbW : Below w.heap.size w W := by rw [← hW]; exact ((Below.refl _ _).alloc (Nat.le_refl _) _).alloc (by simp) _
  have hd1 : W.cell? ⟨w.heap.size, 1, none⟩ = some (.string x1) := by
    subst hW
    rw [World.cell?_alloc_lt _ _ _ (by simp)]
    exact (World.cell?_alloc_mark w _ _ (0, 0) 1).trans rfl
  have hd2 : W.cell? ⟨w.heap.size, 2, none⟩ = some (.string x2) := by
    subst hW
    rw [World.cell?_alloc_lt _ _ _ (by simp)]
    exact (World.cell?_alloc_mark w _ _ (0, 0) 2).trans rfl
  have hz : W.heap[w.heap.size + 1]? = some (.cells (Lib.byteCells (List.replicate x2.size 0)).toArray 5 (0, 0)) := by
    subst hW
    have := heap_alloc_new (w.alloc (.cells #[.string x0, .string x1, .string x2] 55)) (.cells (madeCells #[.int .u8 0] x2.size) 5)
    rw [World.size_alloc] at this
    rw [this]
    congr 2
    apply Array.ext'
    rw [toList_madeCells_one]
    simp [Lib.byteCells]
  go_enter Try.func45, Try.ntmps45
  go_wp2
  clear hW
  go_loopw [7] (fun i wr => ∃ k : Nat, k ≤ x2.size ∧ i = .int .i64 k ∧ Below w.heap.size w wr ∧ wr.cell? ⟨w.heap.size, 1, none⟩ = some (.string x1) ∧ wr.cell? ⟨w.heap.size, 2, none⟩ = some (.string x2) ∧ ∃ o : List UInt8, o.length = x2.size ∧ kLoop x1 x2 m x2.size 0 (List.replicate x2.size 0) = kLoop x1 x2 m x2.size k o ∧ wr.heap[w.heap.size + 1]? = some (.cells (Lib.byteCells o).toArray 5 (0, 0))) (fun i _ => x2.size - (intOf i).toNat)
  case atStart => exact ⟨0, Nat.zero_le _, rfl, hbW, hd1, hd2, _, by simp, rfl, hz⟩
  case round =>
    clear hz hbW hd1 hd2
    obtain ⟨k, hk, rfl, hb, hc1, hc2, o, ho, he, hh⟩ := hrel
    have hw1 : wrap64 ((k : Int) * 16) = (k : Int) * 16 := by unfold wrap64; omega
    have hw2 : wrap64 (((k : Int) + 1) * 16) = ((k : Int) + 1) * 16 := by unfold wrap64; omega
    by_cases hlt : k * 16 < x2.size
    · have hlt' : (k : Int) * 16 < x2.size := by omega
      have hkn : ¬ x2.size = k * 16 := by omega
      have hkn2 : ¬ k * 16 = x2.size := by omega
      have hk3 : ((k : Int) * 16).toNat = k * 16 := by omega
      have hk4 : (((k : Int) + 1) * 16).toNat = (k + 1) * 16 := by omega
      have hw4 : IntKind.i64.wrap ((k : Int) * 16) = (k : Int) * 16 := by rw [IntKind.wrap_i64]; omega
      have hk7 : 0 ≤ ((k : Int) + 1) * 16 := by omega
      have hk8 : (k : Int) ≤ (k : Int) + 1 := by omega
      have hk5 : 0 ≤ (k : Int) * 16 := by omega
      have hk6 : (k : Int) * 16 ≤ x2.size := by omega
      rw [kLoop_at _ _ _ _ _ _ hlt] at he
      have HE := Lib.hid he
      clear he
      have HH := Lib.hid hh
      clear hh
      have HO := Lib.hid ho
      clear ho
      have step : ∀ (fr : ByteArray) (hfr : kFrom x1 x2 m k = fr) (hf : k * 16 < fr.size) (E : Nat) (hE : E = min ((k + 1) * 16) x2.size),
          (∀ ty, (Builtin.copy_ #[115, 9] ty #[.slice (some ⟨w.heap.size + 1, k * 16, none⟩) (E - k * 16) (x2.size - k * 16), .string (fr.extract (k * 16) fr.size)]).run Try.prog wr.drew = .ok (goInt (min (fr.extract (k * 16) fr.size).size (E - k * 16) : Nat)) (wr.drew.setRow (w.heap.size + 1) (Lib.byteCells (kPut fr x2.size k o)).toArray)) := by
        intro fr hfr hf E hE ty
        subst hE
        rw [← kPut_cells fr x2.size k o hf]
        exact run_copy_row_str_min (P := Try.prog) wr.drew 115 9 ty 5 (w.heap.size + 1) (k * 16) _ _ _ _ 5 und115 (by simpa using congrArg (Option.map (fun z => z.2.1)) info5b) HH.out (by simp [Lib.byteCells, HO.out]; omega)
      have done : ∀ (fr : ByteArray) (hfr : kFrom x1 x2 m k = fr) (hf : k * 16 < fr.size),
          ∃ k' : Nat, k' ≤ x2.size ∧ Value.int .i64 ((k : Int) + 1) = .int .i64 k' ∧ Below w.heap.size w (wr.drew.setRow (w.heap.size + 1) (Lib.byteCells (kPut fr x2.size k o)).toArray) ∧ (wr.drew.setRow (w.heap.size + 1) (Lib.byteCells (kPut fr x2.size k o)).toArray).cell? ⟨w.heap.size, 1, none⟩ = some (.string x1) ∧ (wr.drew.setRow (w.heap.size + 1) (Lib.byteCells (kPut fr x2.size k o)).toArray).cell? ⟨w.heap.size, 2, none⟩ = some (.string x2) ∧ ∃ o' : List UInt8, o'.length = x2.size ∧ kLoop x1 x2 m x2.size 0 (List.replicate x2.size 0) = kLoop x1 x2 m x2.size k' o' ∧ (wr.drew.setRow (w.heap.size + 1) (Lib.byteCells (kPut fr x2.size k o)).toArray).heap[w.heap.size + 1]? = some (.cells (Lib.byteCells o').toArray 5 (0, 0)) := by
        intro fr hfr hf
        refine ⟨k + 1, by omega, by simp, Go.below_setRow hb.drew (by omega) _, ?_, ?_, _, kPut_length fr _ k o HO.out hlt, by rw [HE.out, hfr], setRow_heap _ _ _ _ _ _ HH.out⟩
        · rw [cell_setRow_other _ _ _ _ (by simp)]; exact hc1
        · rw [cell_setRow_other _ _ _ _ (by simp)]; exact hc2
      have skip : ∀ (fr : ByteArray) (hfr : kFrom x1 x2 m k = fr) (hf : ¬ k * 16 < fr.size),
          ∃ k' : Nat, k' ≤ x2.size ∧ Value.int .i64 ((k : Int) + 1) = .int .i64 k' ∧ Below w.heap.size w wr ∧ wr.cell? ⟨w.heap.size, 1, none⟩ = some (.string x1) ∧ wr.cell? ⟨w.heap.size, 2, none⟩ = some (.string x2) ∧ ∃ o' : List UInt8, o'.length = x2.size ∧ kLoop x1 x2 m x2.size 0 (List.replicate x2.size 0) = kLoop x1 x2 m x2.size k' o' ∧ wr.heap[w.heap.size + 1]? = some (.cells (Lib.byteCells o').toArray 5 (0, 0)) := by
        intro fr hfr hf
        refine ⟨k + 1, by omega, by simp, hb, hc1, hc2, o, HO.out, ?_, HH.out⟩
        rw [HE.out, hfr]
        unfold kPut
        rw [if_neg hf]
      by_cases hg : (bits BinOp.and IntKind.u64 (m / 2 ^ (1 + k % 63)) 1 == 1) = true
      · have hfr : kFrom x1 x2 m k = x1 := by unfold kFrom; rw [if_pos hg]
        by_cases hf : k * 16 < x1.size
        · have hf' : (k : Int) * 16 < x1.size := by omega
          have hf6 : (k : Int) * 16 ≤ x1.size := by omega
          have hfd := done x1 hfr hf
          by_cases hE1 : (k + 1) * 16 ≤ x2.size
          · have hE2 : ((k : Int) + 1) * 16 ≤ x2.size := by omega
            have hst := step x1 hfr hf ((k + 1) * 16) (by omega)
            clear step done skip hfr HH HE HO
            have HD := Lib.hid hfd
            clear hfd
            go_wp2
            go_region_law (refine step_copy_runK rfl (.tmp 59) (.tmp 63) 115 9 rfl (.slice (some ⟨w.heap.size + 1, k * 16, none⟩) ((k + 1) * 16 - k * 16) (x2.size - k * 16)) (.string (x1.extract (k * 16) x1.size)) (by simp [Act.eval, Act.put]) (by simp [Act.eval, Act.put]) (hst _) ?_)
            all_goals (
              go_wp2
              go_roundw
              case rel => exact HD.out
              case measure => simp [intOf]; omega)
          · have hE2 : ¬ ((k : Int) + 1) * 16 ≤ x2.size := by omega
            have hst := step x1 hfr hf x2.size (by omega)
            clear step done skip hfr HH HE HO
            have HD := Lib.hid hfd
            clear hfd
            go_wp2
            go_region_law (refine step_copy_runK rfl (.tmp 59) (.tmp 63) 115 9 rfl (.slice (some ⟨w.heap.size + 1, k * 16, none⟩) (x2.size - k * 16) (x2.size - k * 16)) (.string (x1.extract (k * 16) x1.size)) (by simp [Act.eval, Act.put]) (by simp [Act.eval, Act.put]) (hst _) ?_)
            all_goals (
              go_wp2
              go_roundw
              case rel => exact HD.out
              case measure => simp [intOf]; omega)
        · have hf' : ¬ (k : Int) * 16 < x1.size := by omega
          have hfd := skip x1 hfr hf
          clear step done skip hfr HH HE HO
          have HD := Lib.hid hfd
          clear hfd
          go_wp2
          all_goals (
            go_roundw
            case rel => exact HD.out
            case measure => simp [intOf]; omega)
      · have hfr : kFrom x1 x2 m k = x2 := by unfold kFrom; rw [if_neg hg]
        rcases Nat.lt_or_ge (k * 16) x2.size with hf | hf
        rotate_left
        · exact absurd hf (by omega)
        -- k * 16 < x2.size
        · have hf' : (k : Int) * 16 < x2.size := by omega
          have hf6 : (k : Int) * 16 ≤ x2.size := by omega
          have hfd := done x2 hfr hf
          by_cases hE1 : (k + 1) * 16 ≤ x2.size
          · have hE2 : ((k : Int) + 1) * 16 ≤ x2.size := by omega
            have hst := step x2 hfr hf ((k + 1) * 16) (by omega)
            clear step done skip hfr HH HE HO
            have HD := Lib.hid hfd
            clear hfd
            go_wp2
            go_region_law (refine step_copy_runK rfl (.tmp 59) (.tmp 63) 115 9 rfl (.slice (some ⟨w.heap.size + 1, k * 16, none⟩) ((k + 1) * 16 - k * 16) (x2.size - k * 16)) (.string (x2.extract (k * 16) x2.size)) (by simp [Act.eval, Act.put]) (by simp [Act.eval, Act.put]) (hst _) ?_)
            all_goals (
              go_wp2
              go_roundw
              case rel => exact HD.out
              case measure => simp [intOf]; omega)
          · have hE2 : ¬ ((k : Int) + 1) * 16 ≤ x2.size := by omega
            have hst := step x2 hfr hf x2.size (by omega)
            clear step done skip hfr HH HE HO
            have HD := Lib.hid hfd
            clear hfd
            go_wp2
            go_region_law (refine step_copy_runK rfl (.tmp 59) (.tmp 63) 115 9 rfl (.slice (some ⟨w.heap.size + 1, k * 16, none⟩) (x2.size - k * 16) (x2.size - k * 16)) (.string (x2.extract (k * 16) x2.size)) (by simp [Act.eval, Act.put]) (by simp [Act.eval, Act.put]) (hst _) ?_)
            all_goals (
              go_wp2
              go_roundw
              case rel => exact HD.out
              case measure => simp [intOf]; omega)
    · have hlt' : ¬ (k : Int) * 16 < x2.size := by omega
      rw [kLoop_end _ _ _ _ _ _ hlt] at he
      have hcv := run_convert_bytes_back (P := Try.prog) wr 115 9 5 ⟨w.heap.size + 1, 0, none⟩ x2.size o und115 rfl rfl (fun j hj => by
        have hp : (⟨w.heap.size + 1, 0, none⟩ : Addr).add j = ⟨w.heap.size + 1, j, none⟩ := by unfold Addr.add; split <;> simp_all
        rw [hp]
        simp [World.cell?, hh, Lib.byteCells, List.getElem?_eq_getElem hj])
      rw [ho] at hcv
      have HE := Lib.hid he
      clear he
      go_wp2
      go_ret
      exact ⟨by rw [HE.out]; rfl, hb⟩

/-- What is left of a file. -/
def keptF (x1 x2 : ByteArray) (m : Int) : ByteArray :=
  if (x1.toList == x2.toList) = true then x1
  else if (bits BinOp.and IntKind.u64 m 1 == 1) = true then ⟨(kLoop x1 x2 m x1.size 0 (List.replicate x1.size 0)).toArray⟩
  else ⟨(kLoop x1 x2 m x2.size 0 (List.replicate x2.size 0)).toArray⟩
set_option maxRecDepth 100000 in
set_option maxHeartbeats 8000000 in
theorem kept_calls (x0 x1 x2 : ByteArray) (m : Int) (hn1 : x1.size ≤ 140737488351232) (hn2 : x2.size ≤ 140737488351232) (w : World) (hm0 : 0 ≤ m) (hm1 : m < 18446744073709551616) :
    Calls Try.prog 45 #[.agg #[.string x0, .string x1, .string x2], .int .u64 m] w fun e w' => e = .returned (.string (keptF x1 x2 m)) ∧ Below w.heap.size w w' := by
  by_cases hne : (x1.toList == x2.toList) = true
  · unfold keptF
    rw [if_pos hne]
    go_enter Try.func45, Try.ntmps45
    go_wp2
    go_ret
    exact ⟨rfl, below_alloc (Below.refl _ _) _⟩
  · unfold keptF
    rw [if_neg hne]
    cases hb : (bits BinOp.and IntKind.u64 m 1 == 1) with
    | true =>
      rw [if_pos rfl]
      exact kept_T x0 x1 x2 m hn1 w (by simpa using hne) hb hm0 hm1
    | false =>
      rw [if_neg (by decide)]
      exact kept_F x0 x1 x2 m hn2 w (by simpa using hne) hb hm0 hm1
end Go.Proofs.Ytbpobnlkfpjijaa.Pr
