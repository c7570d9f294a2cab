import Derived.Test.YtbpobnlkfpjijaaLm
import Derived.Test.YtbpobnlkfpjijaaLe
import Derived.Test.YtbpobnlkfpjijaaPr98
/-! DiskSafe is true. -/
namespace Go.Proofs.Ytbpobnlkfpjijaa.Pr
open Go.RowKit Go.Proofs.YtbpobnlkfpjijaaW.PrintWords Go.Proofs.YtbpobnlkfpjijaaW.PrintLast Go.Proofs.YtbpobnlkfpjijaaW.PrintMore
set_option linter.unusedVariables false
set_option linter.unusedSimpArgs false
theorem strings_loop (l : List ByteArray) (hl : l.length ≤ 1048576) : ∀ (d i k : Nat), l.length - i = d → i ≤ l.length → d < k → tallystickref15_Strings.l0 k l l (i : Int) = some true
  | d, i, 0, _, _, hk => by omega
  | d, i, k + 1, hd, hi, hk => by
    unfold tallystickref15_Strings.l0
    by_cases h : (i : Int) < (l.length : Int)
    · have hw : wrap64 ((i : Int) + 1) = ((i + 1 : Nat) : Int) := by unfold wrap64; omega
      rw [if_pos h, if_pos (by omega), if_pos h, if_pos rfl, hw]
      exact strings_loop l hl (d - 1) (i + 1) k (by omega) (by omega) (by omega)
    · rw [if_neg h]
theorem strings_self (l : List ByteArray) (hl : l.length ≤ 1048576) (k : Nat) (hk : l.length < k) : tallystickref15_Strings.f k l l = some true := by
  unfold tallystickref15_Strings.f
  rw [if_pos rfl]
  exact strings_loop l hl l.length 0 k (by omega) (by omega) (by omega)
theorem list_is (a : Int) (l : List S55) (hl : l.length ≤ 1048576) : disk_List.f a l ⟨#[]⟩ = some (l.map (·.f0)) := by
  unfold disk_List.f
  rw [if_pos ⟨rfl, hl⟩]
theorem crash_names (ms : List Int) (l : List S55) : (l.mapIdx (crashAt ms)).map (·.f0) = l.map (·.f0) := by
  apply List.ext_getElem
  · simp
  · intro i h1 h2
    simp [crashAt]
theorem sync_is (a : Int) (l : List S55) (s : ByteArray) (hs : Sorted l) (hl : l.length ≤ 64) :
    (∃ A x B, l = A ++ x :: B ∧ x.f0 = s ∧ (∀ y ∈ A, NLt y.f0 s) ∧ (∀ y ∈ B, NLt s y.f0) ∧ disk_Sync.f a l s = some (a, A ++ ⟨x.f0, x.f1, x.f1⟩ :: B, 0)) ∨ disk_Sync.f a l s = some (a, l, 9) := by
  rcases at_spec a l s hs with ⟨A, x, B, rfl, hat, he, h1, h2⟩ | ⟨A, B, rfl, hat, h1, h2⟩
  · refine .inl ⟨A, x, B, rfl, he, h1, h2, ?_⟩
    unfold disk_Sync.f
    rw [hat, Option.bind_some]
    simp only
    rw [if_pos trivial, if_pos (by omega), if_pos (by rw [List.length_append, List.length_cons]; omega), rd_mid, with_set A B x _ (by omega)]
    rfl
  · refine .inr ?_
    unfold disk_Sync.f
    rw [hat, Option.bind_some]
    simp only
    rw [if_neg (by decide)]
theorem safe_true (a : Int) (l : List S55) (s : ByteArray) (ms : List Int) (hf : Fits l ms) : tallysticklaw15_DiskSafe.f 200 a l s ms = some true := by
  unfold tallysticklaw15_DiskSafe.f
  obtain ⟨b, hr, hb⟩ := right_is a l
  rw [shown_true 200 (by omega), Option.bind_some, hr 200 (by omega), Option.bind_some]
  cases b with
  | false => rfl
  | true =>
    have hR := hb.1 rfl
    rw [if_pos rfl]
    rcases sync_is a l s hR.2.2.2 hR.2.1 with ⟨A, x, B, rfl, rfl, h1, h2, hsy⟩ | hsy
    · have hput : Put (A ++ x :: B) ⟨x.f0, x.f1, x.f1⟩ (A ++ ⟨x.f0, x.f1, x.f1⟩ :: B) := ⟨A, B, rfl, h1, h2, .inr ⟨x, rfl, rfl⟩⟩
      have hxm : x ∈ A ++ x :: B := by simp
      have hlen : (A ++ (⟨x.f0, x.f1, x.f1⟩ : S55) :: B).length = (A ++ x :: B).length := by simp
      have hR2 : RightP a (A ++ ⟨x.f0, x.f1, x.f1⟩ :: B) := put_right hput hR (hR.2.2.1 x hxm) (by rw [hlen]; exact hR.2.1)
      have hx := hf.1 x hxm
      have hf2 : Fits (A ++ ⟨x.f0, x.f1, x.f1⟩ :: B) ms := by
        refine ⟨fun z hz => ?_, hf.2⟩
        rcases List.mem_append.1 hz with h | h
        · exact hf.1 z (by simp [h])
        · rcases List.mem_cons.1 h with rfl | h
          · exact ⟨hx.1, hx.1⟩
          · exact hf.1 z (by simp [h])
      obtain ⟨ls, hls⟩ : ∃ ls : List S55, ls = A ++ ⟨x.f0, x.f1, x.f1⟩ :: B := ⟨_, rfl⟩
      rw [← hls] at hsy hR2 hf2 hlen
      have hRc := crash_right hR2 ms
      have hcm : (⟨x.f0, x.f1, x.f1⟩ : S55) ∈ ls.mapIdx (crashAt ms) := by
        refine List.mem_mapIdx.2 ⟨A.length, by rw [hls]; simp, ?_⟩
        simp [hls, crashAt, keptF_same]
      have hnames : (ls.mapIdx (crashAt ms)).map (·.f0) = (A ++ x :: B).map (·.f0) := by rw [crash_names, hls]; simp
      rw [hsy, Option.bind_some]
      simp only
      rw [if_pos trivial, crash_some a ls ms hR2.2.1 hf2, Option.bind_some]
      simp only
      rw [read_mem a hR.2.2.2 hxm, Option.bind_some]
      have hrc := read_mem a hRc.2.2.2 hcm
      simp only at hrc
      rw [hrc, Option.bind_some, if_pos rfl]
      simp only
      have hl1 : (ls.mapIdx (crashAt ms)).length ≤ 1048576 := by have := hRc.2.1; omega
      have hl2 : (A ++ x :: B).length ≤ 1048576 := by have := hR.2.1; omega
      rw [if_pos trivial, if_pos trivial, list_is a _ hl1, Option.bind_some, list_is a _ hl2, Option.bind_some, hnames, strings_self _ (by rw [List.length_map]; exact hl2) 200 (by rw [List.length_map]; have := hR.2.1; omega), Option.bind_some, if_pos rfl,
        crash_some a _ ms hRc.2.1 (crash_fits hf2 hf.2), Option.bind_some, crash_twice]
      simp only
      rw [same_self a _ hl1 200 (by have := hRc.2.1; omega)]
      rfl
    · rw [hsy, Option.bind_some]
      simp only
      rw [if_neg (by decide)]
end Go.Proofs.Ytbpobnlkfpjijaa.Pr
