import Derived.Test.YtbpobnlkfpjijaaGd
import Derived.Test.YtbpobnlkfpjijaaCp
import Derived.Lib.AppendZerosOnto
import Derived.OwnWalk
/-! Rows of files, cell by cell. -/
namespace Go.Proofs.Ytbpobnlkfpjijaa.Pr
open Go.RowKit Go.Proofs.YtbpobnlkfpjijaaW.PrintWords Go.Proofs.YtbpobnlkfpjijaaW.PrintLast Go.Proofs.YtbpobnlkfpjijaaW.PrintMore
set_option linter.unusedVariables false
set_option linter.unusedSimpArgs false
def enc55 (x : S55) : List Value := [.string x.f0, .string x.f1, .string x.f2]
def encs55 (l : List S55) : List Value := l.flatMap enc55
theorem encs_nil : encs55 [] = [] := rfl
theorem encs_cons (x : S55) (l : List S55) : encs55 (x :: l) = enc55 x ++ encs55 l := rfl
theorem encs_append (l m : List S55) : encs55 (l ++ m) = encs55 l ++ encs55 m := by simp [encs55]
theorem encs_length (l : List S55) : (encs55 l).length = l.length * 3 := by
  induction l with
  | nil => rfl
  | cons x l ih => rw [encs_cons, List.length_append, ih, List.length_cons]; simp [enc55]; omega
theorem enc_length (x : S55) : (enc55 x).length = 3 := rfl
theorem encs_one (l : List S55) : ∀ v ∈ encs55 l, v.oneCell' = true := by
  intro v hv
  obtain ⟨x, _, hx⟩ := List.mem_flatMap.1 hv
  simp only [enc55, List.mem_cons, List.not_mem_nil, or_false] at hx
  rcases hx with rfl | rfl | rfl <;> rfl
theorem enc_one (x : S55) : ∀ v ∈ enc55 x, v.oneCell' = true := by
  have := encs_one [x]
  simpa [encs55] using this
theorem reps_encs {R : S55 → List Value → Prop} (hR : ∀ x c, R x c → c = enc55 x) : ∀ (l : List S55) (cs : List Value), Reps R 3 l cs → cs = encs55 l
  | [], cs, h => by
    have := h.1
    simp at this
    rw [this]; rfl
  | x :: l, cs, h => by
    have h0 := hR _ _ (h.2 0 x rfl)
    simp only [Nat.zero_mul, List.drop_zero] at h0
    have hl := h.1
    rw [List.length_cons] at hl
    have ht := reps_encs hR l (cs.drop 3) ⟨by rw [List.length_drop]; omega, fun j p hj => by
      have := h.2 (j + 1) p (by simpa using hj)
      rw [show (j + 1) * 3 = 3 + j * 3 by omega] at this
      rw [List.drop_drop]
      exact this⟩
    rw [encs_cons, ← h0, ← ht, List.take_append_drop]
theorem encs_reps {R : S55 → List Value → Prop} (hR : ∀ x, R x (enc55 x)) : ∀ (l : List S55), Reps R 3 l (encs55 l)
  | [] => Reps.none _ _
  | x :: l => by
    have ih := encs_reps hR l
    refine ⟨by rw [encs_length], fun j p hj => ?_⟩
    cases j with
    | zero =>
      simp at hj
      subst hj
      rw [encs_cons]
      simp only [Nat.zero_mul, List.drop_zero]
      exact hR _
    | succ j =>
      have := ih.2 j p (by simpa using hj)
      rw [encs_cons, show (j + 1) * 3 = (enc55 x).length + j * 3 by rw [enc_length]; omega, ← List.drop_drop, List.drop_left]
      exact this
/-- An own row's block. -/
theorem R_open55 {w : World} {base g n cv : Nat} {ok : Nat → Prop} {l : List S55} (h : k55.R 55 w base ok (.slice (some ⟨g, 0, none⟩) n cv) l) :
    n = l.length ∧ base ≤ g ∧ g < w.heap.size ∧ n ≤ cv ∧ cv ≤ maxLen ∧ ∃ rest : List Value, w.heap[g]? = some (.cells (encs55 l ++ rest).toArray 55 (0, 0)) ∧ (encs55 l ++ rest).length = cv * 3 := by
  obtain ⟨_, inner, ⟨hlen, h2⟩, hr⟩ := h
  rcases h2 with ⟨he, _⟩ | ⟨g', cap, cur, he, hb, hh, hn, hm, hcs, htake⟩
  · cases he
  · injection he with he1 he2 he3
    injection he1 with he1
    injection he1 with he1 _ _
    subst he1; subst he2; subst he3
    have hi : inner = encs55 l := reps_encs (fun x c hx => k55_openM hx) l inner hr
    have htake' : cur.toList.take (l.length * 3) = inner := htake
    rw [hi] at htake'
    have hlt : g < w.heap.size := (Array.getElem?_eq_some_iff.1 hh).1
    have hcs' : cur.size = cv * 3 := hcs
    refine ⟨rfl, hb, hlt, hn, hm, cur.toList.drop (l.length * 3), ?_, ?_⟩
    · rw [← htake', List.take_append_drop]; simpa using hh
    · rw [← htake', List.take_append_drop]; simpa using hcs'
theorem R_close55 {w : World} {base g cv : Nat} {l : List S55} (hb : base ≤ g) (rest : List Value) (hh : w.heap[g]? = some (.cells (encs55 l ++ rest).toArray 55 (0, 0))) (hl : (encs55 l ++ rest).length = cv * 3) (hn : l.length ≤ cv) (hm : cv ≤ maxLen) :
    k55.R 55 w base (fun _ => True) (.slice (some ⟨g, 0, none⟩) l.length cv) l := by
  refine ⟨fun _ _ => trivial, encs55 l, ⟨encs_length l, .inr ⟨g, cv, (encs55 l ++ rest).toArray, rfl, hb, hh, hn, hm, by show (encs55 l ++ rest).toArray.size = cv * 3; simpa using hl, ?_⟩⟩, encs_reps (fun x => k55_mkM _ _ _ x) l⟩
  show (encs55 l ++ rest).toArray.toList.take (l.length * 3) = encs55 l
  rw [← encs_length]
  simp
/-- One file that is handed in: its cells. -/
theorem C_one55 {w : World} {A : Option Addr} {x : S55} (h : Kd.C k55 w A 1 [x]) : ∃ ad, A = some ad ∧ ∀ j v, (enc55 x)[j]? = some v → w.cell? (ad.add j) = some v := by
  obtain ⟨ad, he, hc⟩ := h.2.2 (by decide)
  obtain ⟨c, _, hK, hcc⟩ := hc 0 x rfl
  obtain rfl := k55_open hK
  refine ⟨ad, he, fun j v hj => ?_⟩
  have := hcc j v hj
  rwa [Nat.zero_mul, Nat.zero_add] at this
theorem splice_insert (T D X rest : List Value) : 
    splice (splice (T ++ (D ++ rest)) (T.length + X.length) D) T.length X = T ++ (X ++ (D ++ (T ++ (D ++ rest)).drop (T.length + X.length + D.length))) ∨ rest.length < X.length := by
  rcases Nat.lt_or_ge rest.length X.length with h | h
  · exact .inr h
  · left
    have h1 : ((T ++ (D ++ rest)).take (T.length + X.length)).length = T.length + X.length := by
      rw [List.length_take, List.length_append, List.length_append]; omega
    have h2 : ((T ++ (D ++ rest)).take (T.length + X.length)).take T.length = T := by
      rw [List.take_take, Nat.min_eq_left (by omega), List.take_left]
    unfold splice
    rw [List.take_append_of_le_length (by omega), h2, List.drop_append, h1]
    rw [List.drop_eq_nil_of_le (by omega), Nat.sub_self, List.drop_zero, List.nil_append]
theorem copy_row {W : World} (g off : Nat) (cur : List Value) (hg : W.heap[g]? = some (.cells cur.toArray 55 (0, 0))) (cs : List Value) (dp sp : Option Addr) (dLen dCap sLen sCap : Nat) (hn : cs.length = min sLen dLen * 3)
    (hpos : 0 < cs.length → dp = some ⟨g, off, none⟩ ∧ ∃ ad, sp = some ad ∧ ∀ j v, cs[j]? = some v → W.cell? (ad.add j) = some v) (hfit : off + cs.length ≤ cur.length) (h1 : ∀ v ∈ cs, v.oneCell' = true) :
    ∃ W', (∀ ty, (Builtin.copy_ #[44, 44] ty #[.slice dp dLen dCap, .slice sp sLen sCap]).run Try.prog W = .ok (goInt (min sLen dLen : Nat)) W') ∧ W'.heap[g]? = some (.cells (splice cur off cs).toArray 55 (0, 0)) ∧ W'.heap.size = W.heap.size ∧ (∀ k, k ≠ g → W'.heap[k]? = W.heap[k]?) ∧ (∀ B w0, Below B w0 W → B ≤ g → Below B w0 W') :=
  Go.Proofs.Aid.run_copy_splice (P := Try.prog) W 44 44 55 3 dp sp dLen dCap sLen sCap Try.underlying44 (by obtain ⟨i, hi, _, hs, _⟩ := info_parts info55; rw [hi]; simp [hs]) g off cur 55 hg cs hn (by decide) hpos hfit h1
theorem cells_part {W : World} (g off : Nat) (A cs B : List Value) (hg : W.heap[g]? = some (.cells (A ++ (cs ++ B)).toArray 55 (0, 0))) (ho : off = A.length) : ∀ j v, cs[j]? = some v → W.cell? ((⟨g, off, none⟩ : Addr).add j) = some v := by
  intro j v hj
  have hl := (List.getElem?_eq_some_iff.1 hj).1
  have hadd : (⟨g, off, none⟩ : Addr).add j = ⟨g, off + j, none⟩ := by unfold Addr.add; split <;> simp_all
  rw [hadd, ho]
  simp only [World.cell?, hg]
  simp
  rw [List.getElem?_append_right (by omega), Nat.add_sub_cancel_left, List.getElem?_append_left hl]
  exact hj
end Go.Proofs.Ytbpobnlkfpjijaa.Pr
