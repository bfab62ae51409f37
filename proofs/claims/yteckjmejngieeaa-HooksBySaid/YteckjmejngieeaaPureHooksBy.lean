/- The number of any name is the document's; each hook is found by its name: for every name. -/
import Derived.Test.YteckjmejngieeaaPHooksByx2
import Derived.Test.YteckjmejngieeaaTB
set_option linter.unusedVariables false
set_option linter.unusedSimpArgs false
namespace Go.Proofs.Yteckjmejngieeaa.Pure
open Go.RowKit Go.Proofs.Yteckjmejngieeaa.PHooksBy Go.Proofs.YteckjmejngieeaaW.PrintWords Go.Proofs.YteckjmejngieeaaW.PrintLast Go.Proofs.YteckjmejngieeaaW.PrintMore Go.Proofs.Yteckjmejngieeaa.HB Go.Proofs.Yteckjmejngieeaa.TB

def hn0 : List UInt8 := (⟨#[]⟩ : ByteArray).toList
def hn1 : List UInt8 := (⟨#[111, 112, 101, 110]⟩ : ByteArray).toList
def hn2 : List UInt8 := (⟨#[97, 99, 99, 101, 115, 115]⟩ : ByteArray).toList
def hn3 : List UInt8 := (⟨#[99, 114, 101, 97, 116, 101]⟩ : ByteArray).toList
def hn4 : List UInt8 := (⟨#[108, 105, 110, 107]⟩ : ByteArray).toList
def hn5 : List UInt8 := (⟨#[117, 110, 108, 105, 110, 107]⟩ : ByteArray).toList
def hn6 : List UInt8 := (⟨#[114, 101, 110, 97, 109, 101]⟩ : ByteArray).toList
def hn7 : List UInt8 := (⟨#[115, 101, 116, 97, 116, 116, 114]⟩ : ByteArray).toList
def hn8 : List UInt8 := (⟨#[101, 120, 101, 99]⟩ : ByteArray).toList
def hn9 : List UInt8 := (⟨#[109, 109, 97, 112]⟩ : ByteArray).toList
def hn10 : List UInt8 := (⟨#[109, 112, 114, 111, 116, 101, 99, 116]⟩ : ByteArray).toList
def hn11 : List UInt8 := (⟨#[102, 111, 114, 107]⟩ : ByteArray).toList
def hn12 : List UInt8 := (⟨#[107, 105, 108, 108]⟩ : ByteArray).toList
def hn13 : List UInt8 := (⟨#[112, 116, 114, 97, 99, 101]⟩ : ByteArray).toList
def hn14 : List UInt8 := (⟨#[115, 101, 116, 105, 100]⟩ : ByteArray).toList
def hn15 : List UInt8 := (⟨#[99, 104, 100, 105, 114]⟩ : ByteArray).toList
def hn16 : List UInt8 := (⟨#[103, 101, 116, 97, 116, 116, 114]⟩ : ByteArray).toList
def hbWant0 (q : List UInt8) : Int := 0
def hbWant1 (q : List UInt8) : Int := if hn1 = q then 1 else hbWant0 q
def hbWant2 (q : List UInt8) : Int := if hn2 = q then 2 else hbWant1 q
def hbWant3 (q : List UInt8) : Int := if hn3 = q then 3 else hbWant2 q
def hbWant4 (q : List UInt8) : Int := if hn4 = q then 4 else hbWant3 q
def hbWant5 (q : List UInt8) : Int := if hn5 = q then 5 else hbWant4 q
def hbWant6 (q : List UInt8) : Int := if hn6 = q then 6 else hbWant5 q
def hbWant7 (q : List UInt8) : Int := if hn7 = q then 7 else hbWant6 q
def hbWant8 (q : List UInt8) : Int := if hn8 = q then 8 else hbWant7 q
def hbWant9 (q : List UInt8) : Int := if hn9 = q then 9 else hbWant8 q
def hbWant10 (q : List UInt8) : Int := if hn10 = q then 10 else hbWant9 q
def hbWant11 (q : List UInt8) : Int := if hn11 = q then 11 else hbWant10 q
def hbWant12 (q : List UInt8) : Int := if hn12 = q then 12 else hbWant11 q
def hbWant13 (q : List UInt8) : Int := if hn13 = q then 13 else hbWant12 q
def hbWant14 (q : List UInt8) : Int := if hn14 = q then 14 else hbWant13 q
def hbWant15 (q : List UInt8) : Int := if hn15 = q then 15 else hbWant14 q
def hbWant16 (q : List UInt8) : Int := if hn16 = q then 16 else hbWant15 q
theorem hb_step {k : Nat} {n s t : ByteArray} {m i : Int} {q : List UInt8} {want : Int} (hq : n.toList = q) (h1 : i ≤ 16) (hr : halberdref15_Row.f k i = some (s, t, m)) (hb : hooks_By.f s = some i) (hw : wrap64 (i + 1) = i + 1) :
    halberdlaw15_HooksBy.l0 (k + 1) n want i = halberdlaw15_HooksBy.l0 k n (if s.toList = q then i else want) (i + 1) := by
  rw [halberdlaw15_HooksBy.l0, if_pos h1, hr, Option.bind_some]
  simp only [hq]
  by_cases c : s.toList = q
  · rw [if_pos c, if_pos c, hb, Option.bind_some, if_pos rfl, hw]
  · rw [if_neg c, if_neg c, hb, Option.bind_some, if_pos rfl, hw]
theorem hb_row_of {o : Option (ByteArray × ByteArray × Int)} {s : ByteArray} (h : o.map (fun x => x.1) = some s) : ∃ t m, o = some (s, t, m) := by
  cases o with
  | none => simp at h
  | some x =>
    obtain ⟨a, b, c⟩ := x
    simp at h
    exact ⟨b, c, by rw [h]⟩
theorem hb_row1 (k : Nat) : ∃ t m, halberdref15_Row.f (k + 1) 1 = some (⟨#[111, 112, 101, 110]⟩, t, m) := hb_row_of (by kernel_rfl)
theorem hb_by1 : hooks_By.f ⟨#[111, 112, 101, 110]⟩ = some 1 := by kernel_rfl
theorem hb_row2 (k : Nat) : ∃ t m, halberdref15_Row.f (k + 1) 2 = some (⟨#[97, 99, 99, 101, 115, 115]⟩, t, m) := hb_row_of (by kernel_rfl)
theorem hb_by2 : hooks_By.f ⟨#[97, 99, 99, 101, 115, 115]⟩ = some 2 := by kernel_rfl
theorem hb_row3 (k : Nat) : ∃ t m, halberdref15_Row.f (k + 1) 3 = some (⟨#[99, 114, 101, 97, 116, 101]⟩, t, m) := hb_row_of (by kernel_rfl)
theorem hb_by3 : hooks_By.f ⟨#[99, 114, 101, 97, 116, 101]⟩ = some 3 := by kernel_rfl
theorem hb_row4 (k : Nat) : ∃ t m, halberdref15_Row.f (k + 1) 4 = some (⟨#[108, 105, 110, 107]⟩, t, m) := hb_row_of (by kernel_rfl)
theorem hb_by4 : hooks_By.f ⟨#[108, 105, 110, 107]⟩ = some 4 := by kernel_rfl
theorem hb_row5 (k : Nat) : ∃ t m, halberdref15_Row.f (k + 1) 5 = some (⟨#[117, 110, 108, 105, 110, 107]⟩, t, m) := hb_row_of (by kernel_rfl)
theorem hb_by5 : hooks_By.f ⟨#[117, 110, 108, 105, 110, 107]⟩ = some 5 := by kernel_rfl
theorem hb_row6 (k : Nat) : ∃ t m, halberdref15_Row.f (k + 1) 6 = some (⟨#[114, 101, 110, 97, 109, 101]⟩, t, m) := hb_row_of (by kernel_rfl)
theorem hb_by6 : hooks_By.f ⟨#[114, 101, 110, 97, 109, 101]⟩ = some 6 := by kernel_rfl
theorem hb_row7 (k : Nat) : ∃ t m, halberdref15_Row.f (k + 1) 7 = some (⟨#[115, 101, 116, 97, 116, 116, 114]⟩, t, m) := hb_row_of (by kernel_rfl)
theorem hb_by7 : hooks_By.f ⟨#[115, 101, 116, 97, 116, 116, 114]⟩ = some 7 := by kernel_rfl
theorem hb_row8 (k : Nat) : ∃ t m, halberdref15_Row.f (k + 1) 8 = some (⟨#[101, 120, 101, 99]⟩, t, m) := hb_row_of (by kernel_rfl)
theorem hb_by8 : hooks_By.f ⟨#[101, 120, 101, 99]⟩ = some 8 := by kernel_rfl
theorem hb_row9 (k : Nat) : ∃ t m, halberdref15_Row.f (k + 1) 9 = some (⟨#[109, 109, 97, 112]⟩, t, m) := hb_row_of (by kernel_rfl)
theorem hb_by9 : hooks_By.f ⟨#[109, 109, 97, 112]⟩ = some 9 := by kernel_rfl
theorem hb_row10 (k : Nat) : ∃ t m, halberdref15_Row.f (k + 1) 10 = some (⟨#[109, 112, 114, 111, 116, 101, 99, 116]⟩, t, m) := hb_row_of (by kernel_rfl)
theorem hb_by10 : hooks_By.f ⟨#[109, 112, 114, 111, 116, 101, 99, 116]⟩ = some 10 := by kernel_rfl
theorem hb_row11 (k : Nat) : ∃ t m, halberdref15_Row.f (k + 1) 11 = some (⟨#[102, 111, 114, 107]⟩, t, m) := hb_row_of (by kernel_rfl)
theorem hb_by11 : hooks_By.f ⟨#[102, 111, 114, 107]⟩ = some 11 := by kernel_rfl
theorem hb_row12 (k : Nat) : ∃ t m, halberdref15_Row.f (k + 1) 12 = some (⟨#[107, 105, 108, 108]⟩, t, m) := hb_row_of (by kernel_rfl)
theorem hb_by12 : hooks_By.f ⟨#[107, 105, 108, 108]⟩ = some 12 := by kernel_rfl
theorem hb_row13 (k : Nat) : ∃ t m, halberdref15_Row.f (k + 1) 13 = some (⟨#[112, 116, 114, 97, 99, 101]⟩, t, m) := hb_row_of (by kernel_rfl)
theorem hb_by13 : hooks_By.f ⟨#[112, 116, 114, 97, 99, 101]⟩ = some 13 := by kernel_rfl
theorem hb_row14 (k : Nat) : ∃ t m, halberdref15_Row.f (k + 1) 14 = some (⟨#[115, 101, 116, 105, 100]⟩, t, m) := hb_row_of (by kernel_rfl)
theorem hb_by14 : hooks_By.f ⟨#[115, 101, 116, 105, 100]⟩ = some 14 := by kernel_rfl
theorem hb_row15 (k : Nat) : ∃ t m, halberdref15_Row.f (k + 1) 15 = some (⟨#[99, 104, 100, 105, 114]⟩, t, m) := hb_row_of (by kernel_rfl)
theorem hb_by15 : hooks_By.f ⟨#[99, 104, 100, 105, 114]⟩ = some 15 := by kernel_rfl
theorem hb_row16 (k : Nat) : ∃ t m, halberdref15_Row.f (k + 1) 16 = some (⟨#[103, 101, 116, 97, 116, 116, 114]⟩, t, m) := hb_row_of (by kernel_rfl)
theorem hb_by16 : hooks_By.f ⟨#[103, 101, 116, 97, 116, 116, 114]⟩ = some 16 := by kernel_rfl
theorem hb_walk (n : ByteArray) : halberdlaw15_HooksBy.l0 40 n 0 1 = (hooks_By.f n).bind fun t => some (t == hbWant16 n.toList) := by
  obtain ⟨t1, m1, r1⟩ := hb_row1 38
  have s1 := hb_step (n := n) (want := hbWant0 n.toList) rfl (by decide) r1 hb_by1 (by unfold wrap64; omega)
  obtain ⟨t2, m2, r2⟩ := hb_row2 37
  have s2 := hb_step (n := n) (want := hbWant1 n.toList) rfl (by decide) r2 hb_by2 (by unfold wrap64; omega)
  obtain ⟨t3, m3, r3⟩ := hb_row3 36
  have s3 := hb_step (n := n) (want := hbWant2 n.toList) rfl (by decide) r3 hb_by3 (by unfold wrap64; omega)
  obtain ⟨t4, m4, r4⟩ := hb_row4 35
  have s4 := hb_step (n := n) (want := hbWant3 n.toList) rfl (by decide) r4 hb_by4 (by unfold wrap64; omega)
  obtain ⟨t5, m5, r5⟩ := hb_row5 34
  have s5 := hb_step (n := n) (want := hbWant4 n.toList) rfl (by decide) r5 hb_by5 (by unfold wrap64; omega)
  obtain ⟨t6, m6, r6⟩ := hb_row6 33
  have s6 := hb_step (n := n) (want := hbWant5 n.toList) rfl (by decide) r6 hb_by6 (by unfold wrap64; omega)
  obtain ⟨t7, m7, r7⟩ := hb_row7 32
  have s7 := hb_step (n := n) (want := hbWant6 n.toList) rfl (by decide) r7 hb_by7 (by unfold wrap64; omega)
  obtain ⟨t8, m8, r8⟩ := hb_row8 31
  have s8 := hb_step (n := n) (want := hbWant7 n.toList) rfl (by decide) r8 hb_by8 (by unfold wrap64; omega)
  obtain ⟨t9, m9, r9⟩ := hb_row9 30
  have s9 := hb_step (n := n) (want := hbWant8 n.toList) rfl (by decide) r9 hb_by9 (by unfold wrap64; omega)
  obtain ⟨t10, m10, r10⟩ := hb_row10 29
  have s10 := hb_step (n := n) (want := hbWant9 n.toList) rfl (by decide) r10 hb_by10 (by unfold wrap64; omega)
  obtain ⟨t11, m11, r11⟩ := hb_row11 28
  have s11 := hb_step (n := n) (want := hbWant10 n.toList) rfl (by decide) r11 hb_by11 (by unfold wrap64; omega)
  obtain ⟨t12, m12, r12⟩ := hb_row12 27
  have s12 := hb_step (n := n) (want := hbWant11 n.toList) rfl (by decide) r12 hb_by12 (by unfold wrap64; omega)
  obtain ⟨t13, m13, r13⟩ := hb_row13 26
  have s13 := hb_step (n := n) (want := hbWant12 n.toList) rfl (by decide) r13 hb_by13 (by unfold wrap64; omega)
  obtain ⟨t14, m14, r14⟩ := hb_row14 25
  have s14 := hb_step (n := n) (want := hbWant13 n.toList) rfl (by decide) r14 hb_by14 (by unfold wrap64; omega)
  obtain ⟨t15, m15, r15⟩ := hb_row15 24
  have s15 := hb_step (n := n) (want := hbWant14 n.toList) rfl (by decide) r15 hb_by15 (by unfold wrap64; omega)
  obtain ⟨t16, m16, r16⟩ := hb_row16 23
  have s16 := hb_step (n := n) (want := hbWant15 n.toList) rfl (by decide) r16 hb_by16 (by unfold wrap64; omega)
  refine Eq.trans s1 ?_
  refine Eq.trans s2 ?_
  refine Eq.trans s3 ?_
  refine Eq.trans s4 ?_
  refine Eq.trans s5 ?_
  refine Eq.trans s6 ?_
  refine Eq.trans s7 ?_
  refine Eq.trans s8 ?_
  refine Eq.trans s9 ?_
  refine Eq.trans s10 ?_
  refine Eq.trans s11 ?_
  refine Eq.trans s12 ?_
  refine Eq.trans s13 ?_
  refine Eq.trans s14 ?_
  refine Eq.trans s15 ?_
  refine Eq.trans s16 ?_
  show halberdlaw15_HooksBy.l0 24 n (hbWant16 n.toList) 17 = _
  rw [halberdlaw15_HooksBy.l0, if_neg (by decide)]
theorem hb_same (n : ByteArray) : hooks_By.f n = some (hbWant16 n.toList) := by
  unfold hooks_By.f hooksIdx hooksIs0 hooksIs1 hooksIs2 hooksIs3 hooksIs4 hooksIs5 hooksIs6 hooksIs7 hooksIs8 hooksIs9 hooksIs10 hooksIs11 hooksIs12 hooksIs13 hooksIs14 hooksIs15 hooksIs16
  generalize n.toList = q
  by_cases h1 : hn1 = q
  · subst h1; kernel_rfl
  by_cases h2 : hn2 = q
  · subst h2; kernel_rfl
  by_cases h3 : hn3 = q
  · subst h3; kernel_rfl
  by_cases h4 : hn4 = q
  · subst h4; kernel_rfl
  by_cases h5 : hn5 = q
  · subst h5; kernel_rfl
  by_cases h6 : hn6 = q
  · subst h6; kernel_rfl
  by_cases h7 : hn7 = q
  · subst h7; kernel_rfl
  by_cases h8 : hn8 = q
  · subst h8; kernel_rfl
  by_cases h9 : hn9 = q
  · subst h9; kernel_rfl
  by_cases h10 : hn10 = q
  · subst h10; kernel_rfl
  by_cases h11 : hn11 = q
  · subst h11; kernel_rfl
  by_cases h12 : hn12 = q
  · subst h12; kernel_rfl
  by_cases h13 : hn13 = q
  · subst h13; kernel_rfl
  by_cases h14 : hn14 = q
  · subst h14; kernel_rfl
  by_cases h15 : hn15 = q
  · subst h15; kernel_rfl
  by_cases h16 : hn16 = q
  · subst h16; kernel_rfl
  have e : ∀ a : List UInt8, a ≠ q → (a == q) = false := fun a h => beq_eq_false_iff_ne.2 h
  have e0 : ((⟨#[]⟩ : ByteArray).toList == q && !q.isEmpty) = false := by
    cases q with
    | nil => kernel_rfl
    | cons x l => rw [show ((⟨#[]⟩ : ByteArray).toList == x :: l) = false from e _ (show hn0 ≠ x :: l from fun h => by rw [show hn0 = [] by kernel_rfl] at h; cases h)]; rfl
  rw [e0]
  rw [show ((⟨#[111, 112, 101, 110]⟩ : ByteArray).toList == q) = false from e _ h1]
  rw [show ((⟨#[97, 99, 99, 101, 115, 115]⟩ : ByteArray).toList == q) = false from e _ h2]
  rw [show ((⟨#[99, 114, 101, 97, 116, 101]⟩ : ByteArray).toList == q) = false from e _ h3]
  rw [show ((⟨#[108, 105, 110, 107]⟩ : ByteArray).toList == q) = false from e _ h4]
  rw [show ((⟨#[117, 110, 108, 105, 110, 107]⟩ : ByteArray).toList == q) = false from e _ h5]
  rw [show ((⟨#[114, 101, 110, 97, 109, 101]⟩ : ByteArray).toList == q) = false from e _ h6]
  rw [show ((⟨#[115, 101, 116, 97, 116, 116, 114]⟩ : ByteArray).toList == q) = false from e _ h7]
  rw [show ((⟨#[101, 120, 101, 99]⟩ : ByteArray).toList == q) = false from e _ h8]
  rw [show ((⟨#[109, 109, 97, 112]⟩ : ByteArray).toList == q) = false from e _ h9]
  rw [show ((⟨#[109, 112, 114, 111, 116, 101, 99, 116]⟩ : ByteArray).toList == q) = false from e _ h10]
  rw [show ((⟨#[102, 111, 114, 107]⟩ : ByteArray).toList == q) = false from e _ h11]
  rw [show ((⟨#[107, 105, 108, 108]⟩ : ByteArray).toList == q) = false from e _ h12]
  rw [show ((⟨#[112, 116, 114, 97, 99, 101]⟩ : ByteArray).toList == q) = false from e _ h13]
  rw [show ((⟨#[115, 101, 116, 105, 100]⟩ : ByteArray).toList == q) = false from e _ h14]
  rw [show ((⟨#[99, 104, 100, 105, 114]⟩ : ByteArray).toList == q) = false from e _ h15]
  rw [show ((⟨#[103, 101, 116, 97, 116, 116, 114]⟩ : ByteArray).toList == q) = false from e _ h16]
  simp only [Bool.false_and, Bool.false_eq_true, if_false]
  have z : hbWant16 q = 0 := by unfold hbWant16 hbWant15 hbWant14 hbWant13 hbWant12 hbWant11 hbWant10 hbWant9 hbWant8 hbWant7 hbWant6 hbWant5 hbWant4 hbWant3 hbWant2 hbWant1 hbWant0; rw [if_neg h16, if_neg h15, if_neg h14, if_neg h13, if_neg h12, if_neg h11, if_neg h10, if_neg h9, if_neg h8, if_neg h7, if_neg h6, if_neg h5, if_neg h4, if_neg h3, if_neg h2, if_neg h1]
  rw [z]
  exact congrArg some (show mx (-1) 0 = 0 by unfold mx; rw [if_pos (by decide)])
theorem HooksBy : halberdlaw15_HooksBy.Pure := by
  intro n h0
  refine ⟨40, ?_⟩
  unfold halberdlaw15_HooksBy.f
  refine ask_ rfl ?_
  rw [hb_walk, hb_same, Option.bind_some, beq_self_eq_true]

end Go.Proofs.Yteckjmejngieeaa.Pure
