/- What is told of a hook may be written over: for every hook, place and number. -/
import Derived.Test.YteckjmejngieeaaPHooksOwnx3
import Derived.Test.YteckjmejngieeaaTB
set_option linter.unusedVariables false
set_option linter.unusedSimpArgs false
namespace Go.Proofs.Yteckjmejngieeaa.Pure
open Go.RowKit Go.Proofs.Yteckjmejngieeaa.PHooksOwn Go.Proofs.YteckjmejngieeaaW.PrintWords Go.Proofs.YteckjmejngieeaaW.PrintLast Go.Proofs.YteckjmejngieeaaW.PrintMore Go.Proofs.Yteckjmejngieeaa.HB Go.Proofs.Yteckjmejngieeaa.TB

theorem ko_neg {x1 : Int} (h : x1 < 0) (x8 : ByteArray) (x10 : Int) (x11 : Bool) (nm : ByteArray) (ws : List Int) (mx_ : Int) : ∀ (k : Nat) (i : Int), halberdlaw15_HooksOf.l0 k x1 x8 x10 x11 i nm ws mx_ = halberdlaw15_HooksOf.l0 k (-1) x8 x10 x11 i nm ws mx_
  | 0, i => rfl
  | k + 1, i => by
    have ih := ko_neg h x8 x10 x11 nm ws mx_ k
    simp only [halberdlaw15_HooksOf.l0, ih, if_pos h, if_pos (show (-1 : Int) < 0 by decide)]
theorem ko_big {x1 : Int} (h : 5 ≤ x1) (x8 : ByteArray) (hs : x8.size ≤ 5) (x10 : Int) (x11 : Bool) (nm : ByteArray) (ws : List Int) (mx_ : Int) : ∀ (k : Nat) (i : Int), halberdlaw15_HooksOf.l0 k x1 x8 x10 x11 i nm ws mx_ = halberdlaw15_HooksOf.l0 k 7 x8 x10 x11 i nm ws mx_
  | 0, i => rfl
  | k + 1, i => by
    have ih := ko_big h x8 hs x10 x11 nm ws mx_ k
    simp only [halberdlaw15_HooksOf.l0, ih]
    rw [if_neg (show ¬ x1 < 0 by omega), if_neg (show ¬ (7 : Int) < 0 by decide), if_pos (show x1 ≥ (x8.size : Int) by omega), if_pos (show (7 : Int) ≥ (x8.size : Int) by omega)]
theorem ko_kneg {x1 : Int} (h : x1 < 0) (n : Int) : hooks_Kind.f n x1 = some (0, false) := by
  unfold hooks_Kind.f hooks_Of.f
  rw [Option.bind_some, if_pos h, ite_self]
theorem kWords_len (n : Int) : (kWords n).length ≤ 5 := by
  by_cases h1 : n = 1
  · subst h1
    decide
  by_cases h2 : n = 2
  · subst h2
    decide
  by_cases h3 : n = 3
  · subst h3
    decide
  by_cases h4 : n = 4
  · subst h4
    decide
  by_cases h5 : n = 5
  · subst h5
    decide
  by_cases h6 : n = 6
  · subst h6
    decide
  by_cases h7 : n = 7
  · subst h7
    decide
  by_cases h8 : n = 8
  · subst h8
    decide
  by_cases h9 : n = 9
  · subst h9
    decide
  by_cases h10 : n = 10
  · subst h10
    decide
  by_cases h11 : n = 11
  · subst h11
    decide
  by_cases h12 : n = 12
  · subst h12
    decide
  by_cases h13 : n = 13
  · subst h13
    decide
  by_cases h14 : n = 14
  · subst h14
    decide
  by_cases h15 : n = 15
  · subst h15
    decide
  by_cases h16 : n = 16
  · subst h16
    decide
  have e : kWords n = [] := by simp only [kWords, h1, h2, h3, h4, h5, h6, h7, h8, h9, h10, h11, h12, h13, h14, h15, h16, if_false]
  rw [e]
  decide
theorem ko_kbig {x1 : Int} (h : 5 ≤ x1) (n : Int) : hooks_Kind.f n x1 = some (0, false) := by
  have := kWords_len n
  unfold hooks_Kind.f hooks_Of.f
  simp only [Option.bind_some]
  rw [if_neg (show ¬ x1 < 0 by omega), if_pos (show x1 ≥ ((kWords n).length : Int) by omega), ite_self]
theorem ko_1 (k : Nat) (x1 : Int) : halberdlaw15_HooksOf.f (k + 40) 1 x1 = (hooks_Kind.f 1 x1).bind fun q => halberdlaw15_HooksOf.j0 (k + 40) x1 ⟨#[116, 105, 110]⟩ q.1 q.2 false (kName 1) (kWords 1) (kMax 1) := by kernel_rfl
theorem ko_2 (k : Nat) (x1 : Int) : halberdlaw15_HooksOf.f (k + 40) 2 x1 = (hooks_Kind.f 2 x1).bind fun q => halberdlaw15_HooksOf.j0 (k + 40) x1 ⟨#[116, 105, 110]⟩ q.1 q.2 false (kName 2) (kWords 2) (kMax 2) := by kernel_rfl
theorem ko_3 (k : Nat) (x1 : Int) : halberdlaw15_HooksOf.f (k + 40) 3 x1 = (hooks_Kind.f 3 x1).bind fun q => halberdlaw15_HooksOf.j0 (k + 40) x1 ⟨#[116, 105, 110, 110]⟩ q.1 q.2 false (kName 3) (kWords 3) (kMax 3) := by kernel_rfl
theorem ko_4 (k : Nat) (x1 : Int) : halberdlaw15_HooksOf.f (k + 40) 4 x1 = (hooks_Kind.f 4 x1).bind fun q => halberdlaw15_HooksOf.j0 (k + 40) x1 ⟨#[116, 105, 105]⟩ q.1 q.2 false (kName 4) (kWords 4) (kMax 4) := by kernel_rfl
theorem ko_5 (k : Nat) (x1 : Int) : halberdlaw15_HooksOf.f (k + 40) 5 x1 = (hooks_Kind.f 5 x1).bind fun q => halberdlaw15_HooksOf.j0 (k + 40) x1 ⟨#[116, 105, 105, 110]⟩ q.1 q.2 false (kName 5) (kWords 5) (kMax 5) := by kernel_rfl
theorem ko_6 (k : Nat) (x1 : Int) : halberdlaw15_HooksOf.f (k + 40) 6 x1 = (hooks_Kind.f 6 x1).bind fun q => halberdlaw15_HooksOf.j0 (k + 40) x1 ⟨#[116, 105, 105, 105, 109]⟩ q.1 q.2 false (kName 6) (kWords 6) (kMax 6) := by kernel_rfl
theorem ko_7 (k : Nat) (x1 : Int) : halberdlaw15_HooksOf.f (k + 40) 7 x1 = (hooks_Kind.f 7 x1).bind fun q => halberdlaw15_HooksOf.j0 (k + 40) x1 ⟨#[116, 105, 110, 110, 110]⟩ q.1 q.2 false (kName 7) (kWords 7) (kMax 7) := by kernel_rfl
theorem ko_8 (k : Nat) (x1 : Int) : halberdlaw15_HooksOf.f (k + 40) 8 x1 = (hooks_Kind.f 8 x1).bind fun q => halberdlaw15_HooksOf.j0 (k + 40) x1 ⟨#[116, 105, 109]⟩ q.1 q.2 false (kName 8) (kWords 8) (kMax 8) := by kernel_rfl
theorem ko_9 (k : Nat) (x1 : Int) : halberdlaw15_HooksOf.f (k + 40) 9 x1 = (hooks_Kind.f 9 x1).bind fun q => halberdlaw15_HooksOf.j0 (k + 40) x1 ⟨#[116, 109, 110]⟩ q.1 q.2 false (kName 9) (kWords 9) (kMax 9) := by kernel_rfl
theorem ko_10 (k : Nat) (x1 : Int) : halberdlaw15_HooksOf.f (k + 40) 10 x1 = (hooks_Kind.f 10 x1).bind fun q => halberdlaw15_HooksOf.j0 (k + 40) x1 ⟨#[116, 109, 110, 110]⟩ q.1 q.2 false (kName 10) (kWords 10) (kMax 10) := by kernel_rfl
theorem ko_11 (k : Nat) (x1 : Int) : halberdlaw15_HooksOf.f (k + 40) 11 x1 = (hooks_Kind.f 11 x1).bind fun q => halberdlaw15_HooksOf.j0 (k + 40) x1 ⟨#[116, 110]⟩ q.1 q.2 false (kName 11) (kWords 11) (kMax 11) := by kernel_rfl
theorem ko_12 (k : Nat) (x1 : Int) : halberdlaw15_HooksOf.f (k + 40) 12 x1 = (hooks_Kind.f 12 x1).bind fun q => halberdlaw15_HooksOf.j0 (k + 40) x1 ⟨#[116, 116, 110]⟩ q.1 q.2 false (kName 12) (kWords 12) (kMax 12) := by kernel_rfl
theorem ko_13 (k : Nat) (x1 : Int) : halberdlaw15_HooksOf.f (k + 40) 13 x1 = (hooks_Kind.f 13 x1).bind fun q => halberdlaw15_HooksOf.j0 (k + 40) x1 ⟨#[116, 116, 110]⟩ q.1 q.2 false (kName 13) (kWords 13) (kMax 13) := by kernel_rfl
theorem ko_14 (k : Nat) (x1 : Int) : halberdlaw15_HooksOf.f (k + 40) 14 x1 = (hooks_Kind.f 14 x1).bind fun q => halberdlaw15_HooksOf.j0 (k + 40) x1 ⟨#[116, 110, 110]⟩ q.1 q.2 false (kName 14) (kWords 14) (kMax 14) := by kernel_rfl
theorem ko_15 (k : Nat) (x1 : Int) : halberdlaw15_HooksOf.f (k + 40) 15 x1 = (hooks_Kind.f 15 x1).bind fun q => halberdlaw15_HooksOf.j0 (k + 40) x1 ⟨#[116, 105]⟩ q.1 q.2 false (kName 15) (kWords 15) (kMax 15) := by kernel_rfl
theorem ko_16 (k : Nat) (x1 : Int) : halberdlaw15_HooksOf.f (k + 40) 16 x1 = (hooks_Kind.f 16 x1).bind fun q => halberdlaw15_HooksOf.j0 (k + 40) x1 ⟨#[116, 105, 110]⟩ q.1 q.2 false (kName 16) (kWords 16) (kMax 16) := by kernel_rfl
theorem ko_n1 (k : Nat) : halberdlaw15_HooksOf.l0 (k + 39) (-1) ⟨#[116, 105, 110]⟩ 0 false 0 (kName 1) (kWords 1) (kMax 1) = some true := by kernel_rfl
theorem ko_b1 (k : Nat) : halberdlaw15_HooksOf.l0 (k + 39) 7 ⟨#[116, 105, 110]⟩ 0 false 0 (kName 1) (kWords 1) (kMax 1) = some true := by kernel_rfl
theorem ko_n2 (k : Nat) : halberdlaw15_HooksOf.l0 (k + 39) (-1) ⟨#[116, 105, 110]⟩ 0 false 0 (kName 2) (kWords 2) (kMax 2) = some true := by kernel_rfl
theorem ko_b2 (k : Nat) : halberdlaw15_HooksOf.l0 (k + 39) 7 ⟨#[116, 105, 110]⟩ 0 false 0 (kName 2) (kWords 2) (kMax 2) = some true := by kernel_rfl
theorem ko_n3 (k : Nat) : halberdlaw15_HooksOf.l0 (k + 39) (-1) ⟨#[116, 105, 110, 110]⟩ 0 false 0 (kName 3) (kWords 3) (kMax 3) = some true := by kernel_rfl
theorem ko_b3 (k : Nat) : halberdlaw15_HooksOf.l0 (k + 39) 7 ⟨#[116, 105, 110, 110]⟩ 0 false 0 (kName 3) (kWords 3) (kMax 3) = some true := by kernel_rfl
theorem ko_n4 (k : Nat) : halberdlaw15_HooksOf.l0 (k + 39) (-1) ⟨#[116, 105, 105]⟩ 0 false 0 (kName 4) (kWords 4) (kMax 4) = some true := by kernel_rfl
theorem ko_b4 (k : Nat) : halberdlaw15_HooksOf.l0 (k + 39) 7 ⟨#[116, 105, 105]⟩ 0 false 0 (kName 4) (kWords 4) (kMax 4) = some true := by kernel_rfl
theorem ko_n5 (k : Nat) : halberdlaw15_HooksOf.l0 (k + 39) (-1) ⟨#[116, 105, 105, 110]⟩ 0 false 0 (kName 5) (kWords 5) (kMax 5) = some true := by kernel_rfl
theorem ko_b5 (k : Nat) : halberdlaw15_HooksOf.l0 (k + 39) 7 ⟨#[116, 105, 105, 110]⟩ 0 false 0 (kName 5) (kWords 5) (kMax 5) = some true := by kernel_rfl
theorem ko_n6 (k : Nat) : halberdlaw15_HooksOf.l0 (k + 39) (-1) ⟨#[116, 105, 105, 105, 109]⟩ 0 false 0 (kName 6) (kWords 6) (kMax 6) = some true := by kernel_rfl
theorem ko_b6 (k : Nat) : halberdlaw15_HooksOf.l0 (k + 39) 7 ⟨#[116, 105, 105, 105, 109]⟩ 0 false 0 (kName 6) (kWords 6) (kMax 6) = some true := by kernel_rfl
theorem ko_n7 (k : Nat) : halberdlaw15_HooksOf.l0 (k + 39) (-1) ⟨#[116, 105, 110, 110, 110]⟩ 0 false 0 (kName 7) (kWords 7) (kMax 7) = some true := by kernel_rfl
theorem ko_b7 (k : Nat) : halberdlaw15_HooksOf.l0 (k + 39) 7 ⟨#[116, 105, 110, 110, 110]⟩ 0 false 0 (kName 7) (kWords 7) (kMax 7) = some true := by kernel_rfl
theorem ko_n8 (k : Nat) : halberdlaw15_HooksOf.l0 (k + 39) (-1) ⟨#[116, 105, 109]⟩ 0 false 0 (kName 8) (kWords 8) (kMax 8) = some true := by kernel_rfl
theorem ko_b8 (k : Nat) : halberdlaw15_HooksOf.l0 (k + 39) 7 ⟨#[116, 105, 109]⟩ 0 false 0 (kName 8) (kWords 8) (kMax 8) = some true := by kernel_rfl
theorem ko_n9 (k : Nat) : halberdlaw15_HooksOf.l0 (k + 39) (-1) ⟨#[116, 109, 110]⟩ 0 false 0 (kName 9) (kWords 9) (kMax 9) = some true := by kernel_rfl
theorem ko_b9 (k : Nat) : halberdlaw15_HooksOf.l0 (k + 39) 7 ⟨#[116, 109, 110]⟩ 0 false 0 (kName 9) (kWords 9) (kMax 9) = some true := by kernel_rfl
theorem ko_n10 (k : Nat) : halberdlaw15_HooksOf.l0 (k + 39) (-1) ⟨#[116, 109, 110, 110]⟩ 0 false 0 (kName 10) (kWords 10) (kMax 10) = some true := by kernel_rfl
theorem ko_b10 (k : Nat) : halberdlaw15_HooksOf.l0 (k + 39) 7 ⟨#[116, 109, 110, 110]⟩ 0 false 0 (kName 10) (kWords 10) (kMax 10) = some true := by kernel_rfl
theorem ko_n11 (k : Nat) : halberdlaw15_HooksOf.l0 (k + 39) (-1) ⟨#[116, 110]⟩ 0 false 0 (kName 11) (kWords 11) (kMax 11) = some true := by kernel_rfl
theorem ko_b11 (k : Nat) : halberdlaw15_HooksOf.l0 (k + 39) 7 ⟨#[116, 110]⟩ 0 false 0 (kName 11) (kWords 11) (kMax 11) = some true := by kernel_rfl
theorem ko_n12 (k : Nat) : halberdlaw15_HooksOf.l0 (k + 39) (-1) ⟨#[116, 116, 110]⟩ 0 false 0 (kName 12) (kWords 12) (kMax 12) = some true := by kernel_rfl
theorem ko_b12 (k : Nat) : halberdlaw15_HooksOf.l0 (k + 39) 7 ⟨#[116, 116, 110]⟩ 0 false 0 (kName 12) (kWords 12) (kMax 12) = some true := by kernel_rfl
theorem ko_n13 (k : Nat) : halberdlaw15_HooksOf.l0 (k + 39) (-1) ⟨#[116, 116, 110]⟩ 0 false 0 (kName 13) (kWords 13) (kMax 13) = some true := by kernel_rfl
theorem ko_b13 (k : Nat) : halberdlaw15_HooksOf.l0 (k + 39) 7 ⟨#[116, 116, 110]⟩ 0 false 0 (kName 13) (kWords 13) (kMax 13) = some true := by kernel_rfl
theorem ko_n14 (k : Nat) : halberdlaw15_HooksOf.l0 (k + 39) (-1) ⟨#[116, 110, 110]⟩ 0 false 0 (kName 14) (kWords 14) (kMax 14) = some true := by kernel_rfl
theorem ko_b14 (k : Nat) : halberdlaw15_HooksOf.l0 (k + 39) 7 ⟨#[116, 110, 110]⟩ 0 false 0 (kName 14) (kWords 14) (kMax 14) = some true := by kernel_rfl
theorem ko_n15 (k : Nat) : halberdlaw15_HooksOf.l0 (k + 39) (-1) ⟨#[116, 105]⟩ 0 false 0 (kName 15) (kWords 15) (kMax 15) = some true := by kernel_rfl
theorem ko_b15 (k : Nat) : halberdlaw15_HooksOf.l0 (k + 39) 7 ⟨#[116, 105]⟩ 0 false 0 (kName 15) (kWords 15) (kMax 15) = some true := by kernel_rfl
theorem ko_n16 (k : Nat) : halberdlaw15_HooksOf.l0 (k + 39) (-1) ⟨#[116, 105, 110]⟩ 0 false 0 (kName 16) (kWords 16) (kMax 16) = some true := by kernel_rfl
theorem ko_b16 (k : Nat) : halberdlaw15_HooksOf.l0 (k + 39) 7 ⟨#[116, 105, 110]⟩ 0 false 0 (kName 16) (kWords 16) (kMax 16) = some true := by kernel_rfl
theorem ko_n0 (k : Nat) : halberdlaw15_HooksOf.l0 (k + 39) (-1) ⟨#[]⟩ 0 false 0 ⟨#[]⟩ [] 0 = some true := by kernel_rfl
theorem ko_b0 (k : Nat) : halberdlaw15_HooksOf.l0 (k + 39) 7 ⟨#[]⟩ 0 false 0 ⟨#[]⟩ [] 0 = some true := by kernel_rfl
theorem ko_j (m : Nat) (x1 : Int) (x8 : ByteArray) (nm : ByteArray) (ws : List Int) (mx_ : Int) : halberdlaw15_HooksOf.j0 (m + 1) x1 x8 0 false false nm ws mx_ = halberdlaw15_HooksOf.l0 m x1 x8 0 false 0 nm ws mx_ := by
  rw [halberdlaw15_HooksOf.j0, if_neg Bool.false_ne_true]
theorem ko_c1_0 (k : Nat) : halberdlaw15_HooksOf.f (k + 40) 1 0 = some true := by kernel_rfl
theorem ko_c1_1 (k : Nat) : halberdlaw15_HooksOf.f (k + 40) 1 1 = some true := by kernel_rfl
theorem ko_c1_2 (k : Nat) : halberdlaw15_HooksOf.f (k + 40) 1 2 = some true := by kernel_rfl
theorem ko_c1_3 (k : Nat) : halberdlaw15_HooksOf.f (k + 40) 1 3 = some true := by kernel_rfl
theorem ko_c1_4 (k : Nat) : halberdlaw15_HooksOf.f (k + 40) 1 4 = some true := by kernel_rfl
theorem ko_c1 (k x : Nat) (h : x < 5) : halberdlaw15_HooksOf.f (k + 40) 1 (x : Int) = some true := by
  match x, h with
  | 0, _ => exact ko_c1_0 k
  | 1, _ => exact ko_c1_1 k
  | 2, _ => exact ko_c1_2 k
  | 3, _ => exact ko_c1_3 k
  | 4, _ => exact ko_c1_4 k
theorem ko_c2_0 (k : Nat) : halberdlaw15_HooksOf.f (k + 40) 2 0 = some true := by kernel_rfl
theorem ko_c2_1 (k : Nat) : halberdlaw15_HooksOf.f (k + 40) 2 1 = some true := by kernel_rfl
theorem ko_c2_2 (k : Nat) : halberdlaw15_HooksOf.f (k + 40) 2 2 = some true := by kernel_rfl
theorem ko_c2_3 (k : Nat) : halberdlaw15_HooksOf.f (k + 40) 2 3 = some true := by kernel_rfl
theorem ko_c2_4 (k : Nat) : halberdlaw15_HooksOf.f (k + 40) 2 4 = some true := by kernel_rfl
theorem ko_c2 (k x : Nat) (h : x < 5) : halberdlaw15_HooksOf.f (k + 40) 2 (x : Int) = some true := by
  match x, h with
  | 0, _ => exact ko_c2_0 k
  | 1, _ => exact ko_c2_1 k
  | 2, _ => exact ko_c2_2 k
  | 3, _ => exact ko_c2_3 k
  | 4, _ => exact ko_c2_4 k
theorem ko_c3_0 (k : Nat) : halberdlaw15_HooksOf.f (k + 40) 3 0 = some true := by kernel_rfl
theorem ko_c3_1 (k : Nat) : halberdlaw15_HooksOf.f (k + 40) 3 1 = some true := by kernel_rfl
theorem ko_c3_2 (k : Nat) : halberdlaw15_HooksOf.f (k + 40) 3 2 = some true := by kernel_rfl
theorem ko_c3_3 (k : Nat) : halberdlaw15_HooksOf.f (k + 40) 3 3 = some true := by kernel_rfl
theorem ko_c3_4 (k : Nat) : halberdlaw15_HooksOf.f (k + 40) 3 4 = some true := by kernel_rfl
theorem ko_c3 (k x : Nat) (h : x < 5) : halberdlaw15_HooksOf.f (k + 40) 3 (x : Int) = some true := by
  match x, h with
  | 0, _ => exact ko_c3_0 k
  | 1, _ => exact ko_c3_1 k
  | 2, _ => exact ko_c3_2 k
  | 3, _ => exact ko_c3_3 k
  | 4, _ => exact ko_c3_4 k
theorem ko_c4_0 (k : Nat) : halberdlaw15_HooksOf.f (k + 40) 4 0 = some true := by kernel_rfl
theorem ko_c4_1 (k : Nat) : halberdlaw15_HooksOf.f (k + 40) 4 1 = some true := by kernel_rfl
theorem ko_c4_2 (k : Nat) : halberdlaw15_HooksOf.f (k + 40) 4 2 = some true := by kernel_rfl
theorem ko_c4_3 (k : Nat) : halberdlaw15_HooksOf.f (k + 40) 4 3 = some true := by kernel_rfl
theorem ko_c4_4 (k : Nat) : halberdlaw15_HooksOf.f (k + 40) 4 4 = some true := by kernel_rfl
theorem ko_c4 (k x : Nat) (h : x < 5) : halberdlaw15_HooksOf.f (k + 40) 4 (x : Int) = some true := by
  match x, h with
  | 0, _ => exact ko_c4_0 k
  | 1, _ => exact ko_c4_1 k
  | 2, _ => exact ko_c4_2 k
  | 3, _ => exact ko_c4_3 k
  | 4, _ => exact ko_c4_4 k
theorem ko_c5_0 (k : Nat) : halberdlaw15_HooksOf.f (k + 40) 5 0 = some true := by kernel_rfl
theorem ko_c5_1 (k : Nat) : halberdlaw15_HooksOf.f (k + 40) 5 1 = some true := by kernel_rfl
theorem ko_c5_2 (k : Nat) : halberdlaw15_HooksOf.f (k + 40) 5 2 = some true := by kernel_rfl
theorem ko_c5_3 (k : Nat) : halberdlaw15_HooksOf.f (k + 40) 5 3 = some true := by kernel_rfl
theorem ko_c5_4 (k : Nat) : halberdlaw15_HooksOf.f (k + 40) 5 4 = some true := by kernel_rfl
theorem ko_c5 (k x : Nat) (h : x < 5) : halberdlaw15_HooksOf.f (k + 40) 5 (x : Int) = some true := by
  match x, h with
  | 0, _ => exact ko_c5_0 k
  | 1, _ => exact ko_c5_1 k
  | 2, _ => exact ko_c5_2 k
  | 3, _ => exact ko_c5_3 k
  | 4, _ => exact ko_c5_4 k
theorem ko_c6_0 (k : Nat) : halberdlaw15_HooksOf.f (k + 40) 6 0 = some true := by kernel_rfl
theorem ko_c6_1 (k : Nat) : halberdlaw15_HooksOf.f (k + 40) 6 1 = some true := by kernel_rfl
theorem ko_c6_2 (k : Nat) : halberdlaw15_HooksOf.f (k + 40) 6 2 = some true := by kernel_rfl
theorem ko_c6_3 (k : Nat) : halberdlaw15_HooksOf.f (k + 40) 6 3 = some true := by kernel_rfl
theorem ko_c6_4 (k : Nat) : halberdlaw15_HooksOf.f (k + 40) 6 4 = some true := by kernel_rfl
theorem ko_c6 (k x : Nat) (h : x < 5) : halberdlaw15_HooksOf.f (k + 40) 6 (x : Int) = some true := by
  match x, h with
  | 0, _ => exact ko_c6_0 k
  | 1, _ => exact ko_c6_1 k
  | 2, _ => exact ko_c6_2 k
  | 3, _ => exact ko_c6_3 k
  | 4, _ => exact ko_c6_4 k
theorem ko_c7_0 (k : Nat) : halberdlaw15_HooksOf.f (k + 40) 7 0 = some true := by kernel_rfl
theorem ko_c7_1 (k : Nat) : halberdlaw15_HooksOf.f (k + 40) 7 1 = some true := by kernel_rfl
theorem ko_c7_2 (k : Nat) : halberdlaw15_HooksOf.f (k + 40) 7 2 = some true := by kernel_rfl
theorem ko_c7_3 (k : Nat) : halberdlaw15_HooksOf.f (k + 40) 7 3 = some true := by kernel_rfl
theorem ko_c7_4 (k : Nat) : halberdlaw15_HooksOf.f (k + 40) 7 4 = some true := by kernel_rfl
theorem ko_c7 (k x : Nat) (h : x < 5) : halberdlaw15_HooksOf.f (k + 40) 7 (x : Int) = some true := by
  match x, h with
  | 0, _ => exact ko_c7_0 k
  | 1, _ => exact ko_c7_1 k
  | 2, _ => exact ko_c7_2 k
  | 3, _ => exact ko_c7_3 k
  | 4, _ => exact ko_c7_4 k
theorem ko_c8_0 (k : Nat) : halberdlaw15_HooksOf.f (k + 40) 8 0 = some true := by kernel_rfl
theorem ko_c8_1 (k : Nat) : halberdlaw15_HooksOf.f (k + 40) 8 1 = some true := by kernel_rfl
theorem ko_c8_2 (k : Nat) : halberdlaw15_HooksOf.f (k + 40) 8 2 = some true := by kernel_rfl
theorem ko_c8_3 (k : Nat) : halberdlaw15_HooksOf.f (k + 40) 8 3 = some true := by kernel_rfl
theorem ko_c8_4 (k : Nat) : halberdlaw15_HooksOf.f (k + 40) 8 4 = some true := by kernel_rfl
theorem ko_c8 (k x : Nat) (h : x < 5) : halberdlaw15_HooksOf.f (k + 40) 8 (x : Int) = some true := by
  match x, h with
  | 0, _ => exact ko_c8_0 k
  | 1, _ => exact ko_c8_1 k
  | 2, _ => exact ko_c8_2 k
  | 3, _ => exact ko_c8_3 k
  | 4, _ => exact ko_c8_4 k
theorem ko_c9_0 (k : Nat) : halberdlaw15_HooksOf.f (k + 40) 9 0 = some true := by kernel_rfl
theorem ko_c9_1 (k : Nat) : halberdlaw15_HooksOf.f (k + 40) 9 1 = some true := by kernel_rfl
theorem ko_c9_2 (k : Nat) : halberdlaw15_HooksOf.f (k + 40) 9 2 = some true := by kernel_rfl
theorem ko_c9_3 (k : Nat) : halberdlaw15_HooksOf.f (k + 40) 9 3 = some true := by kernel_rfl
theorem ko_c9_4 (k : Nat) : halberdlaw15_HooksOf.f (k + 40) 9 4 = some true := by kernel_rfl
theorem ko_c9 (k x : Nat) (h : x < 5) : halberdlaw15_HooksOf.f (k + 40) 9 (x : Int) = some true := by
  match x, h with
  | 0, _ => exact ko_c9_0 k
  | 1, _ => exact ko_c9_1 k
  | 2, _ => exact ko_c9_2 k
  | 3, _ => exact ko_c9_3 k
  | 4, _ => exact ko_c9_4 k
theorem ko_c10_0 (k : Nat) : halberdlaw15_HooksOf.f (k + 40) 10 0 = some true := by kernel_rfl
theorem ko_c10_1 (k : Nat) : halberdlaw15_HooksOf.f (k + 40) 10 1 = some true := by kernel_rfl
theorem ko_c10_2 (k : Nat) : halberdlaw15_HooksOf.f (k + 40) 10 2 = some true := by kernel_rfl
theorem ko_c10_3 (k : Nat) : halberdlaw15_HooksOf.f (k + 40) 10 3 = some true := by kernel_rfl
theorem ko_c10_4 (k : Nat) : halberdlaw15_HooksOf.f (k + 40) 10 4 = some true := by kernel_rfl
theorem ko_c10 (k x : Nat) (h : x < 5) : halberdlaw15_HooksOf.f (k + 40) 10 (x : Int) = some true := by
  match x, h with
  | 0, _ => exact ko_c10_0 k
  | 1, _ => exact ko_c10_1 k
  | 2, _ => exact ko_c10_2 k
  | 3, _ => exact ko_c10_3 k
  | 4, _ => exact ko_c10_4 k
theorem ko_c11_0 (k : Nat) : halberdlaw15_HooksOf.f (k + 40) 11 0 = some true := by kernel_rfl
theorem ko_c11_1 (k : Nat) : halberdlaw15_HooksOf.f (k + 40) 11 1 = some true := by kernel_rfl
theorem ko_c11_2 (k : Nat) : halberdlaw15_HooksOf.f (k + 40) 11 2 = some true := by kernel_rfl
theorem ko_c11_3 (k : Nat) : halberdlaw15_HooksOf.f (k + 40) 11 3 = some true := by kernel_rfl
theorem ko_c11_4 (k : Nat) : halberdlaw15_HooksOf.f (k + 40) 11 4 = some true := by kernel_rfl
theorem ko_c11 (k x : Nat) (h : x < 5) : halberdlaw15_HooksOf.f (k + 40) 11 (x : Int) = some true := by
  match x, h with
  | 0, _ => exact ko_c11_0 k
  | 1, _ => exact ko_c11_1 k
  | 2, _ => exact ko_c11_2 k
  | 3, _ => exact ko_c11_3 k
  | 4, _ => exact ko_c11_4 k
theorem ko_c12_0 (k : Nat) : halberdlaw15_HooksOf.f (k + 40) 12 0 = some true := by kernel_rfl
theorem ko_c12_1 (k : Nat) : halberdlaw15_HooksOf.f (k + 40) 12 1 = some true := by kernel_rfl
theorem ko_c12_2 (k : Nat) : halberdlaw15_HooksOf.f (k + 40) 12 2 = some true := by kernel_rfl
theorem ko_c12_3 (k : Nat) : halberdlaw15_HooksOf.f (k + 40) 12 3 = some true := by kernel_rfl
theorem ko_c12_4 (k : Nat) : halberdlaw15_HooksOf.f (k + 40) 12 4 = some true := by kernel_rfl
theorem ko_c12 (k x : Nat) (h : x < 5) : halberdlaw15_HooksOf.f (k + 40) 12 (x : Int) = some true := by
  match x, h with
  | 0, _ => exact ko_c12_0 k
  | 1, _ => exact ko_c12_1 k
  | 2, _ => exact ko_c12_2 k
  | 3, _ => exact ko_c12_3 k
  | 4, _ => exact ko_c12_4 k
theorem ko_c13_0 (k : Nat) : halberdlaw15_HooksOf.f (k + 40) 13 0 = some true := by kernel_rfl
theorem ko_c13_1 (k : Nat) : halberdlaw15_HooksOf.f (k + 40) 13 1 = some true := by kernel_rfl
theorem ko_c13_2 (k : Nat) : halberdlaw15_HooksOf.f (k + 40) 13 2 = some true := by kernel_rfl
theorem ko_c13_3 (k : Nat) : halberdlaw15_HooksOf.f (k + 40) 13 3 = some true := by kernel_rfl
theorem ko_c13_4 (k : Nat) : halberdlaw15_HooksOf.f (k + 40) 13 4 = some true := by kernel_rfl
theorem ko_c13 (k x : Nat) (h : x < 5) : halberdlaw15_HooksOf.f (k + 40) 13 (x : Int) = some true := by
  match x, h with
  | 0, _ => exact ko_c13_0 k
  | 1, _ => exact ko_c13_1 k
  | 2, _ => exact ko_c13_2 k
  | 3, _ => exact ko_c13_3 k
  | 4, _ => exact ko_c13_4 k
theorem ko_c14_0 (k : Nat) : halberdlaw15_HooksOf.f (k + 40) 14 0 = some true := by kernel_rfl
theorem ko_c14_1 (k : Nat) : halberdlaw15_HooksOf.f (k + 40) 14 1 = some true := by kernel_rfl
theorem ko_c14_2 (k : Nat) : halberdlaw15_HooksOf.f (k + 40) 14 2 = some true := by kernel_rfl
theorem ko_c14_3 (k : Nat) : halberdlaw15_HooksOf.f (k + 40) 14 3 = some true := by kernel_rfl
theorem ko_c14_4 (k : Nat) : halberdlaw15_HooksOf.f (k + 40) 14 4 = some true := by kernel_rfl
theorem ko_c14 (k x : Nat) (h : x < 5) : halberdlaw15_HooksOf.f (k + 40) 14 (x : Int) = some true := by
  match x, h with
  | 0, _ => exact ko_c14_0 k
  | 1, _ => exact ko_c14_1 k
  | 2, _ => exact ko_c14_2 k
  | 3, _ => exact ko_c14_3 k
  | 4, _ => exact ko_c14_4 k
theorem ko_c15_0 (k : Nat) : halberdlaw15_HooksOf.f (k + 40) 15 0 = some true := by kernel_rfl
theorem ko_c15_1 (k : Nat) : halberdlaw15_HooksOf.f (k + 40) 15 1 = some true := by kernel_rfl
theorem ko_c15_2 (k : Nat) : halberdlaw15_HooksOf.f (k + 40) 15 2 = some true := by kernel_rfl
theorem ko_c15_3 (k : Nat) : halberdlaw15_HooksOf.f (k + 40) 15 3 = some true := by kernel_rfl
theorem ko_c15_4 (k : Nat) : halberdlaw15_HooksOf.f (k + 40) 15 4 = some true := by kernel_rfl
theorem ko_c15 (k x : Nat) (h : x < 5) : halberdlaw15_HooksOf.f (k + 40) 15 (x : Int) = some true := by
  match x, h with
  | 0, _ => exact ko_c15_0 k
  | 1, _ => exact ko_c15_1 k
  | 2, _ => exact ko_c15_2 k
  | 3, _ => exact ko_c15_3 k
  | 4, _ => exact ko_c15_4 k
theorem ko_c16_0 (k : Nat) : halberdlaw15_HooksOf.f (k + 40) 16 0 = some true := by kernel_rfl
theorem ko_c16_1 (k : Nat) : halberdlaw15_HooksOf.f (k + 40) 16 1 = some true := by kernel_rfl
theorem ko_c16_2 (k : Nat) : halberdlaw15_HooksOf.f (k + 40) 16 2 = some true := by kernel_rfl
theorem ko_c16_3 (k : Nat) : halberdlaw15_HooksOf.f (k + 40) 16 3 = some true := by kernel_rfl
theorem ko_c16_4 (k : Nat) : halberdlaw15_HooksOf.f (k + 40) 16 4 = some true := by kernel_rfl
theorem ko_c16 (k x : Nat) (h : x < 5) : halberdlaw15_HooksOf.f (k + 40) 16 (x : Int) = some true := by
  match x, h with
  | 0, _ => exact ko_c16_0 k
  | 1, _ => exact ko_c16_1 k
  | 2, _ => exact ko_c16_2 k
  | 3, _ => exact ko_c16_3 k
  | 4, _ => exact ko_c16_4 k
theorem ko_c0_0 (k : Nat) : halberdlaw15_HooksOf.f (k + 40) 0 0 = some true := by kernel_rfl
theorem ko_c0_1 (k : Nat) : halberdlaw15_HooksOf.f (k + 40) 0 1 = some true := by kernel_rfl
theorem ko_c0_2 (k : Nat) : halberdlaw15_HooksOf.f (k + 40) 0 2 = some true := by kernel_rfl
theorem ko_c0_3 (k : Nat) : halberdlaw15_HooksOf.f (k + 40) 0 3 = some true := by kernel_rfl
theorem ko_c0_4 (k : Nat) : halberdlaw15_HooksOf.f (k + 40) 0 4 = some true := by kernel_rfl
theorem ko_l0 (k : Nat) : halberdlaw15_HooksOf.l0 (k + 39) 0 ⟨#[]⟩ 0 false 0 ⟨#[]⟩ [] 0 = some true := by kernel_rfl
theorem ko_l1 (k : Nat) : halberdlaw15_HooksOf.l0 (k + 39) 1 ⟨#[]⟩ 0 false 0 ⟨#[]⟩ [] 0 = some true := by kernel_rfl
theorem ko_l2 (k : Nat) : halberdlaw15_HooksOf.l0 (k + 39) 2 ⟨#[]⟩ 0 false 0 ⟨#[]⟩ [] 0 = some true := by kernel_rfl
theorem ko_l3 (k : Nat) : halberdlaw15_HooksOf.l0 (k + 39) 3 ⟨#[]⟩ 0 false 0 ⟨#[]⟩ [] 0 = some true := by kernel_rfl
theorem ko_l4 (k : Nat) : halberdlaw15_HooksOf.l0 (k + 39) 4 ⟨#[]⟩ 0 false 0 ⟨#[]⟩ [] 0 = some true := by kernel_rfl
theorem ko_all (k : Nat) (n x1 : Int) : halberdlaw15_HooksOf.f (k + 40) n x1 = some true := by
  by_cases c0 : 0 ≤ n ∧ n ≤ 16 ∧ 0 ≤ x1 ∧ x1 < 5
  · obtain ⟨a, b, c, d⟩ := c0
    obtain ⟨x, rfl⟩ : ∃ x : Nat, x1 = x := ⟨x1.toNat, by omega⟩
    by_cases h0 : n = 0
    · subst h0
      match x, d with
      | 0, _ => exact ko_c0_0 k
      | 1, _ => exact ko_c0_1 k
      | 2, _ => exact ko_c0_2 k
      | 3, _ => exact ko_c0_3 k
      | 4, _ => exact ko_c0_4 k
      | x + 5, h => omega
    by_cases h1 : n = 1
    · subst h1
      exact ko_c1 k x (by omega)
    by_cases h2 : n = 2
    · subst h2
      exact ko_c2 k x (by omega)
    by_cases h3 : n = 3
    · subst h3
      exact ko_c3 k x (by omega)
    by_cases h4 : n = 4
    · subst h4
      exact ko_c4 k x (by omega)
    by_cases h5 : n = 5
    · subst h5
      exact ko_c5 k x (by omega)
    by_cases h6 : n = 6
    · subst h6
      exact ko_c6 k x (by omega)
    by_cases h7 : n = 7
    · subst h7
      exact ko_c7 k x (by omega)
    by_cases h8 : n = 8
    · subst h8
      exact ko_c8 k x (by omega)
    by_cases h9 : n = 9
    · subst h9
      exact ko_c9 k x (by omega)
    by_cases h10 : n = 10
    · subst h10
      exact ko_c10 k x (by omega)
    by_cases h11 : n = 11
    · subst h11
      exact ko_c11 k x (by omega)
    by_cases h12 : n = 12
    · subst h12
      exact ko_c12 k x (by omega)
    by_cases h13 : n = 13
    · subst h13
      exact ko_c13 k x (by omega)
    by_cases h14 : n = 14
    · subst h14
      exact ko_c14 k x (by omega)
    by_cases h15 : n = 15
    · subst h15
      exact ko_c15 k x (by omega)
    by_cases h16 : n = 16
    · subst h16
      exact ko_c16 k x (by omega)
    omega
  · by_cases r : 1 ≤ n ∧ n ≤ 16
    · have hx : x1 < 0 ∨ 5 ≤ x1 := by omega
      rcases hx with hx | hx
      · by_cases h1 : n = 1
        · subst h1
          rw [ko_1, ko_kneg hx, Option.bind_some, ko_j (k + 39), ko_neg hx]
          exact ko_n1 k
        by_cases h2 : n = 2
        · subst h2
          rw [ko_2, ko_kneg hx, Option.bind_some, ko_j (k + 39), ko_neg hx]
          exact ko_n2 k
        by_cases h3 : n = 3
        · subst h3
          rw [ko_3, ko_kneg hx, Option.bind_some, ko_j (k + 39), ko_neg hx]
          exact ko_n3 k
        by_cases h4 : n = 4
        · subst h4
          rw [ko_4, ko_kneg hx, Option.bind_some, ko_j (k + 39), ko_neg hx]
          exact ko_n4 k
        by_cases h5 : n = 5
        · subst h5
          rw [ko_5, ko_kneg hx, Option.bind_some, ko_j (k + 39), ko_neg hx]
          exact ko_n5 k
        by_cases h6 : n = 6
        · subst h6
          rw [ko_6, ko_kneg hx, Option.bind_some, ko_j (k + 39), ko_neg hx]
          exact ko_n6 k
        by_cases h7 : n = 7
        · subst h7
          rw [ko_7, ko_kneg hx, Option.bind_some, ko_j (k + 39), ko_neg hx]
          exact ko_n7 k
        by_cases h8 : n = 8
        · subst h8
          rw [ko_8, ko_kneg hx, Option.bind_some, ko_j (k + 39), ko_neg hx]
          exact ko_n8 k
        by_cases h9 : n = 9
        · subst h9
          rw [ko_9, ko_kneg hx, Option.bind_some, ko_j (k + 39), ko_neg hx]
          exact ko_n9 k
        by_cases h10 : n = 10
        · subst h10
          rw [ko_10, ko_kneg hx, Option.bind_some, ko_j (k + 39), ko_neg hx]
          exact ko_n10 k
        by_cases h11 : n = 11
        · subst h11
          rw [ko_11, ko_kneg hx, Option.bind_some, ko_j (k + 39), ko_neg hx]
          exact ko_n11 k
        by_cases h12 : n = 12
        · subst h12
          rw [ko_12, ko_kneg hx, Option.bind_some, ko_j (k + 39), ko_neg hx]
          exact ko_n12 k
        by_cases h13 : n = 13
        · subst h13
          rw [ko_13, ko_kneg hx, Option.bind_some, ko_j (k + 39), ko_neg hx]
          exact ko_n13 k
        by_cases h14 : n = 14
        · subst h14
          rw [ko_14, ko_kneg hx, Option.bind_some, ko_j (k + 39), ko_neg hx]
          exact ko_n14 k
        by_cases h15 : n = 15
        · subst h15
          rw [ko_15, ko_kneg hx, Option.bind_some, ko_j (k + 39), ko_neg hx]
          exact ko_n15 k
        by_cases h16 : n = 16
        · subst h16
          rw [ko_16, ko_kneg hx, Option.bind_some, ko_j (k + 39), ko_neg hx]
          exact ko_n16 k
        omega
      · by_cases h1 : n = 1
        · subst h1
          rw [ko_1, ko_kbig hx, Option.bind_some, ko_j (k + 39), ko_big hx _ (by decide)]
          exact ko_b1 k
        by_cases h2 : n = 2
        · subst h2
          rw [ko_2, ko_kbig hx, Option.bind_some, ko_j (k + 39), ko_big hx _ (by decide)]
          exact ko_b2 k
        by_cases h3 : n = 3
        · subst h3
          rw [ko_3, ko_kbig hx, Option.bind_some, ko_j (k + 39), ko_big hx _ (by decide)]
          exact ko_b3 k
        by_cases h4 : n = 4
        · subst h4
          rw [ko_4, ko_kbig hx, Option.bind_some, ko_j (k + 39), ko_big hx _ (by decide)]
          exact ko_b4 k
        by_cases h5 : n = 5
        · subst h5
          rw [ko_5, ko_kbig hx, Option.bind_some, ko_j (k + 39), ko_big hx _ (by decide)]
          exact ko_b5 k
        by_cases h6 : n = 6
        · subst h6
          rw [ko_6, ko_kbig hx, Option.bind_some, ko_j (k + 39), ko_big hx _ (by decide)]
          exact ko_b6 k
        by_cases h7 : n = 7
        · subst h7
          rw [ko_7, ko_kbig hx, Option.bind_some, ko_j (k + 39), ko_big hx _ (by decide)]
          exact ko_b7 k
        by_cases h8 : n = 8
        · subst h8
          rw [ko_8, ko_kbig hx, Option.bind_some, ko_j (k + 39), ko_big hx _ (by decide)]
          exact ko_b8 k
        by_cases h9 : n = 9
        · subst h9
          rw [ko_9, ko_kbig hx, Option.bind_some, ko_j (k + 39), ko_big hx _ (by decide)]
          exact ko_b9 k
        by_cases h10 : n = 10
        · subst h10
          rw [ko_10, ko_kbig hx, Option.bind_some, ko_j (k + 39), ko_big hx _ (by decide)]
          exact ko_b10 k
        by_cases h11 : n = 11
        · subst h11
          rw [ko_11, ko_kbig hx, Option.bind_some, ko_j (k + 39), ko_big hx _ (by decide)]
          exact ko_b11 k
        by_cases h12 : n = 12
        · subst h12
          rw [ko_12, ko_kbig hx, Option.bind_some, ko_j (k + 39), ko_big hx _ (by decide)]
          exact ko_b12 k
        by_cases h13 : n = 13
        · subst h13
          rw [ko_13, ko_kbig hx, Option.bind_some, ko_j (k + 39), ko_big hx _ (by decide)]
          exact ko_b13 k
        by_cases h14 : n = 14
        · subst h14
          rw [ko_14, ko_kbig hx, Option.bind_some, ko_j (k + 39), ko_big hx _ (by decide)]
          exact ko_b14 k
        by_cases h15 : n = 15
        · subst h15
          rw [ko_15, ko_kbig hx, Option.bind_some, ko_j (k + 39), ko_big hx _ (by decide)]
          exact ko_b15 k
        by_cases h16 : n = 16
        · subst h16
          rw [ko_16, ko_kbig hx, Option.bind_some, ko_j (k + 39), ko_big hx _ (by decide)]
          exact ko_b16 k
        omega
    · have g : n < 1 ∨ 17 ≤ n := by omega
      have e1 : kName n = ⟨#[]⟩ := by simp only [kName, if_neg (show ¬ n = 1 by omega), if_neg (show ¬ n = 2 by omega), if_neg (show ¬ n = 3 by omega), if_neg (show ¬ n = 4 by omega), if_neg (show ¬ n = 5 by omega), if_neg (show ¬ n = 6 by omega), if_neg (show ¬ n = 7 by omega), if_neg (show ¬ n = 8 by omega), if_neg (show ¬ n = 9 by omega), if_neg (show ¬ n = 10 by omega), if_neg (show ¬ n = 11 by omega), if_neg (show ¬ n = 12 by omega), if_neg (show ¬ n = 13 by omega), if_neg (show ¬ n = 14 by omega), if_neg (show ¬ n = 15 by omega), if_neg (show ¬ n = 16 by omega)]
      have e2 : kWords n = [] := by simp only [kWords, if_neg (show ¬ n = 1 by omega), if_neg (show ¬ n = 2 by omega), if_neg (show ¬ n = 3 by omega), if_neg (show ¬ n = 4 by omega), if_neg (show ¬ n = 5 by omega), if_neg (show ¬ n = 6 by omega), if_neg (show ¬ n = 7 by omega), if_neg (show ¬ n = 8 by omega), if_neg (show ¬ n = 9 by omega), if_neg (show ¬ n = 10 by omega), if_neg (show ¬ n = 11 by omega), if_neg (show ¬ n = 12 by omega), if_neg (show ¬ n = 13 by omega), if_neg (show ¬ n = 14 by omega), if_neg (show ¬ n = 15 by omega), if_neg (show ¬ n = 16 by omega)]
      have e3 : kMax n = 0 := by simp only [kMax, if_neg (show ¬ n = 1 by omega), if_neg (show ¬ n = 2 by omega), if_neg (show ¬ n = 3 by omega), if_neg (show ¬ n = 4 by omega), if_neg (show ¬ n = 5 by omega), if_neg (show ¬ n = 6 by omega), if_neg (show ¬ n = 7 by omega), if_neg (show ¬ n = 8 by omega), if_neg (show ¬ n = 9 by omega), if_neg (show ¬ n = 10 by omega), if_neg (show ¬ n = 11 by omega), if_neg (show ¬ n = 12 by omega), if_neg (show ¬ n = 13 by omega), if_neg (show ¬ n = 14 by omega), if_neg (show ¬ n = 15 by omega), if_neg (show ¬ n = 16 by omega)]
      have e4 : kOk n = false := by simp only [kOk, if_neg (show ¬ n = 1 by omega), if_neg (show ¬ n = 2 by omega), if_neg (show ¬ n = 3 by omega), if_neg (show ¬ n = 4 by omega), if_neg (show ¬ n = 5 by omega), if_neg (show ¬ n = 6 by omega), if_neg (show ¬ n = 7 by omega), if_neg (show ¬ n = 8 by omega), if_neg (show ¬ n = 9 by omega), if_neg (show ¬ n = 10 by omega), if_neg (show ¬ n = 11 by omega), if_neg (show ¬ n = 12 by omega), if_neg (show ¬ n = 13 by omega), if_neg (show ¬ n = 14 by omega), if_neg (show ¬ n = 15 by omega), if_neg (show ¬ n = 16 by omega)]
      have f : hooks_Of.f n = some (⟨#[]⟩, [], 0, false) := by unfold hooks_Of.f; rw [e1, e2, e3, e4]
      have kd : hooks_Kind.f n x1 = some (0, false) := by
        unfold hooks_Kind.f
        rw [f, Option.bind_some]
        rfl
      have r : halberdref15_Row.f (k + 40) n = some (⟨#[]⟩, ⟨#[]⟩, 0) := by
        unfold halberdref15_Row.f
        simp only [Option.bind_some]
        rcases g with g | g
        · rw [if_pos g]
          kernel_rfl
        · rw [if_neg (show ¬ n < 1 by omega)]
          rw [show decide (n > 16) = true from decide_eq_true (by omega)]
          kernel_rfl
      unfold halberdlaw15_HooksOf.f
      rw [show halberdlaw15_alive.f = some true from rfl, Option.bind_some, if_pos rfl, f, Option.bind_some, r, Option.bind_some, kd, Option.bind_some]
      refine Eq.trans (b := halberdlaw15_HooksOf.l0 (k + 39) x1 ⟨#[]⟩ 0 false 0 ⟨#[]⟩ [] 0) (by kernel_rfl) ?_
      by_cases c : x1 < 0
      · rw [ko_neg c]
        exact ko_n0 k
      · by_cases c5 : 5 ≤ x1
        · rw [ko_big c5 _ (by decide)]
          exact ko_b0 k
        · obtain ⟨x, rfl⟩ : ∃ x : Nat, x1 = x := ⟨x1.toNat, by omega⟩
          match x, c5 with
          | 0, _ => exact ko_l0 k
          | 1, _ => exact ko_l1 k
          | 2, _ => exact ko_l2 k
          | 3, _ => exact ko_l3 k
          | 4, _ => exact ko_l4 k
          | x + 5, h => omega
theorem HooksOwn : halberdlaw15_HooksOwn.Pure := by
  intro n x c _ _ _
  refine ⟨0 + 40, ?_⟩
  unfold halberdlaw15_HooksOwn.f
  rw [show halberdlaw15_alive.f = some true from rfl, Option.bind_some, if_pos rfl]
  unfold hooks_Of.f
  simp only [Option.bind_some, ko_all]
  by_cases c0 : x ≥ 0
  · rw [if_pos c0, if_pos c0, ite_self]
  · rw [if_neg c0]
end Go.Proofs.Yteckjmejngieeaa.Pure
