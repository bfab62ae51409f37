/- Functions of the program that some laws reach, as Lean functions, and proofs that the program's calls come to what they say: written by a program, for the texts that import it; each theorem bears its own conditions. -/
import Derived.Test.YteckjmejngieeaaPHooksByx0
import Derived.Test.YteckjmejngieeaaPHooksByx1
namespace Go.Proofs.Yteckjmejngieeaa.PHooksBy
open Go.RowKit Go.Proofs.YteckjmejngieeaaW.PrintWords Go.Proofs.YteckjmejngieeaaW.PrintLast Go.Proofs.YteckjmejngieeaaW.PrintMore
attribute [local go_sem] max2_int min2_int max_two min_two max_three min_three max_four min_four   -- for this text's walks alone
set_option linter.unusedVariables false
set_option linter.unusedSimpArgs false

/-! ### halberdref15_Row: function 36 -/
def halberdref15_Row.j0 : Nat → Int → List ByteArray → List ByteArray → Bool → Option (ByteArray × ByteArray × Int)
  | 0, _, _, _, _ => none
  | k + 1, x0, x5, x6, x15 => if x15 = true then (some ((⟨#[]⟩ : ByteArray), (⟨#[]⟩ : ByteArray), 0)) else (if x0 = 11 then (if x0 ≥ 12 then (if x0 ≤ 14 then (if 0 ≤ x0 then (if x0 < (x5.length : Int) then (if x0 < (x6.length : Int) then (some (rdOf ByteArray.empty x5 x0, rdOf ByteArray.empty x6 x0, 1)) else (none)) else (none)) else (none)) else (if 0 ≤ x0 then (if x0 < (x5.length : Int) then (if x0 < (x6.length : Int) then (some (rdOf ByteArray.empty x5 x0, rdOf ByteArray.empty x6 x0, 12)) else (none)) else (none)) else (none))) else (if 0 ≤ x0 then (if x0 < (x5.length : Int) then (if x0 < (x6.length : Int) then (some (rdOf ByteArray.empty x5 x0, rdOf ByteArray.empty x6 x0, 12)) else (none)) else (none)) else (none))) else (if x0 ≥ 12 then (if x0 ≤ 14 then (if 0 ≤ x0 then (if x0 < (x5.length : Int) then (if x0 < (x6.length : Int) then (some (rdOf ByteArray.empty x5 x0, rdOf ByteArray.empty x6 x0, 1)) else (none)) else (none)) else (none)) else (if 0 ≤ x0 then (if x0 < (x5.length : Int) then (if x0 < (x6.length : Int) then (some (rdOf ByteArray.empty x5 x0, rdOf ByteArray.empty x6 x0, 40)) else (none)) else (none)) else (none))) else (if 0 ≤ x0 then (if x0 < (x5.length : Int) then (if x0 < (x6.length : Int) then (some (rdOf ByteArray.empty x5 x0, rdOf ByteArray.empty x6 x0, 40)) else (none)) else (none)) else (none))))
def halberdref15_Row.f (k : Nat) (a0 : Int) : Option (ByteArray × ByteArray × Int) := (some (([(⟨#[]⟩ : ByteArray), (⟨#[111, 112, 101, 110]⟩ : ByteArray), (⟨#[97, 99, 99, 101, 115, 115]⟩ : ByteArray), (⟨#[99, 114, 101, 97, 116, 101]⟩ : ByteArray), (⟨#[108, 105, 110, 107]⟩ : ByteArray), (⟨#[117, 110, 108, 105, 110, 107]⟩ : ByteArray), (⟨#[114, 101, 110, 97, 109, 101]⟩ : ByteArray), (⟨#[115, 101, 116, 97, 116, 116, 114]⟩ : ByteArray), (⟨#[101, 120, 101, 99]⟩ : ByteArray), (⟨#[109, 109, 97, 112]⟩ : ByteArray), (⟨#[109, 112, 114, 111, 116, 101, 99, 116]⟩ : ByteArray), (⟨#[102, 111, 114, 107]⟩ : ByteArray), (⟨#[107, 105, 108, 108]⟩ : ByteArray), (⟨#[112, 116, 114, 97, 99, 101]⟩ : ByteArray), (⟨#[115, 101, 116, 105, 100]⟩ : ByteArray), (⟨#[99, 104, 100, 105, 114]⟩ : ByteArray), (⟨#[103, 101, 116, 97, 116, 116, 114]⟩ : ByteArray)] : List ByteArray) : List ByteArray)).bind fun y113 => ((some (([(⟨#[]⟩ : ByteArray), (⟨#[116, 105, 110]⟩ : ByteArray), (⟨#[116, 105, 110]⟩ : ByteArray), (⟨#[116, 105, 110, 110]⟩ : ByteArray), (⟨#[116, 105, 105]⟩ : ByteArray), (⟨#[116, 105, 105, 110]⟩ : ByteArray), (⟨#[116, 105, 105, 105, 109]⟩ : ByteArray), (⟨#[116, 105, 110, 110, 110]⟩ : ByteArray), (⟨#[116, 105, 109]⟩ : ByteArray), (⟨#[116, 109, 110]⟩ : ByteArray), (⟨#[116, 109, 110, 110]⟩ : ByteArray), (⟨#[116, 110]⟩ : ByteArray), (⟨#[116, 116, 110]⟩ : ByteArray), (⟨#[116, 116, 110]⟩ : ByteArray), (⟨#[116, 110, 110]⟩ : ByteArray), (⟨#[116, 105]⟩ : ByteArray), (⟨#[116, 105, 110]⟩ : ByteArray)] : List ByteArray) : List ByteArray)).bind fun y116 => (if a0 < 1 then (halberdref15_Row.j0 k a0 y113 y116 true) else (halberdref15_Row.j0 k a0 y113 y116 (decide (a0 > 16)))))
theorem halberdref15_Row.mono_l : ∀ k, (∀ y0 y1 y2 y3, LeO (halberdref15_Row.j0 k y0 y1 y2 y3) (halberdref15_Row.j0 (k + 1) y0 y1 y2 y3))
  | 0 => fun _ _ _ _ r h => by simp [halberdref15_Row.j0] at h
  | k + 1 => by
    have ih0 := halberdref15_Row.mono_l k
    · intro y0 y1 y2 y3
      unfold halberdref15_Row.j0
      repeat' first
      | (with_reducible exact ih0 _ _ _ _)
      | (with_reducible exact LeO.refl _)
      | (with_reducible exact LeO.none _)
      | (with_reducible refine LeO.ite ?_ ?_)
      | (with_reducible refine LeO.bind ?_ (fun _ => ?_))
      | exact ih0 _ _ _ _
      | exact LeO.none _
      | refine LeO.ite ?_ ?_
      | refine LeO.bind ?_ (fun _ => ?_)
theorem halberdref15_Row.mono : ∀ a0 k, LeO (halberdref15_Row.f k a0) (halberdref15_Row.f (k + 1) a0) := by
  intro a0 k
  have ih0 := halberdref15_Row.mono_l k
  unfold halberdref15_Row.f
  repeat' first
      | (with_reducible exact ih0 _ _ _ _)
      | (with_reducible exact LeO.refl _)
      | (with_reducible exact LeO.none _)
      | (with_reducible refine LeO.ite ?_ ?_)
      | (with_reducible refine LeO.bind ?_ (fun _ => ?_))
      | exact ih0 _ _ _ _
      | exact LeO.none _
      | refine LeO.ite ?_ ?_
      | refine LeO.bind ?_ (fun _ => ?_)
set_option maxHeartbeats 8000000 in
set_option maxRecDepth 100000 in
theorem halberdref15_Row.calls (k : Nat) (a0 : Int) (r1 : ByteArray) (r2 : ByteArray) (r3 : Int) (w : World) (h : halberdref15_Row.f k a0 = some (r1, r2, r3)) :
    Calls Try.prog 36 #[.int .i64 a0] w fun e w' => e = .returned (.tuple #[.string r1, .string r2, .int .u64 r3]) ∧ Below w.heap.size w w' := by
  have HB := Aside0.mk (Below.refl w.heap.size w)
  have H : ((some (([(⟨#[]⟩ : ByteArray), (⟨#[111, 112, 101, 110]⟩ : ByteArray), (⟨#[97, 99, 99, 101, 115, 115]⟩ : ByteArray), (⟨#[99, 114, 101, 97, 116, 101]⟩ : ByteArray), (⟨#[108, 105, 110, 107]⟩ : ByteArray), (⟨#[117, 110, 108, 105, 110, 107]⟩ : ByteArray), (⟨#[114, 101, 110, 97, 109, 101]⟩ : ByteArray), (⟨#[115, 101, 116, 97, 116, 116, 114]⟩ : ByteArray), (⟨#[101, 120, 101, 99]⟩ : ByteArray), (⟨#[109, 109, 97, 112]⟩ : ByteArray), (⟨#[109, 112, 114, 111, 116, 101, 99, 116]⟩ : ByteArray), (⟨#[102, 111, 114, 107]⟩ : ByteArray), (⟨#[107, 105, 108, 108]⟩ : ByteArray), (⟨#[112, 116, 114, 97, 99, 101]⟩ : ByteArray), (⟨#[115, 101, 116, 105, 100]⟩ : ByteArray), (⟨#[99, 104, 100, 105, 114]⟩ : ByteArray), (⟨#[103, 101, 116, 97, 116, 116, 114]⟩ : ByteArray)] : List ByteArray) : List ByteArray)).bind fun y113 => ((some (([(⟨#[]⟩ : ByteArray), (⟨#[116, 105, 110]⟩ : ByteArray), (⟨#[116, 105, 110]⟩ : ByteArray), (⟨#[116, 105, 110, 110]⟩ : ByteArray), (⟨#[116, 105, 105]⟩ : ByteArray), (⟨#[116, 105, 105, 110]⟩ : ByteArray), (⟨#[116, 105, 105, 105, 109]⟩ : ByteArray), (⟨#[116, 105, 110, 110, 110]⟩ : ByteArray), (⟨#[116, 105, 109]⟩ : ByteArray), (⟨#[116, 109, 110]⟩ : ByteArray), (⟨#[116, 109, 110, 110]⟩ : ByteArray), (⟨#[116, 110]⟩ : ByteArray), (⟨#[116, 116, 110]⟩ : ByteArray), (⟨#[116, 116, 110]⟩ : ByteArray), (⟨#[116, 110, 110]⟩ : ByteArray), (⟨#[116, 105]⟩ : ByteArray), (⟨#[116, 105, 110]⟩ : ByteArray)] : List ByteArray) : List ByteArray)).bind fun y116 => (if a0 < 1 then (halberdref15_Row.j0 k a0 y113 y116 true) else (halberdref15_Row.j0 k a0 y113 y116 (decide (a0 > 16)))))) = some (r1, r2, r3) := h
  clear h
  obtain ⟨y113, hy113⟩ : ∃ y_ : List ByteArray, y_ = (([(⟨#[]⟩ : ByteArray), (⟨#[111, 112, 101, 110]⟩ : ByteArray), (⟨#[97, 99, 99, 101, 115, 115]⟩ : ByteArray), (⟨#[99, 114, 101, 97, 116, 101]⟩ : ByteArray), (⟨#[108, 105, 110, 107]⟩ : ByteArray), (⟨#[117, 110, 108, 105, 110, 107]⟩ : ByteArray), (⟨#[114, 101, 110, 97, 109, 101]⟩ : ByteArray), (⟨#[115, 101, 116, 97, 116, 116, 114]⟩ : ByteArray), (⟨#[101, 120, 101, 99]⟩ : ByteArray), (⟨#[109, 109, 97, 112]⟩ : ByteArray), (⟨#[109, 112, 114, 111, 116, 101, 99, 116]⟩ : ByteArray), (⟨#[102, 111, 114, 107]⟩ : ByteArray), (⟨#[107, 105, 108, 108]⟩ : ByteArray), (⟨#[112, 116, 114, 97, 99, 101]⟩ : ByteArray), (⟨#[115, 101, 116, 105, 100]⟩ : ByteArray), (⟨#[99, 104, 100, 105, 114]⟩ : ByteArray), (⟨#[103, 101, 116, 97, 116, 116, 114]⟩ : ByteArray)] : List ByteArray)) := ⟨_, rfl⟩
  replace H : ((some (([(⟨#[]⟩ : ByteArray), (⟨#[116, 105, 110]⟩ : ByteArray), (⟨#[116, 105, 110]⟩ : ByteArray), (⟨#[116, 105, 110, 110]⟩ : ByteArray), (⟨#[116, 105, 105]⟩ : ByteArray), (⟨#[116, 105, 105, 110]⟩ : ByteArray), (⟨#[116, 105, 105, 105, 109]⟩ : ByteArray), (⟨#[116, 105, 110, 110, 110]⟩ : ByteArray), (⟨#[116, 105, 109]⟩ : ByteArray), (⟨#[116, 109, 110]⟩ : ByteArray), (⟨#[116, 109, 110, 110]⟩ : ByteArray), (⟨#[116, 110]⟩ : ByteArray), (⟨#[116, 116, 110]⟩ : ByteArray), (⟨#[116, 116, 110]⟩ : ByteArray), (⟨#[116, 110, 110]⟩ : ByteArray), (⟨#[116, 105]⟩ : ByteArray), (⟨#[116, 105, 110]⟩ : ByteArray)] : List ByteArray) : List ByteArray)).bind fun y116 => (if a0 < 1 then (halberdref15_Row.j0 k a0 y113 y116 true) else (halberdref15_Row.j0 k a0 y113 y116 (decide (a0 > 16))))) = some (r1, r2, r3) := by first | (rw [hy113]; with_reducible exact H) | (have H2_ := (Option.bind_some _ _).symm.trans H; rw [hy113]; with_reducible exact H2_) | (have H2_ := (Option.bind_some _ _).symm.trans H; with_reducible exact H2_) | with_reducible exact H | (rw [hy113]; exact H) | exact H
  have Ny113 := Aside0.mk hy113
  clear hy113
  obtain ⟨y116, hy116⟩ : ∃ y_ : List ByteArray, y_ = (([(⟨#[]⟩ : ByteArray), (⟨#[116, 105, 110]⟩ : ByteArray), (⟨#[116, 105, 110]⟩ : ByteArray), (⟨#[116, 105, 110, 110]⟩ : ByteArray), (⟨#[116, 105, 105]⟩ : ByteArray), (⟨#[116, 105, 105, 110]⟩ : ByteArray), (⟨#[116, 105, 105, 105, 109]⟩ : ByteArray), (⟨#[116, 105, 110, 110, 110]⟩ : ByteArray), (⟨#[116, 105, 109]⟩ : ByteArray), (⟨#[116, 109, 110]⟩ : ByteArray), (⟨#[116, 109, 110, 110]⟩ : ByteArray), (⟨#[116, 110]⟩ : ByteArray), (⟨#[116, 116, 110]⟩ : ByteArray), (⟨#[116, 116, 110]⟩ : ByteArray), (⟨#[116, 110, 110]⟩ : ByteArray), (⟨#[116, 105]⟩ : ByteArray), (⟨#[116, 105, 110]⟩ : ByteArray)] : List ByteArray)) := ⟨_, rfl⟩
  replace H : (if a0 < 1 then (halberdref15_Row.j0 k a0 y113 y116 true) else (halberdref15_Row.j0 k a0 y113 y116 (decide (a0 > 16)))) = some (r1, r2, r3) := by first | (rw [hy116]; with_reducible exact H) | (have H2_ := (Option.bind_some _ _).symm.trans H; rw [hy116]; with_reducible exact H2_) | (have H2_ := (Option.bind_some _ _).symm.trans H; with_reducible exact H2_) | with_reducible exact H | (rw [hy116]; exact H) | exact H
  have Ny116 := Aside0.mk hy116
  clear hy116
  have HC2 := Aside0.mk H
  clear H
  go_enter Try.func36, Try.ntmps36
  go_upto_region 3 with (first | ((with_reducible refine gate_dst (N := 8) rfl ?_); refine Kd.R_lit Kd.string _ 9 ?hg (N := 8) ?hd (xs := ([(⟨#[]⟩ : ByteArray), (⟨#[111, 112, 101, 110]⟩ : ByteArray), (⟨#[97, 99, 99, 101, 115, 115]⟩ : ByteArray), (⟨#[99, 114, 101, 97, 116, 101]⟩ : ByteArray), (⟨#[108, 105, 110, 107]⟩ : ByteArray), (⟨#[117, 110, 108, 105, 110, 107]⟩ : ByteArray), (⟨#[114, 101, 110, 97, 109, 101]⟩ : ByteArray), (⟨#[115, 101, 116, 97, 116, 116, 114]⟩ : ByteArray), (⟨#[101, 120, 101, 99]⟩ : ByteArray), (⟨#[109, 109, 97, 112]⟩ : ByteArray), (⟨#[109, 112, 114, 111, 116, 101, 99, 116]⟩ : ByteArray), (⟨#[102, 111, 114, 107]⟩ : ByteArray), (⟨#[107, 105, 108, 108]⟩ : ByteArray), (⟨#[112, 116, 114, 97, 99, 101]⟩ : ByteArray), (⟨#[115, 101, 116, 105, 100]⟩ : ByteArray), (⟨#[99, 104, 100, 105, 114]⟩ : ByteArray), (⟨#[103, 101, 116, 97, 116, 116, 114]⟩ : ByteArray)] : List ByteArray)) (inner := [.string (⟨#[]⟩ : ByteArray), .string (⟨#[111, 112, 101, 110]⟩ : ByteArray), .string (⟨#[97, 99, 99, 101, 115, 115]⟩ : ByteArray), .string (⟨#[99, 114, 101, 97, 116, 101]⟩ : ByteArray), .string (⟨#[108, 105, 110, 107]⟩ : ByteArray), .string (⟨#[117, 110, 108, 105, 110, 107]⟩ : ByteArray), .string (⟨#[114, 101, 110, 97, 109, 101]⟩ : ByteArray), .string (⟨#[115, 101, 116, 97, 116, 116, 114]⟩ : ByteArray), .string (⟨#[101, 120, 101, 99]⟩ : ByteArray), .string (⟨#[109, 109, 97, 112]⟩ : ByteArray), .string (⟨#[109, 112, 114, 111, 116, 101, 99, 116]⟩ : ByteArray), .string (⟨#[102, 111, 114, 107]⟩ : ByteArray), .string (⟨#[107, 105, 108, 108]⟩ : ByteArray), .string (⟨#[112, 116, 114, 97, 99, 101]⟩ : ByteArray), .string (⟨#[115, 101, 116, 105, 100]⟩ : ByteArray), .string (⟨#[99, 104, 100, 105, 114]⟩ : ByteArray), .string (⟨#[103, 101, 116, 97, 116, 116, 114]⟩ : ByteArray)]) (ok := fun _ => True) (okp := fun _ => True) ?hr ?hp (fun _ hk => hk) trivial (Below.refl _ _) (Nat.le_refl _) (by simp) ?_; (case hd => rfl); (case hg => rfl); (case hr => first | (go_simp; done) | (go_simp; rfl)); (case hp => exact (Reps.one (show Kd.M Kd.string _ _ _ (⟨#[]⟩ : ByteArray) [.string (⟨#[]⟩ : ByteArray)] from rfl) (Reps.one (show Kd.M Kd.string _ _ _ (⟨#[111, 112, 101, 110]⟩ : ByteArray) [.string (⟨#[111, 112, 101, 110]⟩ : ByteArray)] from rfl) (Reps.one (show Kd.M Kd.string _ _ _ (⟨#[97, 99, 99, 101, 115, 115]⟩ : ByteArray) [.string (⟨#[97, 99, 99, 101, 115, 115]⟩ : ByteArray)] from rfl) (Reps.one (show Kd.M Kd.string _ _ _ (⟨#[99, 114, 101, 97, 116, 101]⟩ : ByteArray) [.string (⟨#[99, 114, 101, 97, 116, 101]⟩ : ByteArray)] from rfl) (Reps.one (show Kd.M Kd.string _ _ _ (⟨#[108, 105, 110, 107]⟩ : ByteArray) [.string (⟨#[108, 105, 110, 107]⟩ : ByteArray)] from rfl) (Reps.one (show Kd.M Kd.string _ _ _ (⟨#[117, 110, 108, 105, 110, 107]⟩ : ByteArray) [.string (⟨#[117, 110, 108, 105, 110, 107]⟩ : ByteArray)] from rfl) (Reps.one (show Kd.M Kd.string _ _ _ (⟨#[114, 101, 110, 97, 109, 101]⟩ : ByteArray) [.string (⟨#[114, 101, 110, 97, 109, 101]⟩ : ByteArray)] from rfl) (Reps.one (show Kd.M Kd.string _ _ _ (⟨#[115, 101, 116, 97, 116, 116, 114]⟩ : ByteArray) [.string (⟨#[115, 101, 116, 97, 116, 116, 114]⟩ : ByteArray)] from rfl) (Reps.one (show Kd.M Kd.string _ _ _ (⟨#[101, 120, 101, 99]⟩ : ByteArray) [.string (⟨#[101, 120, 101, 99]⟩ : ByteArray)] from rfl) (Reps.one (show Kd.M Kd.string _ _ _ (⟨#[109, 109, 97, 112]⟩ : ByteArray) [.string (⟨#[109, 109, 97, 112]⟩ : ByteArray)] from rfl) (Reps.one (show Kd.M Kd.string _ _ _ (⟨#[109, 112, 114, 111, 116, 101, 99, 116]⟩ : ByteArray) [.string (⟨#[109, 112, 114, 111, 116, 101, 99, 116]⟩ : ByteArray)] from rfl) (Reps.one (show Kd.M Kd.string _ _ _ (⟨#[102, 111, 114, 107]⟩ : ByteArray) [.string (⟨#[102, 111, 114, 107]⟩ : ByteArray)] from rfl) (Reps.one (show Kd.M Kd.string _ _ _ (⟨#[107, 105, 108, 108]⟩ : ByteArray) [.string (⟨#[107, 105, 108, 108]⟩ : ByteArray)] from rfl) (Reps.one (show Kd.M Kd.string _ _ _ (⟨#[112, 116, 114, 97, 99, 101]⟩ : ByteArray) [.string (⟨#[112, 116, 114, 97, 99, 101]⟩ : ByteArray)] from rfl) (Reps.one (show Kd.M Kd.string _ _ _ (⟨#[115, 101, 116, 105, 100]⟩ : ByteArray) [.string (⟨#[115, 101, 116, 105, 100]⟩ : ByteArray)] from rfl) (Reps.one (show Kd.M Kd.string _ _ _ (⟨#[99, 104, 100, 105, 114]⟩ : ByteArray) [.string (⟨#[99, 104, 100, 105, 114]⟩ : ByteArray)] from rfl) (Reps.one (show Kd.M Kd.string _ _ _ (⟨#[103, 101, 116, 97, 116, 116, 114]⟩ : ByteArray) [.string (⟨#[103, 101, 116, 97, 116, 116, 114]⟩ : ByteArray)] from rfl) (Reps.none _ _))))))))))))))))))); intro v114 w3 ho4 hb hg_ hnew_; clear hg_ hnew_; (first | rw [← Ny113.out] at ho4 | (simp only [Int.reduceToNat] at ho4; rw [← Ny113.out] at ho4)); have n0_ := Aside0.mk (Kd.R_lower ho4 (below_size (by repeat (first | (with_reducible first | exact HB.out | apply below_alloc | apply pw_below_drewN | apply below_drew1) | exact HB.out)))); have n1_ := Aside0.mk (below_step (by repeat (first | (with_reducible first | exact HB.out | apply below_alloc | apply pw_below_drewN | apply below_drew1) | exact HB.out)) hb); clear HB; have HO115 := n0_; have HB := n1_; clear n0_ n1_; clear hb ho4) | ((with_reducible refine gate_dst (N := 9) rfl ?_); refine Kd.R_lit Kd.string _ 9 ?hg (N := 9) ?hd (xs := ([(⟨#[]⟩ : ByteArray), (⟨#[116, 105, 110]⟩ : ByteArray), (⟨#[116, 105, 110]⟩ : ByteArray), (⟨#[116, 105, 110, 110]⟩ : ByteArray), (⟨#[116, 105, 105]⟩ : ByteArray), (⟨#[116, 105, 105, 110]⟩ : ByteArray), (⟨#[116, 105, 105, 105, 109]⟩ : ByteArray), (⟨#[116, 105, 110, 110, 110]⟩ : ByteArray), (⟨#[116, 105, 109]⟩ : ByteArray), (⟨#[116, 109, 110]⟩ : ByteArray), (⟨#[116, 109, 110, 110]⟩ : ByteArray), (⟨#[116, 110]⟩ : ByteArray), (⟨#[116, 116, 110]⟩ : ByteArray), (⟨#[116, 116, 110]⟩ : ByteArray), (⟨#[116, 110, 110]⟩ : ByteArray), (⟨#[116, 105]⟩ : ByteArray), (⟨#[116, 105, 110]⟩ : ByteArray)] : List ByteArray)) (inner := [.string (⟨#[]⟩ : ByteArray), .string (⟨#[116, 105, 110]⟩ : ByteArray), .string (⟨#[116, 105, 110]⟩ : ByteArray), .string (⟨#[116, 105, 110, 110]⟩ : ByteArray), .string (⟨#[116, 105, 105]⟩ : ByteArray), .string (⟨#[116, 105, 105, 110]⟩ : ByteArray), .string (⟨#[116, 105, 105, 105, 109]⟩ : ByteArray), .string (⟨#[116, 105, 110, 110, 110]⟩ : ByteArray), .string (⟨#[116, 105, 109]⟩ : ByteArray), .string (⟨#[116, 109, 110]⟩ : ByteArray), .string (⟨#[116, 109, 110, 110]⟩ : ByteArray), .string (⟨#[116, 110]⟩ : ByteArray), .string (⟨#[116, 116, 110]⟩ : ByteArray), .string (⟨#[116, 116, 110]⟩ : ByteArray), .string (⟨#[116, 110, 110]⟩ : ByteArray), .string (⟨#[116, 105]⟩ : ByteArray), .string (⟨#[116, 105, 110]⟩ : ByteArray)]) (ok := fun _ => True) (okp := fun _ => True) ?hr ?hp (fun _ hk => hk) trivial (Below.refl _ _) (Nat.le_refl _) (by simp) ?_; (case hd => rfl); (case hg => rfl); (case hr => first | (go_simp; done) | (go_simp; rfl)); (case hp => exact (Reps.one (show Kd.M Kd.string _ _ _ (⟨#[]⟩ : ByteArray) [.string (⟨#[]⟩ : ByteArray)] from rfl) (Reps.one (show Kd.M Kd.string _ _ _ (⟨#[116, 105, 110]⟩ : ByteArray) [.string (⟨#[116, 105, 110]⟩ : ByteArray)] from rfl) (Reps.one (show Kd.M Kd.string _ _ _ (⟨#[116, 105, 110]⟩ : ByteArray) [.string (⟨#[116, 105, 110]⟩ : ByteArray)] from rfl) (Reps.one (show Kd.M Kd.string _ _ _ (⟨#[116, 105, 110, 110]⟩ : ByteArray) [.string (⟨#[116, 105, 110, 110]⟩ : ByteArray)] from rfl) (Reps.one (show Kd.M Kd.string _ _ _ (⟨#[116, 105, 105]⟩ : ByteArray) [.string (⟨#[116, 105, 105]⟩ : ByteArray)] from rfl) (Reps.one (show Kd.M Kd.string _ _ _ (⟨#[116, 105, 105, 110]⟩ : ByteArray) [.string (⟨#[116, 105, 105, 110]⟩ : ByteArray)] from rfl) (Reps.one (show Kd.M Kd.string _ _ _ (⟨#[116, 105, 105, 105, 109]⟩ : ByteArray) [.string (⟨#[116, 105, 105, 105, 109]⟩ : ByteArray)] from rfl) (Reps.one (show Kd.M Kd.string _ _ _ (⟨#[116, 105, 110, 110, 110]⟩ : ByteArray) [.string (⟨#[116, 105, 110, 110, 110]⟩ : ByteArray)] from rfl) (Reps.one (show Kd.M Kd.string _ _ _ (⟨#[116, 105, 109]⟩ : ByteArray) [.string (⟨#[116, 105, 109]⟩ : ByteArray)] from rfl) (Reps.one (show Kd.M Kd.string _ _ _ (⟨#[116, 109, 110]⟩ : ByteArray) [.string (⟨#[116, 109, 110]⟩ : ByteArray)] from rfl) (Reps.one (show Kd.M Kd.string _ _ _ (⟨#[116, 109, 110, 110]⟩ : ByteArray) [.string (⟨#[116, 109, 110, 110]⟩ : ByteArray)] from rfl) (Reps.one (show Kd.M Kd.string _ _ _ (⟨#[116, 110]⟩ : ByteArray) [.string (⟨#[116, 110]⟩ : ByteArray)] from rfl) (Reps.one (show Kd.M Kd.string _ _ _ (⟨#[116, 116, 110]⟩ : ByteArray) [.string (⟨#[116, 116, 110]⟩ : ByteArray)] from rfl) (Reps.one (show Kd.M Kd.string _ _ _ (⟨#[116, 116, 110]⟩ : ByteArray) [.string (⟨#[116, 116, 110]⟩ : ByteArray)] from rfl) (Reps.one (show Kd.M Kd.string _ _ _ (⟨#[116, 110, 110]⟩ : ByteArray) [.string (⟨#[116, 110, 110]⟩ : ByteArray)] from rfl) (Reps.one (show Kd.M Kd.string _ _ _ (⟨#[116, 105]⟩ : ByteArray) [.string (⟨#[116, 105]⟩ : ByteArray)] from rfl) (Reps.one (show Kd.M Kd.string _ _ _ (⟨#[116, 105, 110]⟩ : ByteArray) [.string (⟨#[116, 105, 110]⟩ : ByteArray)] from rfl) (Reps.none _ _))))))))))))))))))); intro v117 w5 ho6 hb hg_ hnew_; clear hg_ hnew_; (first | rw [← Ny116.out] at ho6 | (simp only [Int.reduceToNat] at ho6; rw [← Ny116.out] at ho6)); have n0_ := Aside0.mk (Kd.R_elder' (by (with_reducible repeat (first | apply Kd.R_alloc | apply Kd.R_drewN | apply Kd.R_drew)); exact HO115.out) (Kd.R_base ho6) hb); have n1_ := Aside0.mk (Kd.R_lower (Kd.R_new' ho6 (Kd.R_lt (by (with_reducible repeat (first | apply Kd.R_alloc | apply Kd.R_drewN | apply Kd.R_drew)); exact HO115.out))) (below_size (by repeat (first | (with_reducible first | exact HB.out | apply below_alloc | apply pw_below_drewN | apply below_drew1) | exact HB.out)))); have n2_ := Aside0.mk (below_step (by repeat (first | (with_reducible first | exact HB.out | apply below_alloc | apply pw_below_drewN | apply below_drew1) | exact HB.out)) hb); clear HO115; clear HB; have HO115 := n0_; have HO118 := n1_; have HB := n2_; clear n0_ n1_ n2_; clear hb ho6))
  repeat (go_quiet (first | ((with_reducible refine gate_dst (N := 8) rfl ?_); refine Kd.R_lit Kd.string _ 9 ?hg (N := 8) ?hd (xs := ([(⟨#[]⟩ : ByteArray), (⟨#[111, 112, 101, 110]⟩ : ByteArray), (⟨#[97, 99, 99, 101, 115, 115]⟩ : ByteArray), (⟨#[99, 114, 101, 97, 116, 101]⟩ : ByteArray), (⟨#[108, 105, 110, 107]⟩ : ByteArray), (⟨#[117, 110, 108, 105, 110, 107]⟩ : ByteArray), (⟨#[114, 101, 110, 97, 109, 101]⟩ : ByteArray), (⟨#[115, 101, 116, 97, 116, 116, 114]⟩ : ByteArray), (⟨#[101, 120, 101, 99]⟩ : ByteArray), (⟨#[109, 109, 97, 112]⟩ : ByteArray), (⟨#[109, 112, 114, 111, 116, 101, 99, 116]⟩ : ByteArray), (⟨#[102, 111, 114, 107]⟩ : ByteArray), (⟨#[107, 105, 108, 108]⟩ : ByteArray), (⟨#[112, 116, 114, 97, 99, 101]⟩ : ByteArray), (⟨#[115, 101, 116, 105, 100]⟩ : ByteArray), (⟨#[99, 104, 100, 105, 114]⟩ : ByteArray), (⟨#[103, 101, 116, 97, 116, 116, 114]⟩ : ByteArray)] : List ByteArray)) (inner := [.string (⟨#[]⟩ : ByteArray), .string (⟨#[111, 112, 101, 110]⟩ : ByteArray), .string (⟨#[97, 99, 99, 101, 115, 115]⟩ : ByteArray), .string (⟨#[99, 114, 101, 97, 116, 101]⟩ : ByteArray), .string (⟨#[108, 105, 110, 107]⟩ : ByteArray), .string (⟨#[117, 110, 108, 105, 110, 107]⟩ : ByteArray), .string (⟨#[114, 101, 110, 97, 109, 101]⟩ : ByteArray), .string (⟨#[115, 101, 116, 97, 116, 116, 114]⟩ : ByteArray), .string (⟨#[101, 120, 101, 99]⟩ : ByteArray), .string (⟨#[109, 109, 97, 112]⟩ : ByteArray), .string (⟨#[109, 112, 114, 111, 116, 101, 99, 116]⟩ : ByteArray), .string (⟨#[102, 111, 114, 107]⟩ : ByteArray), .string (⟨#[107, 105, 108, 108]⟩ : ByteArray), .string (⟨#[112, 116, 114, 97, 99, 101]⟩ : ByteArray), .string (⟨#[115, 101, 116, 105, 100]⟩ : ByteArray), .string (⟨#[99, 104, 100, 105, 114]⟩ : ByteArray), .string (⟨#[103, 101, 116, 97, 116, 116, 114]⟩ : ByteArray)]) (ok := fun _ => True) (okp := fun _ => True) ?hr ?hp (fun _ hk => hk) trivial (Below.refl _ _) (Nat.le_refl _) (by simp) ?_; (case hd => rfl); (case hg => rfl); (case hr => first | (go_simp; done) | (go_simp; rfl)); (case hp => exact (Reps.one (show Kd.M Kd.string _ _ _ (⟨#[]⟩ : ByteArray) [.string (⟨#[]⟩ : ByteArray)] from rfl) (Reps.one (show Kd.M Kd.string _ _ _ (⟨#[111, 112, 101, 110]⟩ : ByteArray) [.string (⟨#[111, 112, 101, 110]⟩ : ByteArray)] from rfl) (Reps.one (show Kd.M Kd.string _ _ _ (⟨#[97, 99, 99, 101, 115, 115]⟩ : ByteArray) [.string (⟨#[97, 99, 99, 101, 115, 115]⟩ : ByteArray)] from rfl) (Reps.one (show Kd.M Kd.string _ _ _ (⟨#[99, 114, 101, 97, 116, 101]⟩ : ByteArray) [.string (⟨#[99, 114, 101, 97, 116, 101]⟩ : ByteArray)] from rfl) (Reps.one (show Kd.M Kd.string _ _ _ (⟨#[108, 105, 110, 107]⟩ : ByteArray) [.string (⟨#[108, 105, 110, 107]⟩ : ByteArray)] from rfl) (Reps.one (show Kd.M Kd.string _ _ _ (⟨#[117, 110, 108, 105, 110, 107]⟩ : ByteArray) [.string (⟨#[117, 110, 108, 105, 110, 107]⟩ : ByteArray)] from rfl) (Reps.one (show Kd.M Kd.string _ _ _ (⟨#[114, 101, 110, 97, 109, 101]⟩ : ByteArray) [.string (⟨#[114, 101, 110, 97, 109, 101]⟩ : ByteArray)] from rfl) (Reps.one (show Kd.M Kd.string _ _ _ (⟨#[115, 101, 116, 97, 116, 116, 114]⟩ : ByteArray) [.string (⟨#[115, 101, 116, 97, 116, 116, 114]⟩ : ByteArray)] from rfl) (Reps.one (show Kd.M Kd.string _ _ _ (⟨#[101, 120, 101, 99]⟩ : ByteArray) [.string (⟨#[101, 120, 101, 99]⟩ : ByteArray)] from rfl) (Reps.one (show Kd.M Kd.string _ _ _ (⟨#[109, 109, 97, 112]⟩ : ByteArray) [.string (⟨#[109, 109, 97, 112]⟩ : ByteArray)] from rfl) (Reps.one (show Kd.M Kd.string _ _ _ (⟨#[109, 112, 114, 111, 116, 101, 99, 116]⟩ : ByteArray) [.string (⟨#[109, 112, 114, 111, 116, 101, 99, 116]⟩ : ByteArray)] from rfl) (Reps.one (show Kd.M Kd.string _ _ _ (⟨#[102, 111, 114, 107]⟩ : ByteArray) [.string (⟨#[102, 111, 114, 107]⟩ : ByteArray)] from rfl) (Reps.one (show Kd.M Kd.string _ _ _ (⟨#[107, 105, 108, 108]⟩ : ByteArray) [.string (⟨#[107, 105, 108, 108]⟩ : ByteArray)] from rfl) (Reps.one (show Kd.M Kd.string _ _ _ (⟨#[112, 116, 114, 97, 99, 101]⟩ : ByteArray) [.string (⟨#[112, 116, 114, 97, 99, 101]⟩ : ByteArray)] from rfl) (Reps.one (show Kd.M Kd.string _ _ _ (⟨#[115, 101, 116, 105, 100]⟩ : ByteArray) [.string (⟨#[115, 101, 116, 105, 100]⟩ : ByteArray)] from rfl) (Reps.one (show Kd.M Kd.string _ _ _ (⟨#[99, 104, 100, 105, 114]⟩ : ByteArray) [.string (⟨#[99, 104, 100, 105, 114]⟩ : ByteArray)] from rfl) (Reps.one (show Kd.M Kd.string _ _ _ (⟨#[103, 101, 116, 97, 116, 116, 114]⟩ : ByteArray) [.string (⟨#[103, 101, 116, 97, 116, 116, 114]⟩ : ByteArray)] from rfl) (Reps.none _ _))))))))))))))))))); intro v114 w3 ho4 hb hg_ hnew_; clear hg_ hnew_; (first | rw [← Ny113.out] at ho4 | (simp only [Int.reduceToNat] at ho4; rw [← Ny113.out] at ho4)); have n0_ := Aside0.mk (Kd.R_lower ho4 (below_size (by repeat (first | (with_reducible first | exact HB.out | apply below_alloc | apply pw_below_drewN | apply below_drew1) | exact HB.out)))); have n1_ := Aside0.mk (below_step (by repeat (first | (with_reducible first | exact HB.out | apply below_alloc | apply pw_below_drewN | apply below_drew1) | exact HB.out)) hb); clear HB; have HO115 := n0_; have HB := n1_; clear n0_ n1_; clear hb ho4) | ((with_reducible refine gate_dst (N := 9) rfl ?_); refine Kd.R_lit Kd.string _ 9 ?hg (N := 9) ?hd (xs := ([(⟨#[]⟩ : ByteArray), (⟨#[116, 105, 110]⟩ : ByteArray), (⟨#[116, 105, 110]⟩ : ByteArray), (⟨#[116, 105, 110, 110]⟩ : ByteArray), (⟨#[116, 105, 105]⟩ : ByteArray), (⟨#[116, 105, 105, 110]⟩ : ByteArray), (⟨#[116, 105, 105, 105, 109]⟩ : ByteArray), (⟨#[116, 105, 110, 110, 110]⟩ : ByteArray), (⟨#[116, 105, 109]⟩ : ByteArray), (⟨#[116, 109, 110]⟩ : ByteArray), (⟨#[116, 109, 110, 110]⟩ : ByteArray), (⟨#[116, 110]⟩ : ByteArray), (⟨#[116, 116, 110]⟩ : ByteArray), (⟨#[116, 116, 110]⟩ : ByteArray), (⟨#[116, 110, 110]⟩ : ByteArray), (⟨#[116, 105]⟩ : ByteArray), (⟨#[116, 105, 110]⟩ : ByteArray)] : List ByteArray)) (inner := [.string (⟨#[]⟩ : ByteArray), .string (⟨#[116, 105, 110]⟩ : ByteArray), .string (⟨#[116, 105, 110]⟩ : ByteArray), .string (⟨#[116, 105, 110, 110]⟩ : ByteArray), .string (⟨#[116, 105, 105]⟩ : ByteArray), .string (⟨#[116, 105, 105, 110]⟩ : ByteArray), .string (⟨#[116, 105, 105, 105, 109]⟩ : ByteArray), .string (⟨#[116, 105, 110, 110, 110]⟩ : ByteArray), .string (⟨#[116, 105, 109]⟩ : ByteArray), .string (⟨#[116, 109, 110]⟩ : ByteArray), .string (⟨#[116, 109, 110, 110]⟩ : ByteArray), .string (⟨#[116, 110]⟩ : ByteArray), .string (⟨#[116, 116, 110]⟩ : ByteArray), .string (⟨#[116, 116, 110]⟩ : ByteArray), .string (⟨#[116, 110, 110]⟩ : ByteArray), .string (⟨#[116, 105]⟩ : ByteArray), .string (⟨#[116, 105, 110]⟩ : ByteArray)]) (ok := fun _ => True) (okp := fun _ => True) ?hr ?hp (fun _ hk => hk) trivial (Below.refl _ _) (Nat.le_refl _) (by simp) ?_; (case hd => rfl); (case hg => rfl); (case hr => first | (go_simp; done) | (go_simp; rfl)); (case hp => exact (Reps.one (show Kd.M Kd.string _ _ _ (⟨#[]⟩ : ByteArray) [.string (⟨#[]⟩ : ByteArray)] from rfl) (Reps.one (show Kd.M Kd.string _ _ _ (⟨#[116, 105, 110]⟩ : ByteArray) [.string (⟨#[116, 105, 110]⟩ : ByteArray)] from rfl) (Reps.one (show Kd.M Kd.string _ _ _ (⟨#[116, 105, 110]⟩ : ByteArray) [.string (⟨#[116, 105, 110]⟩ : ByteArray)] from rfl) (Reps.one (show Kd.M Kd.string _ _ _ (⟨#[116, 105, 110, 110]⟩ : ByteArray) [.string (⟨#[116, 105, 110, 110]⟩ : ByteArray)] from rfl) (Reps.one (show Kd.M Kd.string _ _ _ (⟨#[116, 105, 105]⟩ : ByteArray) [.string (⟨#[116, 105, 105]⟩ : ByteArray)] from rfl) (Reps.one (show Kd.M Kd.string _ _ _ (⟨#[116, 105, 105, 110]⟩ : ByteArray) [.string (⟨#[116, 105, 105, 110]⟩ : ByteArray)] from rfl) (Reps.one (show Kd.M Kd.string _ _ _ (⟨#[116, 105, 105, 105, 109]⟩ : ByteArray) [.string (⟨#[116, 105, 105, 105, 109]⟩ : ByteArray)] from rfl) (Reps.one (show Kd.M Kd.string _ _ _ (⟨#[116, 105, 110, 110, 110]⟩ : ByteArray) [.string (⟨#[116, 105, 110, 110, 110]⟩ : ByteArray)] from rfl) (Reps.one (show Kd.M Kd.string _ _ _ (⟨#[116, 105, 109]⟩ : ByteArray) [.string (⟨#[116, 105, 109]⟩ : ByteArray)] from rfl) (Reps.one (show Kd.M Kd.string _ _ _ (⟨#[116, 109, 110]⟩ : ByteArray) [.string (⟨#[116, 109, 110]⟩ : ByteArray)] from rfl) (Reps.one (show Kd.M Kd.string _ _ _ (⟨#[116, 109, 110, 110]⟩ : ByteArray) [.string (⟨#[116, 109, 110, 110]⟩ : ByteArray)] from rfl) (Reps.one (show Kd.M Kd.string _ _ _ (⟨#[116, 110]⟩ : ByteArray) [.string (⟨#[116, 110]⟩ : ByteArray)] from rfl) (Reps.one (show Kd.M Kd.string _ _ _ (⟨#[116, 116, 110]⟩ : ByteArray) [.string (⟨#[116, 116, 110]⟩ : ByteArray)] from rfl) (Reps.one (show Kd.M Kd.string _ _ _ (⟨#[116, 116, 110]⟩ : ByteArray) [.string (⟨#[116, 116, 110]⟩ : ByteArray)] from rfl) (Reps.one (show Kd.M Kd.string _ _ _ (⟨#[116, 110, 110]⟩ : ByteArray) [.string (⟨#[116, 110, 110]⟩ : ByteArray)] from rfl) (Reps.one (show Kd.M Kd.string _ _ _ (⟨#[116, 105]⟩ : ByteArray) [.string (⟨#[116, 105]⟩ : ByteArray)] from rfl) (Reps.one (show Kd.M Kd.string _ _ _ (⟨#[116, 105, 110]⟩ : ByteArray) [.string (⟨#[116, 105, 110]⟩ : ByteArray)] from rfl) (Reps.none _ _))))))))))))))))))); intro v117 w5 ho6 hb hg_ hnew_; clear hg_ hnew_; (first | rw [← Ny116.out] at ho6 | (simp only [Int.reduceToNat] at ho6; rw [← Ny116.out] at ho6)); have n0_ := Aside0.mk (Kd.R_elder' (by (with_reducible repeat (first | apply Kd.R_alloc | apply Kd.R_drewN | apply Kd.R_drew)); exact HO115.out) (Kd.R_base ho6) hb); have n1_ := Aside0.mk (Kd.R_lower (Kd.R_new' ho6 (Kd.R_lt (by (with_reducible repeat (first | apply Kd.R_alloc | apply Kd.R_drewN | apply Kd.R_drew)); exact HO115.out))) (below_size (by repeat (first | (with_reducible first | exact HB.out | apply below_alloc | apply pw_below_drewN | apply below_drew1) | exact HB.out)))); have n2_ := Aside0.mk (below_step (by repeat (first | (with_reducible first | exact HB.out | apply below_alloc | apply pw_below_drewN | apply below_drew1) | exact HB.out)) hb); clear HO115; clear HB; have HO115 := n0_; have HO118 := n1_; have HB := n2_; clear n0_ n1_ n2_; clear hb ho6)); go_upto_region 3 with (first | ((with_reducible refine gate_dst (N := 8) rfl ?_); refine Kd.R_lit Kd.string _ 9 ?hg (N := 8) ?hd (xs := ([(⟨#[]⟩ : ByteArray), (⟨#[111, 112, 101, 110]⟩ : ByteArray), (⟨#[97, 99, 99, 101, 115, 115]⟩ : ByteArray), (⟨#[99, 114, 101, 97, 116, 101]⟩ : ByteArray), (⟨#[108, 105, 110, 107]⟩ : ByteArray), (⟨#[117, 110, 108, 105, 110, 107]⟩ : ByteArray), (⟨#[114, 101, 110, 97, 109, 101]⟩ : ByteArray), (⟨#[115, 101, 116, 97, 116, 116, 114]⟩ : ByteArray), (⟨#[101, 120, 101, 99]⟩ : ByteArray), (⟨#[109, 109, 97, 112]⟩ : ByteArray), (⟨#[109, 112, 114, 111, 116, 101, 99, 116]⟩ : ByteArray), (⟨#[102, 111, 114, 107]⟩ : ByteArray), (⟨#[107, 105, 108, 108]⟩ : ByteArray), (⟨#[112, 116, 114, 97, 99, 101]⟩ : ByteArray), (⟨#[115, 101, 116, 105, 100]⟩ : ByteArray), (⟨#[99, 104, 100, 105, 114]⟩ : ByteArray), (⟨#[103, 101, 116, 97, 116, 116, 114]⟩ : ByteArray)] : List ByteArray)) (inner := [.string (⟨#[]⟩ : ByteArray), .string (⟨#[111, 112, 101, 110]⟩ : ByteArray), .string (⟨#[97, 99, 99, 101, 115, 115]⟩ : ByteArray), .string (⟨#[99, 114, 101, 97, 116, 101]⟩ : ByteArray), .string (⟨#[108, 105, 110, 107]⟩ : ByteArray), .string (⟨#[117, 110, 108, 105, 110, 107]⟩ : ByteArray), .string (⟨#[114, 101, 110, 97, 109, 101]⟩ : ByteArray), .string (⟨#[115, 101, 116, 97, 116, 116, 114]⟩ : ByteArray), .string (⟨#[101, 120, 101, 99]⟩ : ByteArray), .string (⟨#[109, 109, 97, 112]⟩ : ByteArray), .string (⟨#[109, 112, 114, 111, 116, 101, 99, 116]⟩ : ByteArray), .string (⟨#[102, 111, 114, 107]⟩ : ByteArray), .string (⟨#[107, 105, 108, 108]⟩ : ByteArray), .string (⟨#[112, 116, 114, 97, 99, 101]⟩ : ByteArray), .string (⟨#[115, 101, 116, 105, 100]⟩ : ByteArray), .string (⟨#[99, 104, 100, 105, 114]⟩ : ByteArray), .string (⟨#[103, 101, 116, 97, 116, 116, 114]⟩ : ByteArray)]) (ok := fun _ => True) (okp := fun _ => True) ?hr ?hp (fun _ hk => hk) trivial (Below.refl _ _) (Nat.le_refl _) (by simp) ?_; (case hd => rfl); (case hg => rfl); (case hr => first | (go_simp; done) | (go_simp; rfl)); (case hp => exact (Reps.one (show Kd.M Kd.string _ _ _ (⟨#[]⟩ : ByteArray) [.string (⟨#[]⟩ : ByteArray)] from rfl) (Reps.one (show Kd.M Kd.string _ _ _ (⟨#[111, 112, 101, 110]⟩ : ByteArray) [.string (⟨#[111, 112, 101, 110]⟩ : ByteArray)] from rfl) (Reps.one (show Kd.M Kd.string _ _ _ (⟨#[97, 99, 99, 101, 115, 115]⟩ : ByteArray) [.string (⟨#[97, 99, 99, 101, 115, 115]⟩ : ByteArray)] from rfl) (Reps.one (show Kd.M Kd.string _ _ _ (⟨#[99, 114, 101, 97, 116, 101]⟩ : ByteArray) [.string (⟨#[99, 114, 101, 97, 116, 101]⟩ : ByteArray)] from rfl) (Reps.one (show Kd.M Kd.string _ _ _ (⟨#[108, 105, 110, 107]⟩ : ByteArray) [.string (⟨#[108, 105, 110, 107]⟩ : ByteArray)] from rfl) (Reps.one (show Kd.M Kd.string _ _ _ (⟨#[117, 110, 108, 105, 110, 107]⟩ : ByteArray) [.string (⟨#[117, 110, 108, 105, 110, 107]⟩ : ByteArray)] from rfl) (Reps.one (show Kd.M Kd.string _ _ _ (⟨#[114, 101, 110, 97, 109, 101]⟩ : ByteArray) [.string (⟨#[114, 101, 110, 97, 109, 101]⟩ : ByteArray)] from rfl) (Reps.one (show Kd.M Kd.string _ _ _ (⟨#[115, 101, 116, 97, 116, 116, 114]⟩ : ByteArray) [.string (⟨#[115, 101, 116, 97, 116, 116, 114]⟩ : ByteArray)] from rfl) (Reps.one (show Kd.M Kd.string _ _ _ (⟨#[101, 120, 101, 99]⟩ : ByteArray) [.string (⟨#[101, 120, 101, 99]⟩ : ByteArray)] from rfl) (Reps.one (show Kd.M Kd.string _ _ _ (⟨#[109, 109, 97, 112]⟩ : ByteArray) [.string (⟨#[109, 109, 97, 112]⟩ : ByteArray)] from rfl) (Reps.one (show Kd.M Kd.string _ _ _ (⟨#[109, 112, 114, 111, 116, 101, 99, 116]⟩ : ByteArray) [.string (⟨#[109, 112, 114, 111, 116, 101, 99, 116]⟩ : ByteArray)] from rfl) (Reps.one (show Kd.M Kd.string _ _ _ (⟨#[102, 111, 114, 107]⟩ : ByteArray) [.string (⟨#[102, 111, 114, 107]⟩ : ByteArray)] from rfl) (Reps.one (show Kd.M Kd.string _ _ _ (⟨#[107, 105, 108, 108]⟩ : ByteArray) [.string (⟨#[107, 105, 108, 108]⟩ : ByteArray)] from rfl) (Reps.one (show Kd.M Kd.string _ _ _ (⟨#[112, 116, 114, 97, 99, 101]⟩ : ByteArray) [.string (⟨#[112, 116, 114, 97, 99, 101]⟩ : ByteArray)] from rfl) (Reps.one (show Kd.M Kd.string _ _ _ (⟨#[115, 101, 116, 105, 100]⟩ : ByteArray) [.string (⟨#[115, 101, 116, 105, 100]⟩ : ByteArray)] from rfl) (Reps.one (show Kd.M Kd.string _ _ _ (⟨#[99, 104, 100, 105, 114]⟩ : ByteArray) [.string (⟨#[99, 104, 100, 105, 114]⟩ : ByteArray)] from rfl) (Reps.one (show Kd.M Kd.string _ _ _ (⟨#[103, 101, 116, 97, 116, 116, 114]⟩ : ByteArray) [.string (⟨#[103, 101, 116, 97, 116, 116, 114]⟩ : ByteArray)] from rfl) (Reps.none _ _))))))))))))))))))); intro v114 w3 ho4 hb hg_ hnew_; clear hg_ hnew_; (first | rw [← Ny113.out] at ho4 | (simp only [Int.reduceToNat] at ho4; rw [← Ny113.out] at ho4)); have n0_ := Aside0.mk (Kd.R_lower ho4 (below_size (by repeat (first | (with_reducible first | exact HB.out | apply below_alloc | apply pw_below_drewN | apply below_drew1) | exact HB.out)))); have n1_ := Aside0.mk (below_step (by repeat (first | (with_reducible first | exact HB.out | apply below_alloc | apply pw_below_drewN | apply below_drew1) | exact HB.out)) hb); clear HB; have HO115 := n0_; have HB := n1_; clear n0_ n1_; clear hb ho4) | ((with_reducible refine gate_dst (N := 9) rfl ?_); refine Kd.R_lit Kd.string _ 9 ?hg (N := 9) ?hd (xs := ([(⟨#[]⟩ : ByteArray), (⟨#[116, 105, 110]⟩ : ByteArray), (⟨#[116, 105, 110]⟩ : ByteArray), (⟨#[116, 105, 110, 110]⟩ : ByteArray), (⟨#[116, 105, 105]⟩ : ByteArray), (⟨#[116, 105, 105, 110]⟩ : ByteArray), (⟨#[116, 105, 105, 105, 109]⟩ : ByteArray), (⟨#[116, 105, 110, 110, 110]⟩ : ByteArray), (⟨#[116, 105, 109]⟩ : ByteArray), (⟨#[116, 109, 110]⟩ : ByteArray), (⟨#[116, 109, 110, 110]⟩ : ByteArray), (⟨#[116, 110]⟩ : ByteArray), (⟨#[116, 116, 110]⟩ : ByteArray), (⟨#[116, 116, 110]⟩ : ByteArray), (⟨#[116, 110, 110]⟩ : ByteArray), (⟨#[116, 105]⟩ : ByteArray), (⟨#[116, 105, 110]⟩ : ByteArray)] : List ByteArray)) (inner := [.string (⟨#[]⟩ : ByteArray), .string (⟨#[116, 105, 110]⟩ : ByteArray), .string (⟨#[116, 105, 110]⟩ : ByteArray), .string (⟨#[116, 105, 110, 110]⟩ : ByteArray), .string (⟨#[116, 105, 105]⟩ : ByteArray), .string (⟨#[116, 105, 105, 110]⟩ : ByteArray), .string (⟨#[116, 105, 105, 105, 109]⟩ : ByteArray), .string (⟨#[116, 105, 110, 110, 110]⟩ : ByteArray), .string (⟨#[116, 105, 109]⟩ : ByteArray), .string (⟨#[116, 109, 110]⟩ : ByteArray), .string (⟨#[116, 109, 110, 110]⟩ : ByteArray), .string (⟨#[116, 110]⟩ : ByteArray), .string (⟨#[116, 116, 110]⟩ : ByteArray), .string (⟨#[116, 116, 110]⟩ : ByteArray), .string (⟨#[116, 110, 110]⟩ : ByteArray), .string (⟨#[116, 105]⟩ : ByteArray), .string (⟨#[116, 105, 110]⟩ : ByteArray)]) (ok := fun _ => True) (okp := fun _ => True) ?hr ?hp (fun _ hk => hk) trivial (Below.refl _ _) (Nat.le_refl _) (by simp) ?_; (case hd => rfl); (case hg => rfl); (case hr => first | (go_simp; done) | (go_simp; rfl)); (case hp => exact (Reps.one (show Kd.M Kd.string _ _ _ (⟨#[]⟩ : ByteArray) [.string (⟨#[]⟩ : ByteArray)] from rfl) (Reps.one (show Kd.M Kd.string _ _ _ (⟨#[116, 105, 110]⟩ : ByteArray) [.string (⟨#[116, 105, 110]⟩ : ByteArray)] from rfl) (Reps.one (show Kd.M Kd.string _ _ _ (⟨#[116, 105, 110]⟩ : ByteArray) [.string (⟨#[116, 105, 110]⟩ : ByteArray)] from rfl) (Reps.one (show Kd.M Kd.string _ _ _ (⟨#[116, 105, 110, 110]⟩ : ByteArray) [.string (⟨#[116, 105, 110, 110]⟩ : ByteArray)] from rfl) (Reps.one (show Kd.M Kd.string _ _ _ (⟨#[116, 105, 105]⟩ : ByteArray) [.string (⟨#[116, 105, 105]⟩ : ByteArray)] from rfl) (Reps.one (show Kd.M Kd.string _ _ _ (⟨#[116, 105, 105, 110]⟩ : ByteArray) [.string (⟨#[116, 105, 105, 110]⟩ : ByteArray)] from rfl) (Reps.one (show Kd.M Kd.string _ _ _ (⟨#[116, 105, 105, 105, 109]⟩ : ByteArray) [.string (⟨#[116, 105, 105, 105, 109]⟩ : ByteArray)] from rfl) (Reps.one (show Kd.M Kd.string _ _ _ (⟨#[116, 105, 110, 110, 110]⟩ : ByteArray) [.string (⟨#[116, 105, 110, 110, 110]⟩ : ByteArray)] from rfl) (Reps.one (show Kd.M Kd.string _ _ _ (⟨#[116, 105, 109]⟩ : ByteArray) [.string (⟨#[116, 105, 109]⟩ : ByteArray)] from rfl) (Reps.one (show Kd.M Kd.string _ _ _ (⟨#[116, 109, 110]⟩ : ByteArray) [.string (⟨#[116, 109, 110]⟩ : ByteArray)] from rfl) (Reps.one (show Kd.M Kd.string _ _ _ (⟨#[116, 109, 110, 110]⟩ : ByteArray) [.string (⟨#[116, 109, 110, 110]⟩ : ByteArray)] from rfl) (Reps.one (show Kd.M Kd.string _ _ _ (⟨#[116, 110]⟩ : ByteArray) [.string (⟨#[116, 110]⟩ : ByteArray)] from rfl) (Reps.one (show Kd.M Kd.string _ _ _ (⟨#[116, 116, 110]⟩ : ByteArray) [.string (⟨#[116, 116, 110]⟩ : ByteArray)] from rfl) (Reps.one (show Kd.M Kd.string _ _ _ (⟨#[116, 116, 110]⟩ : ByteArray) [.string (⟨#[116, 116, 110]⟩ : ByteArray)] from rfl) (Reps.one (show Kd.M Kd.string _ _ _ (⟨#[116, 110, 110]⟩ : ByteArray) [.string (⟨#[116, 110, 110]⟩ : ByteArray)] from rfl) (Reps.one (show Kd.M Kd.string _ _ _ (⟨#[116, 105]⟩ : ByteArray) [.string (⟨#[116, 105]⟩ : ByteArray)] from rfl) (Reps.one (show Kd.M Kd.string _ _ _ (⟨#[116, 105, 110]⟩ : ByteArray) [.string (⟨#[116, 105, 110]⟩ : ByteArray)] from rfl) (Reps.none _ _))))))))))))))))))); intro v117 w5 ho6 hb hg_ hnew_; clear hg_ hnew_; (first | rw [← Ny116.out] at ho6 | (simp only [Int.reduceToNat] at ho6; rw [← Ny116.out] at ho6)); have n0_ := Aside0.mk (Kd.R_elder' (by (with_reducible repeat (first | apply Kd.R_alloc | apply Kd.R_drewN | apply Kd.R_drew)); exact HO115.out) (Kd.R_base ho6) hb); have n1_ := Aside0.mk (Kd.R_lower (Kd.R_new' ho6 (Kd.R_lt (by (with_reducible repeat (first | apply Kd.R_alloc | apply Kd.R_drewN | apply Kd.R_drew)); exact HO115.out))) (below_size (by repeat (first | (with_reducible first | exact HB.out | apply below_alloc | apply pw_below_drewN | apply below_drew1) | exact HB.out)))); have n2_ := Aside0.mk (below_step (by repeat (first | (with_reducible first | exact HB.out | apply below_alloc | apply pw_below_drewN | apply below_drew1) | exact HB.out)) hb); clear HO115; clear HB; have HO115 := n0_; have HO118 := n1_; have HB := n2_; clear n0_ n1_ n2_; clear hb ho6)))
  (try simp only [Act.put, List.setIfInBounds_toArray, List.set_cons_zero, List.set_cons_succ])
  go_cut [15] (fun v15 wc => ∃ (kq : Nat) (x15_1 : Bool), v15 = .bool x15_1 ∧ Aside0 (halberdref15_Row.j0 kq a0 y113 y116 x15_1 = some (r1, r2, r3)) ∧ Aside0 (kq ≤ k) ∧ Aside0 (Kd.R Kd.string 9 wc w.heap.size (fun k_ => some k_ ≠ (v117 : Value).ownBlock) v114 y113) ∧ Aside0 (Kd.R Kd.string 9 wc w.heap.size (fun k_ => some k_ ≠ (v114 : Value).ownBlock) v117 y116) ∧ Aside0 (Below w.heap.size w wc))
  case first =>
    have H := HC2.out
    clear HC2
    by_cases c7 : a0 < 1
    · rw [if_pos c7] at H
      have c7b0 : decide (a0 < 1) = true := decide_eq_true c7
      clear c7
      (first | rw [c7b0] | (simp only [i64_w, i32_w]; rw [c7b0]) | skip)
      have H' := Aside0.mk H
      clear H
      go_wp2
      repeat (go_quiet (fail); try go_wp2)
      go_meet
      case rel => exact ⟨_, (true), (by first | rfl | (simp; done) | (simp [*]; done)), H', ⟨by first | omega | exact Nat.le_refl _⟩, ⟨by (with_reducible repeat (first | apply Kd.R_alloc | apply Kd.R_drewN | apply Kd.R_drew)); exact Kd.R_mono HO115.out (fun _ hk => hk.2)⟩, ⟨by (with_reducible repeat (first | apply Kd.R_alloc | apply Kd.R_drewN | apply Kd.R_drew)); exact Kd.R_mono HO118.out (fun _ hk => hk.2)⟩, ⟨by repeat (first | (with_reducible first | exact HB.out | apply below_alloc | apply pw_below_drewN | apply below_drew1) | exact HB.out)⟩⟩
    · rw [if_neg c7] at H
      have c7b0 : decide (a0 < 1) = false := decide_eq_false c7
      clear c7
      (first | rw [c7b0] | (simp only [i64_w, i32_w]; rw [c7b0]) | skip)
      have H' := Aside0.mk H
      clear H
      go_wp2
      repeat (go_quiet (fail); try go_wp2)
      go_meet
      case rel => exact ⟨_, (decide (a0 > 16)), (by first | rfl | (simp; done) | (simp [*]; done)), H', ⟨by first | omega | exact Nat.le_refl _⟩, ⟨by (with_reducible repeat (first | apply Kd.R_alloc | apply Kd.R_drewN | apply Kd.R_drew)); exact Kd.R_mono HO115.out (fun _ hk => hk.2)⟩, ⟨by (with_reducible repeat (first | apply Kd.R_alloc | apply Kd.R_drewN | apply Kd.R_drew)); exact Kd.R_mono HO118.out (fun _ hk => hk.2)⟩, ⟨by repeat (first | (with_reducible first | exact HB.out | apply below_alloc | apply pw_below_drewN | apply below_drew1) | exact HB.out)⟩⟩
  case rest =>
    clear HC2
    try clear p2
    try clear c3
    try clear c7
    try clear c7b0
    obtain ⟨kq, x15_1, rfl, HA, HJ1, HO_5, HO_6, HB⟩ := hcut
    cases kq with
    | zero => exact absurd HA.out (by simp [halberdref15_Row.j0])
    | succ kj1 =>
      have H := HA.out
      clear HA
      simp only [halberdref15_Row.j0] at H
      by_cases c8 : x15_1 = true
      · subst c8
        have H1 : (some ((⟨#[]⟩ : ByteArray), (⟨#[]⟩ : ByteArray), 0)) = some (r1, r2, r3) := by rw [if_pos rfl] at H; exact H
        clear H
        have H := H1
        clear H1
        simp only [Option.some.injEq, Prod.mk.injEq] at H
        obtain ⟨rfl, rfl, rfl⟩ := H
        go_wp2
        repeat (go_quiet (fail); try go_wp2)
        go_ret3
        exact ⟨by first | rfl | (simp [errW_none, errW_some] <;> rfl) | (simp [*, errW_none, errW_some] <;> rfl), by repeat (first | (with_reducible first | exact HB.out | apply below_alloc | apply pw_below_drewN | apply below_drew1) | exact HB.out)⟩
      · replace c8 := Bool.eq_false_iff.mpr c8
        subst c8
        have H1 : (if a0 = 11 then (if a0 ≥ 12 then (if a0 ≤ 14 then (if 0 ≤ a0 then (if a0 < (y113.length : Int) then (if a0 < (y116.length : Int) then (some (rdOf ByteArray.empty y113 a0, rdOf ByteArray.empty y116 a0, 1)) else (none)) else (none)) else (none)) else (if 0 ≤ a0 then (if a0 < (y113.length : Int) then (if a0 < (y116.length : Int) then (some (rdOf ByteArray.empty y113 a0, rdOf ByteArray.empty y116 a0, 12)) else (none)) else (none)) else (none))) else (if 0 ≤ a0 then (if a0 < (y113.length : Int) then (if a0 < (y116.length : Int) then (some (rdOf ByteArray.empty y113 a0, rdOf ByteArray.empty y116 a0, 12)) else (none)) else (none)) else (none))) else (if a0 ≥ 12 then (if a0 ≤ 14 then (if 0 ≤ a0 then (if a0 < (y113.length : Int) then (if a0 < (y116.length : Int) then (some (rdOf ByteArray.empty y113 a0, rdOf ByteArray.empty y116 a0, 1)) else (none)) else (none)) else (none)) else (if 0 ≤ a0 then (if a0 < (y113.length : Int) then (if a0 < (y116.length : Int) then (some (rdOf ByteArray.empty y113 a0, rdOf ByteArray.empty y116 a0, 40)) else (none)) else (none)) else (none))) else (if 0 ≤ a0 then (if a0 < (y113.length : Int) then (if a0 < (y116.length : Int) then (some (rdOf ByteArray.empty y113 a0, rdOf ByteArray.empty y116 a0, 40)) else (none)) else (none)) else (none)))) = some (r1, r2, r3) := by rw [if_neg (show ¬ (false = true) by decide)] at H; exact H
        clear H
        have H := H1
        clear H1
        by_cases c9 : a0 = 11
        · rw [if_pos c9] at H
          have c9b0 : (a0 == 11) = true := beq_iff_eq.mpr c9
          have c9b1 : (a0 != 11) = false := bne_eq_false_iff_eq.mpr c9
          clear c9
          by_cases c10 : a0 ≥ 12
          · rw [if_pos c10] at H
            have c10b0 : decide (12 ≤ a0) = true := decide_eq_true c10
            clear c10
            by_cases c11 : a0 ≤ 14
            · rw [if_pos c11] at H
              have c11b0 : decide (a0 ≤ 14) = true := decide_eq_true c11
              clear c11
              by_cases c12 : 0 ≤ a0
              · rw [if_pos c12] at H
                have c12b0 : decide (0 ≤ a0) = true := decide_eq_true c12
                clear c12
                by_cases c13 : a0 < (y113.length : Int)
                · rw [if_pos c13] at H
                  have c13b0 : decide (a0 < (y113.length : Int)) = true := decide_eq_true c13
                  clear c13
                  by_cases c14 : a0 < (y116.length : Int)
                  · rw [if_pos c14] at H
                    have c14b0 : decide (a0 < (y116.length : Int)) = true := decide_eq_true c14
                    clear c14
                    simp only [Option.some.injEq, Prod.mk.injEq] at H
                    obtain ⟨rfl, rfl, rfl⟩ := H
                    obtain ⟨Ao15, co15, eo15⟩ := Kd.R_slice HO_5.out
                    subst eo15
                    have p119 : 0 ≤ (a0 : Int) := of_decide_eq_true (by first | (with_reducible assumption) | assumption)
                    have q119 : a0 < (y113.length : Int) := of_decide_eq_true (by first | (with_reducible assumption) | assumption)
                    obtain ⟨ad119, e119, hx119_0⟩ := Kd.at_string (Kd.R_reads' HO_5.out).2.2 a0 p119 q119
                    cases e119
                    replace p119 := eq_true p119
                    replace q119 := eq_true q119
                    obtain ⟨Ao16, co16, eo16⟩ := Kd.R_slice HO_6.out
                    subst eo16
                    have p120 : 0 ≤ (a0 : Int) := of_decide_eq_true (by first | (with_reducible assumption) | assumption)
                    have q120 : a0 < (y116.length : Int) := of_decide_eq_true (by first | (with_reducible assumption) | assumption)
                    obtain ⟨ad120, e120, hx120_0⟩ := Kd.at_string (Kd.R_reads' HO_6.out).2.2 a0 p120 q120
                    cases e120
                    replace p120 := eq_true p120
                    replace q120 := eq_true q120
                    go_wp2
                    repeat (go_quiet (fail); try go_wp2)
                    go_ret3
                    exact ⟨by first | rfl | (simp [errW_none, errW_some] <;> rfl) | (simp [*, errW_none, errW_some] <;> rfl), by repeat (first | (with_reducible first | exact HB.out | apply below_alloc | apply pw_below_drewN | apply below_drew1) | exact HB.out)⟩
                  · rw [if_neg c14] at H
                    exact absurd H (by simp)
                · rw [if_neg c13] at H
                  exact absurd H (by simp)
              · rw [if_neg c12] at H
                exact absurd H (by simp)
            · rw [if_neg c11] at H
              have c11b0 : decide (a0 ≤ 14) = false := decide_eq_false c11
              clear c11
              by_cases c17 : 0 ≤ a0
              · rw [if_pos c17] at H
                have c17b0 : decide (0 ≤ a0) = true := decide_eq_true c17
                clear c17
                by_cases c18 : a0 < (y113.length : Int)
                · rw [if_pos c18] at H
                  have c18b0 : decide (a0 < (y113.length : Int)) = true := decide_eq_true c18
                  clear c18
                  by_cases c19 : a0 < (y116.length : Int)
                  · rw [if_pos c19] at H
                    have c19b0 : decide (a0 < (y116.length : Int)) = true := decide_eq_true c19
                    clear c19
                    simp only [Option.some.injEq, Prod.mk.injEq] at H
                    obtain ⟨rfl, rfl, rfl⟩ := H
                    obtain ⟨Ao20, co20, eo20⟩ := Kd.R_slice HO_5.out
                    subst eo20
                    have p121 : 0 ≤ (a0 : Int) := of_decide_eq_true (by first | (with_reducible assumption) | assumption)
                    have q121 : a0 < (y113.length : Int) := of_decide_eq_true (by first | (with_reducible assumption) | assumption)
                    obtain ⟨ad121, e121, hx121_0⟩ := Kd.at_string (Kd.R_reads' HO_5.out).2.2 a0 p121 q121
                    cases e121
                    replace p121 := eq_true p121
                    replace q121 := eq_true q121
                    obtain ⟨Ao21, co21, eo21⟩ := Kd.R_slice HO_6.out
                    subst eo21
                    have p122 : 0 ≤ (a0 : Int) := of_decide_eq_true (by first | (with_reducible assumption) | assumption)
                    have q122 : a0 < (y116.length : Int) := of_decide_eq_true (by first | (with_reducible assumption) | assumption)
                    obtain ⟨ad122, e122, hx122_0⟩ := Kd.at_string (Kd.R_reads' HO_6.out).2.2 a0 p122 q122
                    cases e122
                    replace p122 := eq_true p122
                    replace q122 := eq_true q122
                    go_wp2
                    repeat (go_quiet (fail); try go_wp2)
                    go_ret3
                    exact ⟨by first | rfl | (simp [errW_none, errW_some] <;> rfl) | (simp [*, errW_none, errW_some] <;> rfl), by repeat (first | (with_reducible first | exact HB.out | apply below_alloc | apply pw_below_drewN | apply below_drew1) | exact HB.out)⟩
                  · rw [if_neg c19] at H
                    exact absurd H (by simp)
                · rw [if_neg c18] at H
                  exact absurd H (by simp)
              · rw [if_neg c17] at H
                exact absurd H (by simp)
          · rw [if_neg c10] at H
            have c10b0 : decide (12 ≤ a0) = false := decide_eq_false c10
            clear c10
            by_cases c22 : 0 ≤ a0
            · rw [if_pos c22] at H
              have c22b0 : decide (0 ≤ a0) = true := decide_eq_true c22
              clear c22
              by_cases c23 : a0 < (y113.length : Int)
              · rw [if_pos c23] at H
                have c23b0 : decide (a0 < (y113.length : Int)) = true := decide_eq_true c23
                clear c23
                by_cases c24 : a0 < (y116.length : Int)
                · rw [if_pos c24] at H
                  have c24b0 : decide (a0 < (y116.length : Int)) = true := decide_eq_true c24
                  clear c24
                  simp only [Option.some.injEq, Prod.mk.injEq] at H
                  obtain ⟨rfl, rfl, rfl⟩ := H
                  obtain ⟨Ao25, co25, eo25⟩ := Kd.R_slice HO_5.out
                  subst eo25
                  have p123 : 0 ≤ (a0 : Int) := of_decide_eq_true (by first | (with_reducible assumption) | assumption)
                  have q123 : a0 < (y113.length : Int) := of_decide_eq_true (by first | (with_reducible assumption) | assumption)
                  obtain ⟨ad123, e123, hx123_0⟩ := Kd.at_string (Kd.R_reads' HO_5.out).2.2 a0 p123 q123
                  cases e123
                  replace p123 := eq_true p123
                  replace q123 := eq_true q123
                  obtain ⟨Ao26, co26, eo26⟩ := Kd.R_slice HO_6.out
                  subst eo26
                  have p124 : 0 ≤ (a0 : Int) := of_decide_eq_true (by first | (with_reducible assumption) | assumption)
                  have q124 : a0 < (y116.length : Int) := of_decide_eq_true (by first | (with_reducible assumption) | assumption)
                  obtain ⟨ad124, e124, hx124_0⟩ := Kd.at_string (Kd.R_reads' HO_6.out).2.2 a0 p124 q124
                  cases e124
                  replace p124 := eq_true p124
                  replace q124 := eq_true q124
                  go_wp2
                  repeat (go_quiet (fail); try go_wp2)
                  go_ret3
                  exact ⟨by first | rfl | (simp [errW_none, errW_some] <;> rfl) | (simp [*, errW_none, errW_some] <;> rfl), by repeat (first | (with_reducible first | exact HB.out | apply below_alloc | apply pw_below_drewN | apply below_drew1) | exact HB.out)⟩
                · rw [if_neg c24] at H
                  exact absurd H (by simp)
              · rw [if_neg c23] at H
                exact absurd H (by simp)
            · rw [if_neg c22] at H
              exact absurd H (by simp)
        · rw [if_neg c9] at H
          have c9b0 : (a0 == 11) = false := beq_eq_false_iff_ne.mpr c9
          have c9b1 : (a0 != 11) = true := bne_iff_ne.mpr c9
          by_cases c27 : a0 ≥ 12
          · rw [if_pos c27] at H
            have c27b0 : decide (12 ≤ a0) = true := decide_eq_true c27
            clear c27
            by_cases c28 : a0 ≤ 14
            · rw [if_pos c28] at H
              have c28b0 : decide (a0 ≤ 14) = true := decide_eq_true c28
              clear c28
              by_cases c29 : 0 ≤ a0
              · rw [if_pos c29] at H
                have c29b0 : decide (0 ≤ a0) = true := decide_eq_true c29
                clear c29
                by_cases c30 : a0 < (y113.length : Int)
                · rw [if_pos c30] at H
                  have c30b0 : decide (a0 < (y113.length : Int)) = true := decide_eq_true c30
                  clear c30
                  by_cases c31 : a0 < (y116.length : Int)
                  · rw [if_pos c31] at H
                    have c31b0 : decide (a0 < (y116.length : Int)) = true := decide_eq_true c31
                    clear c31
                    simp only [Option.some.injEq, Prod.mk.injEq] at H
                    obtain ⟨rfl, rfl, rfl⟩ := H
                    obtain ⟨Ao32, co32, eo32⟩ := Kd.R_slice HO_5.out
                    subst eo32
                    have p125 : 0 ≤ (a0 : Int) := of_decide_eq_true (by first | (with_reducible assumption) | assumption)
                    have q125 : a0 < (y113.length : Int) := of_decide_eq_true (by first | (with_reducible assumption) | assumption)
                    obtain ⟨ad125, e125, hx125_0⟩ := Kd.at_string (Kd.R_reads' HO_5.out).2.2 a0 p125 q125
                    cases e125
                    replace p125 := eq_true p125
                    replace q125 := eq_true q125
                    obtain ⟨Ao33, co33, eo33⟩ := Kd.R_slice HO_6.out
                    subst eo33
                    have p126 : 0 ≤ (a0 : Int) := of_decide_eq_true (by first | (with_reducible assumption) | assumption)
                    have q126 : a0 < (y116.length : Int) := of_decide_eq_true (by first | (with_reducible assumption) | assumption)
                    obtain ⟨ad126, e126, hx126_0⟩ := Kd.at_string (Kd.R_reads' HO_6.out).2.2 a0 p126 q126
                    cases e126
                    replace p126 := eq_true p126
                    replace q126 := eq_true q126
                    go_wp2
                    repeat (go_quiet (fail); try go_wp2)
                    go_ret3
                    exact ⟨by first | rfl | (simp [errW_none, errW_some] <;> rfl) | (simp [*, errW_none, errW_some] <;> rfl), by repeat (first | (with_reducible first | exact HB.out | apply below_alloc | apply pw_below_drewN | apply below_drew1) | exact HB.out)⟩
                  · rw [if_neg c31] at H
                    exact absurd H (by simp)
                · rw [if_neg c30] at H
                  exact absurd H (by simp)
              · rw [if_neg c29] at H
                exact absurd H (by simp)
            · rw [if_neg c28] at H
              have c28b0 : decide (a0 ≤ 14) = false := decide_eq_false c28
              clear c28
              by_cases c34 : 0 ≤ a0
              · rw [if_pos c34] at H
                have c34b0 : decide (0 ≤ a0) = true := decide_eq_true c34
                clear c34
                by_cases c35 : a0 < (y113.length : Int)
                · rw [if_pos c35] at H
                  have c35b0 : decide (a0 < (y113.length : Int)) = true := decide_eq_true c35
                  clear c35
                  by_cases c36 : a0 < (y116.length : Int)
                  · rw [if_pos c36] at H
                    have c36b0 : decide (a0 < (y116.length : Int)) = true := decide_eq_true c36
                    clear c36
                    simp only [Option.some.injEq, Prod.mk.injEq] at H
                    obtain ⟨rfl, rfl, rfl⟩ := H
                    obtain ⟨Ao37, co37, eo37⟩ := Kd.R_slice HO_5.out
                    subst eo37
                    have p127 : 0 ≤ (a0 : Int) := of_decide_eq_true (by first | (with_reducible assumption) | assumption)
                    have q127 : a0 < (y113.length : Int) := of_decide_eq_true (by first | (with_reducible assumption) | assumption)
                    obtain ⟨ad127, e127, hx127_0⟩ := Kd.at_string (Kd.R_reads' HO_5.out).2.2 a0 p127 q127
                    cases e127
                    replace p127 := eq_true p127
                    replace q127 := eq_true q127
                    obtain ⟨Ao38, co38, eo38⟩ := Kd.R_slice HO_6.out
                    subst eo38
                    have p128 : 0 ≤ (a0 : Int) := of_decide_eq_true (by first | (with_reducible assumption) | assumption)
                    have q128 : a0 < (y116.length : Int) := of_decide_eq_true (by first | (with_reducible assumption) | assumption)
                    obtain ⟨ad128, e128, hx128_0⟩ := Kd.at_string (Kd.R_reads' HO_6.out).2.2 a0 p128 q128
                    cases e128
                    replace p128 := eq_true p128
                    replace q128 := eq_true q128
                    go_wp2
                    repeat (go_quiet (fail); try go_wp2)
                    go_ret3
                    exact ⟨by first | rfl | (simp [errW_none, errW_some] <;> rfl) | (simp [*, errW_none, errW_some] <;> rfl), by repeat (first | (with_reducible first | exact HB.out | apply below_alloc | apply pw_below_drewN | apply below_drew1) | exact HB.out)⟩
                  · rw [if_neg c36] at H
                    exact absurd H (by simp)
                · rw [if_neg c35] at H
                  exact absurd H (by simp)
              · rw [if_neg c34] at H
                exact absurd H (by simp)
          · rw [if_neg c27] at H
            have c27b0 : decide (12 ≤ a0) = false := decide_eq_false c27
            clear c27
            by_cases c39 : 0 ≤ a0
            · rw [if_pos c39] at H
              have c39b0 : decide (0 ≤ a0) = true := decide_eq_true c39
              clear c39
              by_cases c40 : a0 < (y113.length : Int)
              · rw [if_pos c40] at H
                have c40b0 : decide (a0 < (y113.length : Int)) = true := decide_eq_true c40
                clear c40
                by_cases c41 : a0 < (y116.length : Int)
                · rw [if_pos c41] at H
                  have c41b0 : decide (a0 < (y116.length : Int)) = true := decide_eq_true c41
                  clear c41
                  simp only [Option.some.injEq, Prod.mk.injEq] at H
                  obtain ⟨rfl, rfl, rfl⟩ := H
                  obtain ⟨Ao42, co42, eo42⟩ := Kd.R_slice HO_5.out
                  subst eo42
                  have p129 : 0 ≤ (a0 : Int) := of_decide_eq_true (by first | (with_reducible assumption) | assumption)
                  have q129 : a0 < (y113.length : Int) := of_decide_eq_true (by first | (with_reducible assumption) | assumption)
                  obtain ⟨ad129, e129, hx129_0⟩ := Kd.at_string (Kd.R_reads' HO_5.out).2.2 a0 p129 q129
                  cases e129
                  replace p129 := eq_true p129
                  replace q129 := eq_true q129
                  obtain ⟨Ao43, co43, eo43⟩ := Kd.R_slice HO_6.out
                  subst eo43
                  have p130 : 0 ≤ (a0 : Int) := of_decide_eq_true (by first | (with_reducible assumption) | assumption)
                  have q130 : a0 < (y116.length : Int) := of_decide_eq_true (by first | (with_reducible assumption) | assumption)
                  obtain ⟨ad130, e130, hx130_0⟩ := Kd.at_string (Kd.R_reads' HO_6.out).2.2 a0 p130 q130
                  cases e130
                  replace p130 := eq_true p130
                  replace q130 := eq_true q130
                  go_wp2
                  repeat (go_quiet (fail); try go_wp2)
                  go_ret3
                  exact ⟨by first | rfl | (simp [errW_none, errW_some] <;> rfl) | (simp [*, errW_none, errW_some] <;> rfl), by repeat (first | (with_reducible first | exact HB.out | apply below_alloc | apply pw_below_drewN | apply below_drew1) | exact HB.out)⟩
                · rw [if_neg c41] at H
                  exact absurd H (by simp)
              · rw [if_neg c40] at H
                exact absurd H (by simp)
            · rw [if_neg c39] at H
              exact absurd H (by simp)

/-! ### halberdlaw15_HooksBy: function 6 -/
def halberdlaw15_HooksBy.l0 : Nat → ByteArray → Int → Int → Option (Bool)
  | 0, _, _, _ => none
  | k + 1, x0, x3, x4 => if x4 ≤ 16 then ((halberdref15_Row.f k x4).bind fun bt133 => (if bt133.1.toList = x0.toList then ((hooks_By.f bt133.1).bind fun t136 => (if t136 = x4 then (halberdlaw15_HooksBy.l0 k x0 x4 (wrap64 (x4 + 1))) else (some false))) else ((hooks_By.f bt133.1).bind fun t137 => (if t137 = x4 then (halberdlaw15_HooksBy.l0 k x0 x3 (wrap64 (x4 + 1))) else (some false))))) else ((hooks_By.f x0).bind fun t132 => (some (t132 == x3)))
def halberdlaw15_HooksBy.f (k : Nat) (a0 : ByteArray) : Option (Bool) := (halberdlaw15_alive.f).bind fun t131 => (if t131 = true then (halberdlaw15_HooksBy.l0 k a0 0 1) else (some false))
theorem halberdlaw15_HooksBy.mono_l : ∀ k, (∀ y0 y1 y2, LeO (halberdlaw15_HooksBy.l0 k y0 y1 y2) (halberdlaw15_HooksBy.l0 (k + 1) y0 y1 y2))
  | 0 => fun _ _ _ r h => by simp [halberdlaw15_HooksBy.l0] at h
  | k + 1 => by
    have ih0 := halberdlaw15_HooksBy.mono_l k
    · intro y0 y1 y2
      unfold halberdlaw15_HooksBy.l0
      repeat' first
      | (with_reducible exact ih0 _ _ _)
      | (with_reducible exact halberdref15_Row.mono _ _)
      | (with_reducible exact LeO.refl _)
      | (with_reducible exact LeO.none _)
      | (with_reducible refine LeO.ite ?_ ?_)
      | (with_reducible refine LeO.bind ?_ (fun _ => ?_))
      | exact ih0 _ _ _
      | exact halberdref15_Row.mono _ _
      | exact LeO.none _
      | refine LeO.ite ?_ ?_
      | refine LeO.bind ?_ (fun _ => ?_)
theorem halberdlaw15_HooksBy.mono : ∀ a0 k, LeO (halberdlaw15_HooksBy.f k a0) (halberdlaw15_HooksBy.f (k + 1) a0) := by
  intro a0 k
  have ih0 := halberdlaw15_HooksBy.mono_l k
  unfold halberdlaw15_HooksBy.f
  repeat' first
      | (with_reducible exact ih0 _ _ _)
      | (with_reducible exact halberdref15_Row.mono _ _)
      | (with_reducible exact LeO.refl _)
      | (with_reducible exact LeO.none _)
      | (with_reducible refine LeO.ite ?_ ?_)
      | (with_reducible refine LeO.bind ?_ (fun _ => ?_))
      | exact ih0 _ _ _
      | exact halberdref15_Row.mono _ _
      | exact LeO.none _
      | refine LeO.ite ?_ ?_
      | refine LeO.bind ?_ (fun _ => ?_)
set_option maxHeartbeats 8000000 in
set_option maxRecDepth 100000 in
theorem halberdlaw15_HooksBy.calls (k : Nat) (a0 : ByteArray) (r : Bool) (w : World) (hr_ : Aside0 (r = true)) (h : halberdlaw15_HooksBy.f k a0 = some r) :
    Calls Try.prog 6 #[.string a0] w fun e w' => e = .returned (.bool r) ∧ Below w.heap.size w w' := by
  have HB := Aside0.mk (Below.refl w.heap.size w)
  have H : ((halberdlaw15_alive.f).bind fun t131 => (if t131 = true then (halberdlaw15_HooksBy.l0 k a0 0 1) else (some false))) = some r := h
  clear h
  replace H := Option.bind_eq_some_iff.mp H
  obtain ⟨t131, A20, H⟩ := H
  replace H : (if t131 = true then (halberdlaw15_HooksBy.l0 k a0 0 1) else (some false)) = some r := H
  have A2 := Aside0.mk A20
  clear A20
  by_cases c3 : t131 = true
  · subst c3
    have H1 : (halberdlaw15_HooksBy.l0 k a0 0 1) = some r := by rw [if_pos rfl] at H; exact H
    clear H
    have H := H1
    clear H1
    have H' := Aside0.mk H
    clear H
    go_enter Try.func6, Try.ntmps6
    go_wp2_with (first | ((with_reducible refine gate_callee (f := 35) rfl ?_); refine goesL_ (some 8) rfl rfl Try.func35 (by kernel_rfl) rfl #[] rfl (by (try simp only [List.map_toArray, List.map_cons, List.map_nil]); first | done | rfl | (simp only [List.length_drop, List.length_take]; rfl)) ?_; (with_reducible refine (halberdlaw15_alive.calls  true _ A2.out).mono ?_); rintro e w4 ⟨rfl, hb⟩; refine ⟨_, rfl, ?_⟩; have n0_ := Aside0.mk (below_step (by repeat (first | (with_reducible first | exact HB.out | apply below_alloc | apply pw_below_drewN | apply below_drew1) | exact HB.out)) hb); clear HB; have HB := n0_; clear n0_; (try clear hb); (try clear hb2); (try clear hk); (try clear hi)) | (go_at_call 35; (with_reducible refine (halberdlaw15_alive.calls  true _ A2.out).mono ?_); rintro e w4 ⟨rfl, hb⟩; have n0_ := Aside0.mk (below_step (by repeat (first | (with_reducible first | exact HB.out | apply below_alloc | apply pw_below_drewN | apply below_drew1) | exact HB.out)) hb); clear HB; have HB := n0_; clear n0_; (try clear hb); (try clear hb2); (try clear hk); (try clear hi)))
    go_loopg [3, 4] k (fun kq v3 v4 w' => ∃ (x3_1 : Int) (x4_1 : Int), v3 = .int .i64 x3_1 ∧ v4 = .int .i64 x4_1 ∧ Aside0 (halberdlaw15_HooksBy.l0 kq a0 x3_1 x4_1 = some r) ∧ Aside0 (kq ≤ k) ∧ Aside0 (Below w.heap.size w w'))
    case atStart => exact ⟨(0), (1), (by first | rfl | (simp; done) | (simp [*]; done)), (by first | rfl | (simp; done) | (simp [*]; done)), H', ⟨Nat.le_refl _⟩, ⟨by repeat (first | (with_reducible first | exact HB.out | apply below_alloc | apply pw_below_drewN | apply below_drew1) | exact HB.out)⟩⟩
    case round =>
      clear H'
      try clear p2
      try clear c3
      obtain ⟨x3_1, x4_1, rfl, rfl, HA, HK1, HB⟩ := hrel
      cases gk with
      | zero => exact absurd HA.out (by simp [halberdlaw15_HooksBy.l0])
      | succ k1 =>
        have H := HA.out
        clear HA
        simp only [halberdlaw15_HooksBy.l0] at H
        by_cases c5 : x4_1 ≤ 16
        · rw [if_pos c5] at H
          have c5b0 : decide (x4_1 ≤ 16) = true := decide_eq_true c5
          clear c5
          replace H := Option.bind_eq_some_iff.mp H
          obtain ⟨⟨t133, t134, t135⟩, A60, H⟩ := H
          replace H : (if t133.toList = a0.toList then ((hooks_By.f t133).bind fun t136 => (if t136 = x4_1 then (halberdlaw15_HooksBy.l0 k1 a0 x4_1 (wrap64 (x4_1 + 1))) else (some false))) else ((hooks_By.f t133).bind fun t137 => (if t137 = x4_1 then (halberdlaw15_HooksBy.l0 k1 a0 x3_1 (wrap64 (x4_1 + 1))) else (some false)))) = some r := H
          have A6 := Aside0.mk A60
          clear A60
          by_cases c7 : t133.toList = a0.toList
          · rw [if_pos c7] at H
            have c7b0 : (t133.toList == a0.toList) = true := beq_iff_eq.mpr c7
            have c7b1 : (t133.toList != a0.toList) = false := bne_eq_false_iff_eq.mpr c7
            clear c7
            replace H := Option.bind_eq_some_iff.mp H
            obtain ⟨t136, A80, H⟩ := H
            replace H : (if t136 = x4_1 then (halberdlaw15_HooksBy.l0 k1 a0 x4_1 (wrap64 (x4_1 + 1))) else (some false)) = some r := H
            have A8 := Aside0.mk A80
            clear A80
            by_cases c9 : t136 = x4_1
            · rw [if_pos c9] at H
              have c9b0 : (t136 == x4_1) = true := beq_iff_eq.mpr c9
              have c9b1 : (t136 != x4_1) = false := bne_eq_false_iff_eq.mpr c9
              clear c9
              have H' := Aside0.mk H
              clear H
              go_wp2_with (first | ((with_reducible refine gate_callee (f := 36) rfl ?_); refine goesL_ (some 16) rfl rfl Try.func36 (by kernel_rfl) rfl #[.int .i64 x4_1] rfl (by (try simp only [List.map_toArray, List.map_cons, List.map_nil]); first | done | rfl | (simp only [List.length_drop, List.length_take]; rfl)) ?_; (with_reducible refine (halberdref15_Row.calls k1 x4_1 t133 t134 t135 _ A6.out).mono ?_); rintro e w10 ⟨rfl, hb⟩; refine ⟨_, rfl, ?_⟩; have n0_ := Aside0.mk (below_step (by repeat (first | (with_reducible first | exact HB.out | apply below_alloc | apply pw_below_drewN | apply below_drew1) | exact HB.out)) hb); clear HB; have HB := n0_; clear n0_; (try clear hb); (try clear hb2); (try clear hk); (try clear hi)) | ((with_reducible refine gate_callee (f := 37) rfl ?_); refine goesL_ (some 25) rfl rfl Try.func37 (by kernel_rfl) rfl #[.string t133] rfl (by (try simp only [List.map_toArray, List.map_cons, List.map_nil]); first | done | rfl | (simp only [List.length_drop, List.length_take]; rfl)) ?_; (with_reducible refine (hooks_By.calls t133 t136 _ A8.out).mono ?_); rintro e w11 ⟨rfl, hb⟩; refine ⟨_, rfl, ?_⟩; have n0_ := Aside0.mk (below_step (by repeat (first | (with_reducible first | exact HB.out | apply below_alloc | apply pw_below_drewN | apply below_drew1) | exact HB.out)) hb); clear HB; have HB := n0_; clear n0_; (try clear hb); (try clear hb2); (try clear hk); (try clear hi)) | (go_at_call 36; (with_reducible refine (halberdref15_Row.calls k1 x4_1 t133 t134 t135 _ A6.out).mono ?_); rintro e w10 ⟨rfl, hb⟩; have n0_ := Aside0.mk (below_step (by repeat (first | (with_reducible first | exact HB.out | apply below_alloc | apply pw_below_drewN | apply below_drew1) | exact HB.out)) hb); clear HB; have HB := n0_; clear n0_; (try clear hb); (try clear hb2); (try clear hk); (try clear hi)) | (go_at_call 37; (with_reducible refine (hooks_By.calls t133 t136 _ A8.out).mono ?_); rintro e w11 ⟨rfl, hb⟩; have n0_ := Aside0.mk (below_step (by repeat (first | (with_reducible first | exact HB.out | apply below_alloc | apply pw_below_drewN | apply below_drew1) | exact HB.out)) hb); clear HB; have HB := n0_; clear n0_; (try clear hb); (try clear hb2); (try clear hk); (try clear hi)))
              go_roundg k1
              case measure => have := HK1.out; omega
              case rel => exact ⟨(x4_1), (wrap64 (x4_1 + 1)), (by first | rfl | (simp; done) | (simp [*]; done)), (by first | rfl | (simp; done) | (simp [*]; done)), H', ⟨by have := HK1.out; omega⟩, ⟨by repeat (first | (with_reducible first | exact HB.out | apply below_alloc | apply pw_below_drewN | apply below_drew1) | exact HB.out)⟩⟩
            · rw [if_neg c9] at H
              have c9b0 : (t136 == x4_1) = false := beq_eq_false_iff_ne.mpr c9
              have c9b1 : (t136 != x4_1) = true := bne_iff_ne.mpr c9
              exact absurd (Option.some.inj H) (by rw [hr_.out]; decide)
          · rw [if_neg c7] at H
            have c7b0 : (t133.toList == a0.toList) = false := beq_eq_false_iff_ne.mpr c7
            have c7b1 : (t133.toList != a0.toList) = true := bne_iff_ne.mpr c7
            replace H := Option.bind_eq_some_iff.mp H
            obtain ⟨t137, A120, H⟩ := H
            replace H : (if t137 = x4_1 then (halberdlaw15_HooksBy.l0 k1 a0 x3_1 (wrap64 (x4_1 + 1))) else (some false)) = some r := H
            have A12 := Aside0.mk A120
            clear A120
            by_cases c13 : t137 = x4_1
            · rw [if_pos c13] at H
              have c13b0 : (t137 == x4_1) = true := beq_iff_eq.mpr c13
              have c13b1 : (t137 != x4_1) = false := bne_eq_false_iff_eq.mpr c13
              clear c13
              have H' := Aside0.mk H
              clear H
              go_wp2_with (first | ((with_reducible refine gate_callee (f := 36) rfl ?_); refine goesL_ (some 16) rfl rfl Try.func36 (by kernel_rfl) rfl #[.int .i64 x4_1] rfl (by (try simp only [List.map_toArray, List.map_cons, List.map_nil]); first | done | rfl | (simp only [List.length_drop, List.length_take]; rfl)) ?_; (with_reducible refine (halberdref15_Row.calls k1 x4_1 t133 t134 t135 _ A6.out).mono ?_); rintro e w14 ⟨rfl, hb⟩; refine ⟨_, rfl, ?_⟩; have n0_ := Aside0.mk (below_step (by repeat (first | (with_reducible first | exact HB.out | apply below_alloc | apply pw_below_drewN | apply below_drew1) | exact HB.out)) hb); clear HB; have HB := n0_; clear n0_; (try clear hb); (try clear hb2); (try clear hk); (try clear hi)) | ((with_reducible refine gate_callee (f := 37) rfl ?_); refine goesL_ (some 25) rfl rfl Try.func37 (by kernel_rfl) rfl #[.string t133] rfl (by (try simp only [List.map_toArray, List.map_cons, List.map_nil]); first | done | rfl | (simp only [List.length_drop, List.length_take]; rfl)) ?_; (with_reducible refine (hooks_By.calls t133 t137 _ A12.out).mono ?_); rintro e w15 ⟨rfl, hb⟩; refine ⟨_, rfl, ?_⟩; have n0_ := Aside0.mk (below_step (by repeat (first | (with_reducible first | exact HB.out | apply below_alloc | apply pw_below_drewN | apply below_drew1) | exact HB.out)) hb); clear HB; have HB := n0_; clear n0_; (try clear hb); (try clear hb2); (try clear hk); (try clear hi)) | (go_at_call 36; (with_reducible refine (halberdref15_Row.calls k1 x4_1 t133 t134 t135 _ A6.out).mono ?_); rintro e w14 ⟨rfl, hb⟩; have n0_ := Aside0.mk (below_step (by repeat (first | (with_reducible first | exact HB.out | apply below_alloc | apply pw_below_drewN | apply below_drew1) | exact HB.out)) hb); clear HB; have HB := n0_; clear n0_; (try clear hb); (try clear hb2); (try clear hk); (try clear hi)) | (go_at_call 37; (with_reducible refine (hooks_By.calls t133 t137 _ A12.out).mono ?_); rintro e w15 ⟨rfl, hb⟩; have n0_ := Aside0.mk (below_step (by repeat (first | (with_reducible first | exact HB.out | apply below_alloc | apply pw_below_drewN | apply below_drew1) | exact HB.out)) hb); clear HB; have HB := n0_; clear n0_; (try clear hb); (try clear hb2); (try clear hk); (try clear hi)))
              go_roundg k1
              case measure => have := HK1.out; omega
              case rel => exact ⟨(x3_1), (wrap64 (x4_1 + 1)), (by first | rfl | (simp; done) | (simp [*]; done)), (by first | rfl | (simp; done) | (simp [*]; done)), H', ⟨by have := HK1.out; omega⟩, ⟨by repeat (first | (with_reducible first | exact HB.out | apply below_alloc | apply pw_below_drewN | apply below_drew1) | exact HB.out)⟩⟩
            · rw [if_neg c13] at H
              have c13b0 : (t137 == x4_1) = false := beq_eq_false_iff_ne.mpr c13
              have c13b1 : (t137 != x4_1) = true := bne_iff_ne.mpr c13
              exact absurd (Option.some.inj H) (by rw [hr_.out]; decide)
        · rw [if_neg c5] at H
          have c5b0 : decide (x4_1 ≤ 16) = false := decide_eq_false c5
          clear c5
          replace H := Option.bind_eq_some_iff.mp H
          obtain ⟨t132, A160, H⟩ := H
          replace H : (some (t132 == x3_1)) = some r := H
          have A16 := Aside0.mk A160
          clear A160
          obtain rfl := Option.some.inj H
          go_wp2_with (first | ((with_reducible refine gate_callee (f := 37) rfl ?_); refine goesL_ (some 29) rfl rfl Try.func37 (by kernel_rfl) rfl #[.string a0] rfl (by (try simp only [List.map_toArray, List.map_cons, List.map_nil]); first | done | rfl | (simp only [List.length_drop, List.length_take]; rfl)) ?_; (with_reducible refine (hooks_By.calls a0 t132 _ A16.out).mono ?_); rintro e w17 ⟨rfl, hb⟩; refine ⟨_, rfl, ?_⟩; have n0_ := Aside0.mk (below_step (by repeat (first | (with_reducible first | exact HB.out | apply below_alloc | apply pw_below_drewN | apply below_drew1) | exact HB.out)) hb); clear HB; have HB := n0_; clear n0_; (try clear hb); (try clear hb2); (try clear hk); (try clear hi)) | (go_at_call 37; (with_reducible refine (hooks_By.calls a0 t132 _ A16.out).mono ?_); rintro e w17 ⟨rfl, hb⟩; have n0_ := Aside0.mk (below_step (by repeat (first | (with_reducible first | exact HB.out | apply below_alloc | apply pw_below_drewN | apply below_drew1) | exact HB.out)) hb); clear HB; have HB := n0_; clear n0_; (try clear hb); (try clear hb2); (try clear hk); (try clear hi)))
          go_ret
          exact ⟨by first | rfl | (simp [errW_none, errW_some] <;> rfl) | (simp [*, errW_none, errW_some] <;> rfl), by repeat (first | (with_reducible first | exact HB.out | apply below_alloc | apply pw_below_drewN | apply below_drew1) | exact HB.out)⟩
  · replace c3 := Bool.eq_false_iff.mpr c3
    subst c3
    have H1 : (some false) = some r := by rw [if_neg (show ¬ (false = true) by decide)] at H; exact H
    clear H
    have H := H1
    clear H1
    exact absurd (Option.some.inj H) (by rw [hr_.out]; decide)

/-- THE ONE PURE STATEMENT of halberdlaw15_HooksBy. -/
def halberdlaw15_HooksBy.Pure : Prop := ∀ (a0 : ByteArray), (a0.size ≤ 140737488351232) → ∃ k, halberdlaw15_HooksBy.f k a0 = some true

end Go.Proofs.Yteckjmejngieeaa.PHooksBy
