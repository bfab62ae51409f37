/- What describes any helper, and which maps suit, is the document's: for every number and kind. -/
import Derived.Test.YtjpjcmokffjnaaaPHelpersOfx3
import Derived.Test.YtjpjcmokffjnaaaTB
set_option linter.unusedVariables false
set_option linter.unusedSimpArgs false
namespace Go.Proofs.Ytjpjcmokffjnaaa.Pure
open Go.RowKit Go.Proofs.Ytjpjcmokffjnaaa.PHelpersOf Go.Proofs.YtjpjcmokffjnaaaW.PrintWords Go.Proofs.YtjpjcmokffjnaaaW.PrintLast Go.Proofs.YtjpjcmokffjnaaaW.PrintMore Go.Proofs.Ytjpjcmokffjnaaa.HB Go.Proofs.Ytjpjcmokffjnaaa.TB

theorem ho_alive : halberdlaw16_alive.f = some true := by kernel_rfl
theorem maps_from (n kind : Int) (M : List Int) (nm : ByteArray) (ag : List Int) (ret : Int) (hm : M.length ≤ 1000) : ∀ (d i k : Nat) (acc : Bool), i + d = M.length → d < k → halberdlaw16_HelpersOf.l1 k n kind M acc (i : Int) nm ag M ret = (helpers_Suits.f n kind).bind fun t => some (t == (acc || (M.drop i).any fun y => y == kind))
  | 0, i, k, acc, h, hk => by
    obtain ⟨m, rfl⟩ : ∃ m, k = m + 1 := ⟨k - 1, by omega⟩
    rw [halberdlaw16_HelpersOf.l1, if_neg (by omega), List.drop_of_length_le (by omega)]
    simp
  | d + 1, i, k, acc, h, hk => by
    obtain ⟨m, rfl⟩ : ∃ m, k = m + 1 := ⟨k - 1, by omega⟩
    have ih := maps_from n kind M nm ag ret hm d (i + 1) m
    have hw : wrap64 ((i : Int) + 1) = ((i + 1 : Nat) : Int) := by unfold wrap64; omega
    have hd : M.drop i = rd M (i : Int) :: M.drop (i + 1) := by
      rw [List.drop_eq_getElem_cons (by omega)]
      congr 1
      simp [rd, List.getD_eq_getElem?_getD, show i < M.length by omega]
    rw [halberdlaw16_HelpersOf.l1, if_pos (by omega), if_pos (by omega), if_pos (by omega), if_pos rfl, hw, hd, List.any_cons]
    cases acc with
    | true =>
      rw [if_pos rfl, ih true (by omega) (by omega)]
      simp
    | false =>
      rw [if_neg Bool.false_ne_true, ih _ (by omega) (by omega)]
      simp
theorem ho_1 (k : Nat) (kind : Int) : halberdlaw16_HelpersOf.f (k + 60) 1 kind = halberdlaw16_HelpersOf.l1 (k + 56) 1 kind (hMaps 1) false 0 (hName 1) (hArgs 1) (hMaps 1) (hRet 1) := by kernel_rfl
theorem ho_2 (k : Nat) (kind : Int) : halberdlaw16_HelpersOf.f (k + 60) 2 kind = halberdlaw16_HelpersOf.l1 (k + 54) 2 kind (hMaps 2) false 0 (hName 2) (hArgs 2) (hMaps 2) (hRet 2) := by kernel_rfl
theorem ho_3 (k : Nat) (kind : Int) : halberdlaw16_HelpersOf.f (k + 60) 3 kind = halberdlaw16_HelpersOf.l1 (k + 56) 3 kind (hMaps 3) false 0 (hName 3) (hArgs 3) (hMaps 3) (hRet 3) := by kernel_rfl
theorem ho_4 (k : Nat) (kind : Int) : halberdlaw16_HelpersOf.f (k + 60) 4 kind = halberdlaw16_HelpersOf.l1 (k + 55) 4 kind (hMaps 4) false 0 (hName 4) (hArgs 4) (hMaps 4) (hRet 4) := by kernel_rfl
theorem ho_5 (k : Nat) (kind : Int) : halberdlaw16_HelpersOf.f (k + 60) 5 kind = halberdlaw16_HelpersOf.l1 (k + 55) 5 kind (hMaps 5) false 0 (hName 5) (hArgs 5) (hMaps 5) (hRet 5) := by kernel_rfl
theorem ho_6 (k : Nat) (kind : Int) : halberdlaw16_HelpersOf.f (k + 60) 6 kind = halberdlaw16_HelpersOf.l1 (k + 56) 6 kind (hMaps 6) false 0 (hName 6) (hArgs 6) (hMaps 6) (hRet 6) := by kernel_rfl
theorem ho_7 (k : Nat) (kind : Int) : halberdlaw16_HelpersOf.f (k + 60) 7 kind = halberdlaw16_HelpersOf.l1 (k + 56) 7 kind (hMaps 7) false 0 (hName 7) (hArgs 7) (hMaps 7) (hRet 7) := by kernel_rfl
theorem ho_8 (k : Nat) (kind : Int) : halberdlaw16_HelpersOf.f (k + 60) 8 kind = halberdlaw16_HelpersOf.l1 (k + 56) 8 kind (hMaps 8) false 0 (hName 8) (hArgs 8) (hMaps 8) (hRet 8) := by kernel_rfl
theorem ho_9 (k : Nat) (kind : Int) : halberdlaw16_HelpersOf.f (k + 60) 9 kind = halberdlaw16_HelpersOf.l1 (k + 57) 9 kind (hMaps 9) false 0 (hName 9) (hArgs 9) (hMaps 9) (hRet 9) := by kernel_rfl
theorem ho_10 (k : Nat) (kind : Int) : halberdlaw16_HelpersOf.f (k + 60) 10 kind = halberdlaw16_HelpersOf.l1 (k + 57) 10 kind (hMaps 10) false 0 (hName 10) (hArgs 10) (hMaps 10) (hRet 10) := by kernel_rfl
theorem ho_11 (k : Nat) (kind : Int) : halberdlaw16_HelpersOf.f (k + 60) 11 kind = halberdlaw16_HelpersOf.l1 (k + 58) 11 kind (hMaps 11) false 0 (hName 11) (hArgs 11) (hMaps 11) (hRet 11) := by kernel_rfl
theorem ho_12 (k : Nat) (kind : Int) : halberdlaw16_HelpersOf.f (k + 60) 12 kind = halberdlaw16_HelpersOf.l1 (k + 55) 12 kind (hMaps 12) false 0 (hName 12) (hArgs 12) (hMaps 12) (hRet 12) := by kernel_rfl
theorem ho_13 (k : Nat) (kind : Int) : halberdlaw16_HelpersOf.f (k + 60) 13 kind = halberdlaw16_HelpersOf.l1 (k + 56) 13 kind (hMaps 13) false 0 (hName 13) (hArgs 13) (hMaps 13) (hRet 13) := by kernel_rfl
theorem ho_suits {n kind : Int} (ho : hOk n = true) : (helpers_Suits.f n kind).bind (fun t => some (t == (false || ((hMaps n).drop 0).any fun y => y == kind))) = some true := by
  unfold helpers_Suits.f
  rw [ho]
  simp
theorem ho_all (k : Nat) (n kind : Int) : halberdlaw16_HelpersOf.f (k + 60) n kind = some true := by
  by_cases h0 : n = 1
  · subst h0
    rw [ho_1]
    exact (maps_from 1 kind (hMaps 1) _ _ _ (by decide) 2 0 _ false (by decide) (by omega)).trans (ho_suits rfl)
  by_cases h1 : n = 2
  · subst h1
    rw [ho_2]
    exact (maps_from 2 kind (hMaps 2) _ _ _ (by decide) 2 0 _ false (by decide) (by omega)).trans (ho_suits rfl)
  by_cases h2 : n = 3
  · subst h2
    rw [ho_3]
    exact (maps_from 3 kind (hMaps 3) _ _ _ (by decide) 1 0 _ false (by decide) (by omega)).trans (ho_suits rfl)
  by_cases h3 : n = 4
  · subst h3
    rw [ho_4]
    exact (maps_from 4 kind (hMaps 4) _ _ _ (by decide) 1 0 _ false (by decide) (by omega)).trans (ho_suits rfl)
  by_cases h4 : n = 5
  · subst h4
    rw [ho_5]
    exact (maps_from 5 kind (hMaps 5) _ _ _ (by decide) 1 0 _ false (by decide) (by omega)).trans (ho_suits rfl)
  by_cases h5 : n = 6
  · subst h5
    rw [ho_6]
    exact (maps_from 6 kind (hMaps 6) _ _ _ (by decide) 1 0 _ false (by decide) (by omega)).trans (ho_suits rfl)
  by_cases h6 : n = 7
  · subst h6
    rw [ho_7]
    exact (maps_from 7 kind (hMaps 7) _ _ _ (by decide) 1 0 _ false (by decide) (by omega)).trans (ho_suits rfl)
  by_cases h7 : n = 8
  · subst h7
    rw [ho_8]
    exact (maps_from 8 kind (hMaps 8) _ _ _ (by decide) 1 0 _ false (by decide) (by omega)).trans (ho_suits rfl)
  by_cases h8 : n = 9
  · subst h8
    rw [ho_9]
    exact (maps_from 9 kind (hMaps 9) _ _ _ (by decide) 0 0 _ false (by decide) (by omega)).trans (ho_suits rfl)
  by_cases h9 : n = 10
  · subst h9
    rw [ho_10]
    exact (maps_from 10 kind (hMaps 10) _ _ _ (by decide) 0 0 _ false (by decide) (by omega)).trans (ho_suits rfl)
  by_cases h10 : n = 11
  · subst h10
    rw [ho_11]
    exact (maps_from 11 kind (hMaps 11) _ _ _ (by decide) 0 0 _ false (by decide) (by omega)).trans (ho_suits rfl)
  by_cases h11 : n = 12
  · subst h11
    rw [ho_12]
    exact (maps_from 12 kind (hMaps 12) _ _ _ (by decide) 0 0 _ false (by decide) (by omega)).trans (ho_suits rfl)
  by_cases h12 : n = 13
  · subst h12
    rw [ho_13]
    exact (maps_from 13 kind (hMaps 13) _ _ _ (by decide) 0 0 _ false (by decide) (by omega)).trans (ho_suits rfl)
  have r : halberdref16_Row.f n = some (⟨#[]⟩, ⟨#[]⟩, [], 0) := by
    unfold halberdref16_Row.f
    rw [if_neg h0, if_neg h1, if_neg h2, if_neg h3, if_neg h4, if_neg h5, if_neg h6, if_neg h7, if_neg h8, if_neg h9, if_neg h10, if_neg h11, if_neg h12]
  have f : helpers_Of.f n = some (⟨#[]⟩, [], [], 0, false) := by simp only [helpers_Of.f, hName, hArgs, hMaps, hRet, hOk, h0, h1, h2, h3, h4, h5, h6, h7, h8, h9, h10, h11, h12, if_false]
  have s : helpers_Suits.f n kind = some false := by simp only [helpers_Suits.f, hOk, h0, h1, h2, h3, h4, h5, h6, h7, h8, h9, h10, h11, h12, if_false, Bool.false_and]
  unfold halberdlaw16_HelpersOf.f
  rw [ho_alive, Option.bind_some, if_pos rfl, f, Option.bind_some, r, Option.bind_some]
  have l := maps_from n kind [] ⟨#[]⟩ [] 0 (by decide) 0 0 (k + 58) false rfl (by omega)
  have l' : halberdlaw16_HelpersOf.l1 (k + 58) n kind [] false 0 ⟨#[]⟩ [] [] 0 = _ := l
  rw [s] at l'
  exact Eq.trans (b := halberdlaw16_HelpersOf.l1 (k + 58) n kind [] false 0 ⟨#[]⟩ [] [] 0) (by kernel_rfl) l'
theorem HelpersOf : halberdlaw16_HelpersOf.Pure := by
  intro n kind _ _
  exact ⟨0 + 60, ho_all 0 n kind⟩
end Go.Proofs.Ytjpjcmokffjnaaa.Pure
