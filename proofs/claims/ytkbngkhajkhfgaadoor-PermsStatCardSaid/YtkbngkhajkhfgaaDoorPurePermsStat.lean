/- What is told of any inode is the document's: for all inodes. -/
import Derived.Test.YtkbngkhajkhfgaaDoorPPermsStatx3
import Derived.Test.YtkbngkhajkhfgaaDoorTB
import Derived.Lib.ItoaNum
set_option linter.unusedVariables false
set_option linter.unusedSimpArgs false
namespace Go.Proofs.YtkbngkhajkhfgaaDoor.Pure
open Go.RowKit Go.Proofs.YtkbngkhajkhfgaaDoor.PPermsStat Go.Proofs.YtkbngkhajkhfgaaDoorW.PrintWords Go.Proofs.YtkbngkhajkhfgaaDoorW.PrintLast Go.Proofs.YtkbngkhajkhfgaaDoorW.PrintMore Go.Proofs.YtkbngkhajkhfgaaDoor.HB Go.Proofs.YtkbngkhajkhfgaaDoor.TB

theorem p_itoa {i : Nat} (h : i < 10) : Lib.itoa (i : Int) = [UInt8.ofNat (48 + i)] := by
  unfold Lib.itoa
  rw [if_neg (by omega), Int.toNat_natCast, Lib.decDigits_one h]
theorem p_stat : perms_Stat.f 2 0 1 0 0 0 0 (⟨#[97, 98, 99]⟩ : ByteArray) ([] : List ByteArray) ([] : List Int) 0 = some ⟨#[50, 32, 49, 32, 48, 32, 48, 32, 48, 32, 48, 32, 51]⟩ := by
  unfold perms_Stat.f
  have hsz : (if (1 : Int) = 2 then ((([] : List ByteArray).length : Nat) : Int) else (((⟨#[97, 98, 99]⟩ : ByteArray).size : Nat) : Int)) = 3 := rfl
  rw [hsz, if_pos (by decide)]
  unfold stat_s
  have h0 : Lib.itoa 0 = [48] := p_itoa (i := 0) (by decide)
  have h1 : Lib.itoa 1 = [49] := p_itoa (i := 1) (by decide)
  have h2 : Lib.itoa 2 = [50] := p_itoa (i := 2) (by decide)
  have h3 : Lib.itoa 3 = [51] := p_itoa (i := 3) (by decide)
  simp only [List.map_cons, List.map_nil, h0, h1, h2, h3]
  rfl
theorem p_alive (k : Nat) (h1 : perms_Flags.f k 3 = some (6, true)) (h2 : perms_Flags.f k 4 = some (0, false)) (h3 : perms_Prot.f k 2 true false = some false) : halberdlaw23_alive.f k = some true := by
  unfold halberdlaw23_alive.f
  refine have_ h1 (have_ h2 ?_)
  refine yes_ rfl (yes_ rfl ?_)
  refine no_ (by decide) ?_
  refine have_ h3 ?_
  refine no_ (by decide) ?_
  refine have_ (v := true) (by unfold perms_Prot.f; rfl) ?_
  refine yes_ rfl ?_
  exact have_ p_stat (by decide +kernel)
theorem and_pow_nat (N i : Nat) : N &&& 2 ^ i = if N / 2 ^ i % 2 = 1 then 2 ^ i else 0 := by
  apply Nat.eq_of_testBit_eq
  intro j
  rw [Nat.testBit_and, Nat.testBit_two_pow]
  by_cases h : i = j
  · subst h
    rw [Nat.testBit_eq_decide_div_mod_eq]
    split <;> simp_all [Nat.testBit_two_pow]
  · split <;> simp [h, Nat.testBit_two_pow]
theorem ofInt_small (q : Nat) (h : q < 9223372036854775808) : (BitVec.ofInt 64 (q : Int)).toNat = q := by
  rw [BitVec.toNat_ofInt]
  have : ((2 ^ 64 : Nat) : Int) = 18446744073709551616 := by decide
  rw [this]
  omega
theorem wrap_small (q : Nat) (h : q < 9223372036854775808) : IntKind.i64.wrap (q : Int) = q := by
  rw [IntKind.wrap_i64]
  omega
theorem and_pow (x : Int) (i : Nat) (hi : i < 63) : Go.bits .and .i64 x ((2 ^ i : Nat) : Int) = if ((x % 18446744073709551616).toNat / 2 ^ i) % 2 = 1 then ((2 ^ i : Nat) : Int) else 0 := by
  have hp : 2 ^ i < 2 ^ 63 := Nat.pow_lt_pow_right (by decide) hi
  have hp63 : (2 : Nat) ^ 63 = 9223372036854775808 := by decide
  rw [hp63] at hp
  have e2 := ofInt_small _ hp
  have key : (BitVec.ofInt 64 x &&& BitVec.ofInt 64 ((2 ^ i : Nat) : Int)).toNat = if ((x % 18446744073709551616).toNat / 2 ^ i) % 2 = 1 then 2 ^ i else 0 := by
    rw [BitVec.toNat_and, e2, and_pow_nat, BitVec.toNat_ofInt]
    have : ((2 ^ 64 : Nat) : Int) = 18446744073709551616 := by decide
    rw [this]
  show IntKind.i64.wrap ((BitVec.ofInt 64 x &&& BitVec.ofInt 64 ((2 ^ i : Nat) : Int)).toNat : Nat) = _
  rw [key]
  split
  · exact wrap_small _ hp
  · rfl
theorem and_one (x : Int) : Go.bits .and .i64 x 1 = x % 2 := by
  have h := and_pow x 0 (by decide)
  have e : ((2 ^ 0 : Nat) : Int) = 1 := rfl
  rw [e] at h
  rw [h]
  simp only [Nat.pow_zero, Nat.div_one]
  split <;> omega
def B (l : List UInt8) : ByteArray := ⟨l.toArray⟩
theorem B_app (a b : List UInt8) : B a ++ B b = B (a ++ b) := by
  have h : ∀ {x y : ByteArray}, x.data = y.data → x = y := fun {x y} h => by cases x; cases y; congr
  apply h
  rw [ByteArray.data_append]
  simp [B]
theorem B_size (a : List UInt8) : (B a).size = a.length := by
  show (a.toArray).size = _
  simp
theorem B_num (x : Int) : strOfNums [x] = B [UInt8.ofNat x.toNat] := rfl
theorem dig_small (u : Nat) (h : u < 10) : strOfNums [wrap64 (48 + (u : Int)) % 256] = B [UInt8.ofNat (48 + u)] := by
  have e : wrap64 (48 + (u : Int)) % 256 = ((48 + u : Nat) : Int) := by unfold wrap64; omega
  rw [e, B_num, Int.toNat_natCast]
theorem dig_len (u : Nat) (h : u ≤ 9223372036854775808) : (Lib.decDigits u).length ≤ 20 := by
  rw [Lib.decDigits_length]
  rcases Nat.lt_or_ge 20 (Lib.nDigits u) with hh | hh
  · have h1 : ∀ (k u : Nat), k < Lib.nDigits u → 10 ^ k ≤ u ∨ k = 0 := by
      intro k
      induction k with
      | zero => intro u _; exact .inr rfl
      | succ k ih =>
        intro u hu
        left
        by_cases hs : u < 10
        · rw [Lib.nDigits_small hs] at hu; omega
        · rw [Lib.nDigits_big hs] at hu
          rcases ih (u / 10) (by omega) with h2 | rfl
          · rw [Nat.pow_succ]; omega
          · omega
    rcases h1 20 u hh with h2 | h2
    · have : (10 : Nat) ^ 20 = 100000000000000000000 := by decide
      omega
    · omega
  · exact hh
theorem digits_nat : ∀ (k u : Nat), u < 10 ^ k → u ≤ 9223372036854775807 → 0 < k → halberdref05_Digits.f k (u : Int) = some (B (Lib.decDigits u))
  | 0, u, _, _, h => absurd h (by decide)
  | k + 1, u, h, hu, _ => by
    rw [halberdref05_Digits.f, if_neg (by omega), if_neg (by omega)]
    by_cases hs : u < 10
    · rw [if_pos (by omega), dig_small u hs, Lib.decDigits_one hs]
    · have hk : 0 < k := by
        rcases Nat.eq_zero_or_pos k with rfl | hk
        · simp at h; omega
        · exact hk
      have hd : wrap64 (Int.tdiv (u : Int) 10) = ((u / 10 : Nat) : Int) := by
        rw [Int.tdiv_eq_ediv_of_nonneg (by omega)]
        unfold wrap64; omega
      have hm : Int.tmod (u : Int) 10 = ((u % 10 : Nat) : Int) := by
        rw [Int.tmod_eq_emod_of_nonneg (by omega)]
        omega
      have ih := digits_nat k (u / 10) (by rw [Nat.pow_succ] at h; omega) (by omega) hk
      have hl := dig_len (u / 10) (by omega)
      rw [if_neg (by omega), hd, ih, Option.bind_some, Option.bind_some, hm, dig_small _ (by omega), if_pos (by rw [B_size, B_size]; simp; omega), B_app]
      conv => rhs; rw [Lib.decDigits, dif_neg hs]
theorem itoa_min : Lib.itoa (-9223372036854775808) = [45, 57, 50, 50, 51, 51, 55, 50, 48, 51, 54, 56, 53, 52, 55, 55, 53, 56, 48, 56] := by
  have hn : Lib.nDigits 9223372036854775808 = 19 := Lib.nDigits_unique 18 _ (by decide) (by decide)
  have e : Lib.itoa (-9223372036854775808) = 45 :: Lib.decDigits 9223372036854775808 := rfl
  rw [e, Lib.decDigits_eq, hn]
  decide +kernel
theorem digits_val (n : Int) (h0 : -9223372036854775808 ≤ n) (h1 : n ≤ 9223372036854775807) (k : Nat) (hk : 24 < k) : halberdref05_Digits.f k n = some (stat_itoa n) := by
  have p19 : (10 : Nat) ^ 19 = 10000000000000000000 := by decide
  have up : ∀ u : Nat, u ≤ 9223372036854775807 → ∀ k, 19 ≤ k → halberdref05_Digits.f k (u : Int) = some (B (Lib.decDigits u)) := fun u hu k hk => at_rounds (fun k => halberdref05_Digits.mono _ k) hk (digits_nat 19 u (by omega) hu (by decide))
  obtain ⟨k, rfl⟩ : ∃ m, k = m + 1 := ⟨k - 1, by omega⟩
  by_cases hm : n = -9223372036854775808
  · subst hm
    rw [halberdref05_Digits.f, if_pos rfl]
    show _ = some (B (Lib.itoa (-9223372036854775808)))
    rw [itoa_min]
    rfl
  by_cases hneg : n < 0
  · have hw : wrap64 (-n) = ((n.natAbs : Nat) : Int) := by unfold wrap64; omega
    have hl := dig_len n.natAbs (by omega)
    rw [halberdref05_Digits.f, if_neg hm, if_pos hneg, hw, up n.natAbs (by omega) k (by omega), Option.bind_some, if_pos (by rw [B_size]; omega)]
    show some (B [45] ++ _) = some (B (Lib.itoa n))
    rw [B_app]
    unfold Lib.itoa
    rw [if_pos hneg]
    rfl
  · obtain ⟨u, rfl⟩ : ∃ u : Nat, n = (u : Int) := ⟨n.toNat, by omega⟩
    rw [up u (by omega) (k + 1) (by omega)]
    show some (B _) = some (B (Lib.itoa (u : Int)))
    unfold Lib.itoa
    rw [if_neg (by omega), Int.toNat_natCast]
theorem itoa_size (n : Int) (h : stat_ok n) : (stat_itoa n).size ≤ 21 := by
  show (B (Lib.itoa n)).size ≤ 21
  rw [B_size]
  exact Lib.itoa_length_le n h.1 h.2
theorem ref_loop (l : List Int) (hl : l.length = 7) (hok : ∀ n ∈ l, stat_ok n) : ∀ (d k i : Nat) (s : List UInt8), i + d = 7 → 0 < i → d + 25 < k → s.length ≤ 30 * i → halberdref23_Stat.l0 k l (B s) (i : Int) = some (B (s ++ Lib.joinTail [32] ((l.drop i).map Lib.itoa)))
  | 0, k, i, s, hd, h0, hk, hs => by
    obtain ⟨k, rfl⟩ : ∃ m, k = m + 1 := ⟨k - 1, by omega⟩
    rw [halberdref23_Stat.l0, if_neg (by omega), List.drop_eq_nil_of_le (by omega)]
    simp [Lib.joinTail]
  | d + 1, k, i, s, hd, h0, hk, hs => by
    obtain ⟨k, rfl⟩ : ∃ m, k = m + 1 := ⟨k - 1, by omega⟩
    have hi : i < l.length := by omega
    have hr : rd l (i : Int) = l[i] := by simp [rd, hi]
    have ho := hok l[i] (List.getElem_mem hi)
    have hw : wrap64 ((i : Int) + 1) = ((i + 1 : Nat) : Int) := by unfold wrap64; omega
    have hz := itoa_size _ ho
    have hz' : (Lib.itoa l[i]).length ≤ 21 := Lib.itoa_length_le _ ho.1 ho.2
    have e1 : B s ++ (⟨#[32]⟩ : ByteArray) = B (s ++ [32]) := B_app s [32]
    have e2 : B (s ++ [32]) ++ stat_itoa l[i] = B ((s ++ [32]) ++ Lib.itoa l[i]) := B_app _ _
    rw [halberdref23_Stat.l0, if_pos (by omega), if_pos (by omega), if_pos (by rw [B_size]; omega), if_pos (by omega), hr, digits_val _ ho.1 ho.2 k (by omega), Option.bind_some, e1, if_pos (by rw [B_size]; simp; omega), e2, hw,
      ref_loop l hl hok d k (i + 1) _ (by omega) (by omega) (by omega) (by simp; omega)]
    rw [List.drop_eq_getElem_cons hi]
    have e3 : Lib.joinTail [32] (List.map Lib.itoa (l[i] :: List.drop (i + 1) l)) = [32] ++ (Lib.itoa l[i] ++ Lib.joinTail [32] (List.map Lib.itoa (List.drop (i + 1) l))) := rfl
    rw [e3]
    simp only [List.append_assoc]
theorem ref_stat (l : List Int) (hl : l.length = 7) (hok : ∀ n ∈ l, stat_ok n) : halberdref23_Stat.l0 60 l (⟨#[]⟩ : ByteArray) 0 = some (stat_s l) := by
  have hi : 0 < l.length := by omega
  have hr : rd l 0 = l[0] := by simp [rd, hi]
  have ho := hok l[0] (List.getElem_mem hi)
  have hz' : (Lib.itoa l[0]).length ≤ 21 := Lib.itoa_length_le _ ho.1 ho.2
  have hz := itoa_size _ ho
  have e1 : (⟨#[]⟩ : ByteArray) ++ stat_itoa l[0] = B (Lib.itoa l[0]) := (B_app [] _).trans rfl
  have hw : wrap64 (0 + 1) = ((1 : Nat) : Int) := by unfold wrap64; omega
  have h0 : (⟨#[]⟩ : ByteArray).size = 0 := rfl
  rw [halberdref23_Stat.l0, if_pos (by omega), if_neg (by omega), if_pos (by omega), hr, digits_val _ ho.1 ho.2 59 (by omega), Option.bind_some, h0, if_pos (by omega), e1, hw, ref_loop l hl hok 6 59 1 _ (by omega) (by omega) (by omega) (by omega)]
  show some (B _) = some (B (Lib.join (l.map Lib.itoa) [32]))
  match l, hi with
  | a :: r, _ => simp [Lib.join_cons]
theorem PermsStat : halberdlaw23_PermsStat.Pure := by
  intro a b c d e f g s n m u h
  obtain ⟨ha, hb, hc, hd, he, hf, hg, hs, hn, hm, hu⟩ := h
  refine ⟨60, ?_⟩
  unfold halberdlaw23_PermsStat.f
  refine ask_ (p_alive 60 (by decide +kernel) (by decide +kernel) (by decide +kernel)) ?_
  by_cases h100 : (n.length : Int) > 100
  · rw [if_pos h100]
  rw [if_neg h100]
  obtain ⟨z, hz⟩ : ∃ z, (if c = 2 then (n.length : Int) else (s.size : Int)) = z := ⟨_, rfl⟩
  have hzok : -9223372036854775808 ≤ z ∧ z ≤ 9223372036854775807 := by
    rw [← hz]
    split <;> omega
  have i64 : ∀ {x : Int}, (Lit.int .i64 x).wf = true → stat_ok x := fun {x} h => by have := i64_of h; unfold stat_ok; omega
  have hok : ∀ x ∈ [a, c, d, e, f, g, z], stat_ok x := by
    intro x hx
    simp only [List.mem_cons, List.mem_nil_iff, or_false] at hx
    rcases hx with rfl | rfl | rfl | rfl | rfl | rfl | rfl
    · exact i64 ha
    · exact i64 hc
    · exact i64 hd
    · exact i64 he
    · exact i64 hf
    · exact i64 hg
    · exact hzok
  have e1 : perms_Stat.f a b c d e f g s n m u = some (stat_s [a, c, d, e, f, g, z]) := by
    unfold perms_Stat.f
    rw [hz, if_pos (List.all_eq_true.2 fun x hx => decide_eq_true (p := -9223372036854775808 ≤ x ∧ x ≤ 9223372036854775807) (hok x hx))]
  have e2 : halberdref23_Stat.f 60 a b c d e f g s n m u = some (stat_s [a, c, d, e, f, g, z]) := by
    unfold halberdref23_Stat.f
    have e3 : halberdref23_Size.f a b c d e f g s n m u = some z := by
      unfold halberdref23_Size.f
      rw [← hz]
      split <;> rfl
    rw [e3, Option.bind_some]
    exact ref_stat _ rfl hok
  refine have_ e1 (have_ e2 ?_)
  simp

end Go.Proofs.YtkbngkhajkhfgaaDoor.Pure
