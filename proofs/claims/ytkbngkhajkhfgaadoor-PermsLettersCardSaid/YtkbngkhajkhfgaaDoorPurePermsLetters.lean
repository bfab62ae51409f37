/- The letters of any mode are the document's, and a text is read just if it is the letters of what is read: for all modes and texts. -/
import Derived.Test.YtkbngkhajkhfgaaDoorPPermsLettersx2
import Derived.Test.YtkbngkhajkhfgaaDoorTB
import Derived.Lib.ItoaNum
set_option linter.unusedVariables false
set_option linter.unusedSimpArgs false
namespace Go.Proofs.YtkbngkhajkhfgaaDoor.Pure
open Go.RowKit Go.Proofs.YtkbngkhajkhfgaaDoor.PPermsLetters Go.Proofs.YtkbngkhajkhfgaaDoorW.PrintWords Go.Proofs.YtkbngkhajkhfgaaDoorW.PrintLast Go.Proofs.YtkbngkhajkhfgaaDoorW.PrintMore Go.Proofs.YtkbngkhajkhfgaaDoor.HB Go.Proofs.YtkbngkhajkhfgaaDoor.TB

theorem p_itoa {i : Nat} (h : i < 10) : Lib.itoa (i : Int) = [UInt8.ofNat (48 + i)] := by
  unfold Lib.itoa
  rw [if_neg (by omega), Int.toNat_natCast, Lib.decDigits_one h]
theorem p_stat : perms_Stat.f 2 0 1 0 0 0 0 (⟨#[97, 98, 99]⟩ : ByteArray) ([] : List ByteArray) ([] : List Int) 0 = some ⟨#[50, 32, 49, 32, 48, 32, 48, 32, 48, 32, 48, 32, 51]⟩ := by
  unfold perms_Stat.f
  have hsz : (if (1 : Int) = 2 then ((([] : List ByteArray).length : Nat) : Int) else (((⟨#[97, 98, 99]⟩ : ByteArray).size : Nat) : Int)) = 3 := rfl
  rw [hsz, if_pos (by decide)]
  unfold stat_s
  have h0 : Lib.itoa 0 = [48] := p_itoa (i := 0) (by decide)
  have h1 : Lib.itoa 1 = [49] := p_itoa (i := 1) (by decide)
  have h2 : Lib.itoa 2 = [50] := p_itoa (i := 2) (by decide)
  have h3 : Lib.itoa 3 = [51] := p_itoa (i := 3) (by decide)
  simp only [List.map_cons, List.map_nil, h0, h1, h2, h3]
  rfl
theorem p_alive (k : Nat) (h1 : perms_Flags.f k 3 = some (6, true)) (h2 : perms_Flags.f k 4 = some (0, false)) (h3 : perms_Prot.f k 2 true false = some false) : halberdlaw23_alive.f k = some true := by
  unfold halberdlaw23_alive.f
  refine have_ h1 (have_ h2 ?_)
  refine yes_ rfl (yes_ rfl ?_)
  refine no_ (by decide) ?_
  refine have_ h3 ?_
  refine no_ (by decide) ?_
  refine have_ (v := true) (by unfold perms_Prot.f; rfl) ?_
  refine yes_ rfl ?_
  exact have_ p_stat (by decide +kernel)
theorem and_pow_nat (N i : Nat) : N &&& 2 ^ i = if N / 2 ^ i % 2 = 1 then 2 ^ i else 0 := by
  apply Nat.eq_of_testBit_eq
  intro j
  rw [Nat.testBit_and, Nat.testBit_two_pow]
  by_cases h : i = j
  · subst h
    rw [Nat.testBit_eq_decide_div_mod_eq]
    split <;> simp_all [Nat.testBit_two_pow]
  · split <;> simp [h, Nat.testBit_two_pow]
theorem ofInt_small (q : Nat) (h : q < 9223372036854775808) : (BitVec.ofInt 64 (q : Int)).toNat = q := by
  rw [BitVec.toNat_ofInt]
  have : ((2 ^ 64 : Nat) : Int) = 18446744073709551616 := by decide
  rw [this]
  omega
theorem wrap_small (q : Nat) (h : q < 9223372036854775808) : IntKind.i64.wrap (q : Int) = q := by
  rw [IntKind.wrap_i64]
  omega
theorem and_pow (x : Int) (i : Nat) (hi : i < 63) : Go.bits .and .i64 x ((2 ^ i : Nat) : Int) = if ((x % 18446744073709551616).toNat / 2 ^ i) % 2 = 1 then ((2 ^ i : Nat) : Int) else 0 := by
  have hp : 2 ^ i < 2 ^ 63 := Nat.pow_lt_pow_right (by decide) hi
  have hp63 : (2 : Nat) ^ 63 = 9223372036854775808 := by decide
  rw [hp63] at hp
  have e2 := ofInt_small _ hp
  have key : (BitVec.ofInt 64 x &&& BitVec.ofInt 64 ((2 ^ i : Nat) : Int)).toNat = if ((x % 18446744073709551616).toNat / 2 ^ i) % 2 = 1 then 2 ^ i else 0 := by
    rw [BitVec.toNat_and, e2, and_pow_nat, BitVec.toNat_ofInt]
    have : ((2 ^ 64 : Nat) : Int) = 18446744073709551616 := by decide
    rw [this]
  show IntKind.i64.wrap ((BitVec.ofInt 64 x &&& BitVec.ofInt 64 ((2 ^ i : Nat) : Int)).toNat : Nat) = _
  rw [key]
  split
  · exact wrap_small _ hp
  · rfl
theorem and_one (x : Int) : Go.bits .and .i64 x 1 = x % 2 := by
  have h := and_pow x 0 (by decide)
  have e : ((2 ^ 0 : Nat) : Int) = 1 := rfl
  rw [e] at h
  rw [h]
  simp only [Nat.pow_zero, Nat.div_one]
  split <;> omega
/-- A byte array's bytes. -/
theorem toList_loop (b : ByteArray) : ∀ (d i : Nat) (r : List UInt8), b.size - i = d → ByteArray.toList.loop b i r = r.reverse ++ b.data.toList.drop i
  | 0, i, r, h => by
    rw [ByteArray.toList.loop]
    have hs : b.data.toList.length = b.size := by rw [Array.length_toList]; rfl
    rw [if_neg (by omega), List.drop_eq_nil_of_le (by omega), List.append_nil]
  | d + 1, i, r, h => by
    rw [ByteArray.toList.loop]
    have hs : b.data.toList.length = b.size := by rw [Array.length_toList]; rfl
    have hi : i < b.data.toList.length := by omega
    rw [if_pos (by omega), toList_loop b d (i + 1) _ (by omega), List.drop_eq_getElem_cons hi]
    have hg : b.get! i = b.data.toList[i] := by
      have : i < b.data.size := by simpa using hi
      simp only [ByteArray.get!]
      rw [getElem!_pos b.data i this]
      simp
    rw [hg]
    simp
theorem toList_data (b : ByteArray) : b.toList = b.data.toList := by
  rw [ByteArray.toList, toList_loop b _ 0 [] rfl]
  simp
theorem toList_inj {a b : ByteArray} (h : a.toList = b.toList) : a = b := by
  rw [toList_data, toList_data] at h
  cases a; cases b
  congr
  exact Array.toList_inj.1 h
theorem bytes_inj' {a b : ByteArray} (h : a.data.toList = b.data.toList) : a = b := by
  cases a; cases b
  congr
  exact Array.toList_inj.1 h
/-- The letters by nine answers. -/
def plw (f : Nat → Bool) : ByteArray := strOfNums ((List.range 9).map fun j => if f j then pl_b j else 45)
/-- A number's bits, from the highest of nine on. -/
def plf (m : Nat) (j : Nat) : Bool := m / 2 ^ (8 - j) % 2 == 1
theorem strOf_len (l : List Int) : (strOfNums l).size = l.length := by
  simp [strOfNums, ByteArray.size]
theorem bit_i64 (x : Int) (j : Nat) (hj : j ≤ 8) : (Go.bits .and .i64 x ((2 ^ j : Nat) : Int) = 0) = (Go.bits .and .i64 (((x % 512).toNat : Nat) : Int) ((2 ^ j : Nat) : Int) = 0) := by
  rw [and_pow x j (by omega), and_pow _ j (by omega)]
  have h : (x % 18446744073709551616).toNat / 2 ^ j % 2 = ((((x % 512).toNat : Nat) : Int) % 18446744073709551616).toNat / 2 ^ j % 2 := by
    rcases (by omega : j = 0 ∨ j = 1 ∨ j = 2 ∨ j = 3 ∨ j = 4 ∨ j = 5 ∨ j = 6 ∨ j = 7 ∨ j = 8) with rfl | rfl | rfl | rfl | rfl | rfl | rfl | rfl | rfl <;> simp only [Nat.reducePow] <;> omega
  rw [h]
theorem halve (x : Int) (h : x = 0 ∨ ∃ j : Nat, j ≤ 8 ∧ x = ((2 ^ j : Nat) : Int)) : wrap64 (Int.tdiv x 2) = 0 ∨ ∃ j : Nat, j ≤ 8 ∧ wrap64 (Int.tdiv x 2) = ((2 ^ j : Nat) : Int) := by
  rcases h with rfl | ⟨j, hj, rfl⟩
  · exact .inl (by decide +kernel)
  · rcases (by omega : j = 0 ∨ j = 1 ∨ j = 2 ∨ j = 3 ∨ j = 4 ∨ j = 5 ∨ j = 6 ∨ j = 7 ∨ j = 8) with rfl | rfl | rfl | rfl | rfl | rfl | rfl | rfl | rfl
    · exact .inl (by decide +kernel)
    · exact .inr ⟨0, by omega, by decide +kernel⟩
    · exact .inr ⟨1, by omega, by decide +kernel⟩
    · exact .inr ⟨2, by omega, by decide +kernel⟩
    · exact .inr ⟨3, by omega, by decide +kernel⟩
    · exact .inr ⟨4, by omega, by decide +kernel⟩
    · exact .inr ⟨5, by omega, by decide +kernel⟩
    · exact .inr ⟨6, by omega, by decide +kernel⟩
    · exact .inr ⟨7, by omega, by decide +kernel⟩
theorem and_zero (x : Int) : Go.bits .and .i64 x 0 = 0 := by
  show IntKind.i64.wrap ((BitVec.ofInt 64 x &&& BitVec.ofInt 64 0).toNat : Nat) = _
  have e : BitVec.ofInt 64 0 = 0#64 := rfl
  rw [e, BitVec.and_zero]
  rfl
theorem ref_low (x : Int) : ∀ (k : Nat) (s : ByteArray) (p i : Int), (p = 0 ∨ ∃ j : Nat, j ≤ 8 ∧ p = ((2 ^ j : Nat) : Int)) → halberdref23_Letters.l0 k x s p i = halberdref23_Letters.l0 k (((x % 512).toNat : Nat) : Int) s p i
  | 0, _, _, _, _ => rfl
  | k + 1, s, p, i, hp => by
    have ih := fun s i => ref_low x k s _ i (halve p hp)
    have hb : (Go.bits .and .i64 x p = 0) = (Go.bits .and .i64 (((x % 512).toNat : Nat) : Int) p = 0) := by
      rcases hp with rfl | ⟨j, hj, rfl⟩
      · rw [and_zero, and_zero]
      · exact bit_i64 x j hj
    simp only [halberdref23_Letters.l0, hb, ih]
theorem ref_all : ∀ m : Fin 512, halberdref23_Letters.f 600 ((m.val : Nat) : Int) = some (plw (plf m.val)) := by decide +kernel
theorem mode_all : ∀ m : Fin 512, perms_Mode.f 600 (plw (plf m.val)) = some (((m.val : Nat) : Int), true) := by decide +kernel
theorem ref_val (x : Int) : halberdref23_Letters.f 600 x = some (plw (plf (x % 512).toNat)) := by
  have h := ref_all ⟨(x % 512).toNat, by omega⟩
  unfold halberdref23_Letters.f at h ⊢
  rw [ref_low x 600 _ 256 _ (.inr ⟨8, by omega, rfl⟩)]
  exact h
theorem prog_val (x : Int) : perms_Letters.f x = some (plw (plf (x % 512).toNat)) := by
  unfold perms_Letters.f plw
  congr 2
  refine List.map_congr_left (fun j hj => ?_)
  have hj := List.mem_range.1 hj
  unfold pl_c plf
  rw [and_one]
  have e : shr .i64 x (8 - (j : Int)) % 2 = ((((x % 512).toNat / 2 ^ (8 - j) % 2 : Nat)) : Int) := by
    unfold shr
    rcases (by omega : j = 0 ∨ j = 1 ∨ j = 2 ∨ j = 3 ∨ j = 4 ∨ j = 5 ∨ j = 6 ∨ j = 7 ∨ j = 8) with rfl | rfl | rfl | rfl | rfl | rfl | rfl | rfl | rfl
    · show x / 256 % 2 = (((x % 512).toNat / 256 % 2 : Nat) : Int); omega
    · show x / 128 % 2 = (((x % 512).toNat / 128 % 2 : Nat) : Int); omega
    · show x / 64 % 2 = (((x % 512).toNat / 64 % 2 : Nat) : Int); omega
    · show x / 32 % 2 = (((x % 512).toNat / 32 % 2 : Nat) : Int); omega
    · show x / 16 % 2 = (((x % 512).toNat / 16 % 2 : Nat) : Int); omega
    · show x / 8 % 2 = (((x % 512).toNat / 8 % 2 : Nat) : Int); omega
    · show x / 4 % 2 = (((x % 512).toNat / 4 % 2 : Nat) : Int); omega
    · show x / 2 % 2 = (((x % 512).toNat / 2 % 2 : Nat) : Int); omega
    · show x / 1 % 2 = (((x % 512).toNat / 1 % 2 : Nat) : Int); omega
  rw [e]
  generalize (x % 512).toNat / 2 ^ (8 - j) = q
  by_cases hq : q % 2 = 1
  · rw [if_neg (by omega), if_pos (by rw [hq]; rfl)]
  · rw [if_pos (by omega), if_neg (by simp; omega)]
/-- What a text that is read is, from a place on. -/
theorem mode_loop (s : ByteArray) (hs : s.size = 9) : ∀ (d k : Nat) (x : Int) (i : Nat), i + d = 9 → d < k → ∃ n b, perms_Mode.l0 k s x 9 (i : Int) = some (n, b) ∧ (b = false → n = 0) ∧ (b = true → ∀ j, i ≤ j → j < 9 → bt s (j : Int) = pl_b j ∨ bt s (j : Int) = 45)
  | 0, k, x, i, hd, hk => by
    obtain ⟨k, rfl⟩ : ∃ m, k = m + 1 := ⟨k - 1, by omega⟩
    refine ⟨x, true, ?_, (fun h => absurd h (by decide)), (fun _ j h1 h2 => absurd h2 (by omega))⟩
    rw [perms_Mode.l0, if_neg (by omega)]
  | d + 1, k, x, i, hd, hk => by
    obtain ⟨k, rfl⟩ : ∃ m, k = m + 1 := ⟨k - 1, by omega⟩
    have hi : wrap64 ((i : Int) + 1) = ((i + 1 : Nat) : Int) := by unfold wrap64; omega
    have hl : bt (⟨#[114, 119, 120, 114, 119, 120, 114, 119, 120]⟩ : ByteArray) (i : Int) = pl_b i := by
      rcases (by omega : i = 0 ∨ i = 1 ∨ i = 2 ∨ i = 3 ∨ i = 4 ∨ i = 5 ∨ i = 6 ∨ i = 7 ∨ i = 8) with rfl | rfl | rfl | rfl | rfl | rfl | rfl | rfl | rfl <;> rfl
    rw [perms_Mode.l0, if_pos (by omega), if_pos (by omega), if_pos (by omega), if_pos (by omega), hl, hi]
    by_cases h1 : bt s (i : Int) = pl_b i
    · rw [if_pos h1]
      obtain ⟨n, b, e, hf, ht⟩ := mode_loop s hs d k (Go.bits .or .i64 (wrap64 (x * 2)) 1) (i + 1) (by omega) (by omega)
      refine ⟨n, b, e, hf, fun hb j hj1 hj2 => ?_⟩
      by_cases hji : j = i
      · subst hji; exact .inl h1
      · exact ht hb j (by omega) hj2
    · rw [if_neg h1]
      by_cases h2 : bt s (i : Int) = 45
      · rw [if_pos h2]
        obtain ⟨n, b, e, hf, ht⟩ := mode_loop s hs d k (wrap64 (x * 2)) (i + 1) (by omega) (by omega)
        refine ⟨n, b, e, hf, fun hb j hj1 hj2 => ?_⟩
        by_cases hji : j = i
        · subst hji; exact .inr h2
        · exact ht hb j (by omega) hj2
      · rw [if_neg h2]
        exact ⟨0, false, rfl, fun _ => rfl, fun h => absurd h (by decide)⟩
theorem str_bt (s : ByteArray) (hs : s.size = 9) : s = strOfNums ((List.range 9).map fun j => bt s ((j : Nat) : Int)) := by
  apply bytes_inj'
  apply List.ext_getElem
  · rw [Array.length_toList]
    show s.size = _
    rw [hs]
    simp [strOfNums]
  · intro j h1 h2
    have hj : j < 9 := by rw [Array.length_toList] at h1; have : s.data.size = s.size := rfl; omega
    have hb := bt_at s (j : Int) (by omega)
    simp only [strOfNums, List.getElem_map, List.getElem_range]
    rw [← hb]
    simp
    rfl
def nb (b0 b1 b2 b3 b4 b5 b6 b7 b8 : Bool) : Nat := 256 * b0.toNat + 128 * b1.toNat + 64 * b2.toNat + 32 * b3.toNat + 16 * b4.toNat + 8 * b5.toNat + 4 * b6.toNat + 2 * b7.toNat + b8.toNat
theorem nb_ok (b0 b1 b2 b3 b4 b5 b6 b7 b8 : Bool) : nb b0 b1 b2 b3 b4 b5 b6 b7 b8 < 512 ∧ plf (nb b0 b1 b2 b3 b4 b5 b6 b7 b8) 0 = b0 ∧ plf (nb b0 b1 b2 b3 b4 b5 b6 b7 b8) 1 = b1 ∧ plf (nb b0 b1 b2 b3 b4 b5 b6 b7 b8) 2 = b2 ∧ plf (nb b0 b1 b2 b3 b4 b5 b6 b7 b8) 3 = b3 ∧ plf (nb b0 b1 b2 b3 b4 b5 b6 b7 b8) 4 = b4 ∧ plf (nb b0 b1 b2 b3 b4 b5 b6 b7 b8) 5 = b5 ∧ plf (nb b0 b1 b2 b3 b4 b5 b6 b7 b8) 6 = b6 ∧ plf (nb b0 b1 b2 b3 b4 b5 b6 b7 b8) 7 = b7 ∧ plf (nb b0 b1 b2 b3 b4 b5 b6 b7 b8) 8 = b8 := by
  revert b0 b1 b2 b3 b4 b5 b6 b7 b8
  decide +kernel
theorem plw_num (f : Nat → Bool) : ∃ m, m < 512 ∧ plw f = plw (plf m) := by
  have h := nb_ok (f 0) (f 1) (f 2) (f 3) (f 4) (f 5) (f 6) (f 7) (f 8)
  refine ⟨nb (f 0) (f 1) (f 2) (f 3) (f 4) (f 5) (f 6) (f 7) (f 8), h.1, ?_⟩
  generalize nb (f 0) (f 1) (f 2) (f 3) (f 4) (f 5) (f 6) (f 7) (f 8) = m at h
  obtain ⟨_, h0, h1, h2, h3, h4, h5, h6, h7, h8⟩ := h
  unfold plw
  congr 1
  show [_, _, _, _, _, _, _, _, _] = [_, _, _, _, _, _, _, _, _]
  simp only [h0, h1, h2, h3, h4, h5, h6, h7, h8]
/-- A text is read as what it is the letters of, or not at all. -/
theorem mode_val (s : ByteArray) : (∃ m, m < 512 ∧ s = plw (plf m) ∧ perms_Mode.f 600 s = some (((m : Nat) : Int), true)) ∨ ((∀ m, m < 512 → s ≠ plw (plf m)) ∧ perms_Mode.f 600 s = some (0, false)) := by
  have hno : ∀ n, perms_Mode.f 600 s = some (n, false) → ∀ m, m < 512 → s ≠ plw (plf m) := by
    intro n h m hm e
    have := mode_all ⟨m, hm⟩
    rw [← e, h] at this
    cases this
  by_cases hs : s.size = 9
  · obtain ⟨n, b, e, hf, ht⟩ := mode_loop s hs 9 600 0 0 (by omega) (by omega)
    have e' : perms_Mode.f 600 s = some (n, b) := by
      unfold perms_Mode.f
      rw [if_pos (by omega), hs]
      exact e
    cases b with
    | false =>
      obtain rfl := hf rfl
      exact .inr ⟨hno 0 e', e'⟩
    | true =>
      left
      have hb := ht rfl
      have hp : s = plw (fun j => bt s ((j : Nat) : Int) == pl_b j) := by
        conv => lhs; rw [str_bt s hs]
        unfold plw
        congr 1
        refine List.map_congr_left (fun j hj => ?_)
        have hj := List.mem_range.1 hj
        rcases hb j (by omega) hj with h | h
        · rw [if_pos (beq_iff_eq.mpr h), h]
        · by_cases h2 : bt s (j : Int) = pl_b j
          · rw [if_pos (beq_iff_eq.mpr h2), h2]
          · rw [if_neg (by simpa using h2), h]
      obtain ⟨m, hm, e2⟩ := plw_num (fun j => bt s ((j : Nat) : Int) == pl_b j)
      have e3 : s = plw (plf m) := hp.trans e2
      refine ⟨m, hm, e3, ?_⟩
      rw [e3]
      exact mode_all ⟨m, hm⟩
  · right
    have e' : perms_Mode.f 600 s = some (0, false) := by
      unfold perms_Mode.f
      rw [if_neg (by omega)]
    exact ⟨hno 0 e', e'⟩
theorem none_loop (s : ByteArray) (h : ∀ m, m < 512 → s ≠ plw (plf m)) : ∀ (d k i : Nat), i + d = 512 → d + 600 < k → halberdlaw23_PermsLetters.l0 k s 0 (i : Int) = some true
  | 0, k, i, hd, hk => by
    obtain ⟨k, rfl⟩ : ∃ m, k = m + 1 := ⟨k - 1, by omega⟩
    rw [halberdlaw23_PermsLetters.l0, if_neg (by omega)]
    rfl
  | d + 1, k, i, hd, hk => by
    obtain ⟨k, rfl⟩ : ∃ m, k = m + 1 := ⟨k - 1, by omega⟩
    have hi : wrap64 ((i : Int) + 1) = ((i + 1 : Nat) : Int) := by unfold wrap64; omega
    have hr : halberdref23_Letters.f k (i : Int) = some (plw (plf i)) := by
      have h0 := ref_val (i : Int)
      have e : ((i : Int) % 512).toNat = i := by omega
      rw [e] at h0
      exact at_rounds (fun k => halberdref23_Letters.mono _ k) (by omega) h0
    rw [halberdlaw23_PermsLetters.l0, if_pos (by omega), hr, Option.bind_some, if_neg (fun e => h i (by omega) (toList_inj e).symm), hi]
    exact none_loop s h d k (i + 1) (by omega) (by omega)
theorem PermsLetters : halberdlaw23_PermsLetters.Pure := by
  intro a s ha _
  refine ⟨1300, ?_⟩
  unfold halberdlaw23_PermsLetters.f
  refine ask_ (p_alive 1300 (by decide +kernel) (by decide +kernel) (by decide +kernel)) ?_
  by_cases hs : (s.size : Int) > 100
  · rw [if_pos hs]
  rw [if_neg hs]
  have hm : (a % 512).toNat < 512 := by omega
  have up : ∀ x v, perms_Mode.f 600 x = some v → perms_Mode.f 1300 x = some v := fun x v h => at_rounds (fun k => perms_Mode.mono _ k) (by omega) h
  have upr : ∀ x v, halberdref23_Letters.f 600 x = some v → halberdref23_Letters.f 1300 x = some v := fun x v h => at_rounds (fun k => halberdref23_Letters.mono _ k) (by omega) h
  have e1 := up _ _ (mode_all ⟨(a % 512).toNat, hm⟩)
  have e511 : Go.bits .and .i64 a 511 = a % 512 := by
    have h511 : (BitVec.ofInt 64 511).toNat = 2 ^ 9 - 1 := by decide
    have key : (BitVec.ofInt 64 a &&& BitVec.ofInt 64 511).toNat = (a % ((2 ^ 64 : Nat) : Int)).toNat % 2 ^ 9 := by
      rw [BitVec.toNat_and, BitVec.toNat_ofInt, h511, Nat.and_two_pow_sub_one_eq_mod]
    show IntKind.i64.wrap ((BitVec.ofInt 64 a &&& BitVec.ofInt 64 511).toNat : Nat) = a % 512
    rw [key, IntKind.wrap_i64]
    omega
  refine have_ (prog_val a) (have_ e1 ?_)
  have hne : ((((a % 512).toNat : Nat) : Int) != Go.bits .and .i64 a 511) = false := by
    rw [e511]
    simp
    omega
  rcases mode_val s with ⟨m, hm2, e, h⟩ | ⟨hno, h⟩
  · refine have_ (up _ _ h) (have_ (upr _ _ (ref_val a)) ?_)
    rw [if_pos rfl, if_pos rfl]
    show halberdlaw23_PermsLetters.j0 1300 s (m : Int) true (((((a % 512).toNat : Nat) : Int) != Go.bits .and .i64 a 511)) = some true
    rw [hne, halberdlaw23_PermsLetters.j0, if_neg (by decide), if_pos rfl, if_pos (by omega), if_pos (by omega)]
    have h0 := ref_val (m : Int)
    have em : ((m : Int) % 512).toNat = m := by omega
    rw [em] at h0
    rw [at_rounds (fun k => halberdref23_Letters.mono _ k) (show 600 ≤ 1299 by omega) h0, Option.bind_some, e]
    simp
  · refine have_ (up _ _ h) (have_ (upr _ _ (ref_val a)) ?_)
    rw [if_pos rfl, if_pos rfl]
    show halberdlaw23_PermsLetters.j0 1300 s 0 false (((((a % 512).toNat : Nat) : Int) != Go.bits .and .i64 a 511)) = some true
    rw [hne, halberdlaw23_PermsLetters.j0, if_neg (by decide), if_neg (by decide)]
    exact none_loop s hno 512 1299 0 (by omega) (by omega)

end Go.Proofs.YtkbngkhajkhfgaaDoor.Pure
