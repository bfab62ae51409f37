/- What is loaded from any bytes, and what storing makes of them, is the document's: for every list of bytes, every place, every count of bytes and every number. -/
import Derived.Test.YtjpjcmokffjnaaaPWBx3
import Derived.Test.YtjpjcmokffjnaaaHB
set_option linter.unusedVariables false
set_option linter.unusedSimpArgs false
namespace Go.Proofs.Ytjpjcmokffjnaaa.Pure
open Go.RowKit Go.Proofs.Ytjpjcmokffjnaaa.PWB Go.Proofs.YtjpjcmokffjnaaaW.PrintWords Go.Proofs.YtjpjcmokffjnaaaW.PrintLast Go.Proofs.YtjpjcmokffjnaaaW.PrintMore Go.Proofs.Ytjpjcmokffjnaaa.HB

theorem wb_alive (k : Nat) : halberdlaw01_alive.f (100 + k) = some true := by
  refine at_rounds halberdlaw01_alive.mono (k := 100) (by omega) ?_
  decide +kernel

/-- The number of bytes, the lowest first. -/
def wbLe : List Int → Int
  | [] => 0
  | b :: t => b + 256 * wbLe t
theorem wbLe_snoc (l : List Int) (b : Int) : wbLe (l ++ [b]) = wbLe l + b * 256 ^ l.length := by
  induction l with
  | nil => simp [wbLe]
  | cons a t ih =>
    simp only [List.cons_append, wbLe, ih, List.length_cons, Int.pow_succ]
    rw [Int.mul_add, Int.add_assoc]
    congr 2
    rw [← Int.mul_assoc, ← Int.mul_assoc, Int.mul_comm 256 b, Int.mul_assoc, Int.mul_assoc, Int.mul_comm 256]
def IsBytes (l : List Int) : Prop := ∀ x ∈ l, 0 ≤ x ∧ x < 256
theorem wbLe_range (l : List Int) (h : IsBytes l) : 0 ≤ wbLe l ∧ wbLe l < 256 ^ l.length := by
  induction l with
  | nil => simp [wbLe]
  | cons a t ih =>
    have h1 := h a (by simp)
    have h2 := ih (fun x hx => h x (by simp [hx]))
    simp only [wbLe, List.length_cons, Int.pow_succ]
    omega
theorem rd_byte (l : List Int) (h : IsBytes l) (i : Int) : 0 ≤ rd l i ∧ rd l i < 256 := by
  unfold rd
  rw [List.getD_eq_getElem?_getD]
  cases e : l[i.toNat]? with
  | none => simp
  | some v => exact h v (List.mem_of_getElem? e)

theorem pow_le8 (i : Nat) (h : i ≤ 8) : (256 : Int) ^ i ≤ 18446744073709551616 := by
  have : ∀ i : Fin 9, (256 : Int) ^ i.val ≤ 18446744073709551616 := by decide
  exact this ⟨i, by omega⟩
theorem pow_256 (i : Nat) : (2 : Int) ^ (8 * i) = 256 ^ i := by rw [Int.pow_mul]; rfl

theorem shl_byte (b : Int) (i : Nat) (h : i < 8) (h0 : 0 ≤ b) (h1 : b < 256) : shl .u64 b ((8 * i : Nat) : Int) = b * 256 ^ i := by
  unfold shl
  have e : min ((8 * i : Nat) : Int).toNat IntKind.u64.bits = 8 * i := by
    have : IntKind.u64.bits = 64 := by kernel_rfl
    rw [this]
    omega
  rw [e, pow_256]
  have hp := pow_le8 (i + 1) (by omega)
  rw [Int.pow_succ] at hp
  have hp0 : (0 : Int) < 256 ^ i := Int.pow_pos (by decide)
  refine wrap_u64_id (Int.mul_nonneg h0 (by omega)) ?_
  have : b * 256 ^ i ≤ 255 * 256 ^ i := Int.mul_le_mul_of_nonneg_right (by omega) (by omega)
  omega

theorem or_add (acc b : Int) (i : Nat) (h : i < 8) (a0 : 0 ≤ acc) (a1 : acc < 256 ^ i) (h0 : 0 ≤ b) (h1 : b < 256) :
    bits .or .u64 acc (b * 256 ^ i) = acc + b * 256 ^ i := by
  have hp := pow_le8 (i + 1) (by omega)
  rw [Int.pow_succ] at hp
  have hp0 : (0 : Int) < 256 ^ i := Int.pow_pos (by decide)
  have hb : b * 256 ^ i ≤ 255 * 256 ^ i := Int.mul_le_mul_of_nonneg_right (by omega) (by omega)
  have hb0 : 0 ≤ b * 256 ^ i := Int.mul_nonneg h0 (by omega)
  obtain ⟨A, rfl⟩ := Int.eq_ofNat_of_zero_le a0
  obtain ⟨B, rfl⟩ := Int.eq_ofNat_of_zero_le h0
  have e : ((B : Nat) : Int) * 256 ^ i = ((B * 2 ^ (8 * i) : Nat) : Int) := by
    rw [Nat.pow_mul]
    simp
  have hA : A < 2 ^ (8 * i) := by
    have e2 : ((2 ^ (8 * i) : Nat) : Int) = 256 ^ i := by rw [Nat.pow_mul]; simp
    omega
  rw [e] at hb hb0 ⊢
  rw [u64_or_nat _ _ (by omega) (by omega), Nat.or_comm]
  have := Nat.shiftLeft_add_eq_or_of_lt hA B
  rw [Nat.shiftLeft_eq] at this
  rw [← this]
  simp only [Int.natCast_add]
  omega

theorem rd_at (l : List Int) (i : Nat) (h : i < l.length) : rd l (i : Int) = l[i] := by
  unfold rd
  rw [Int.toNat_natCast, List.getD_eq_getElem?_getD, List.getElem?_eq_getElem h]
  rfl
theorem mod_step (x : Int) (h0 : 0 ≤ x) (m : Nat) : x % (256 ^ m * 256) = x % 256 ^ m + 256 ^ m * (x / 256 ^ m % 256) := by
  obtain ⟨X, rfl⟩ := Int.eq_ofNat_of_zero_le h0
  have h3 := @Nat.mod_mul (256 ^ m) 256 X
  have h4 := congrArg (Nat.cast : Nat → Int) h3
  simp only [Int.natCast_add, Int.natCast_mul, Int.natCast_emod, Int.natCast_ediv, Int.natCast_pow] at h4
  exact h4
theorem take_snoc_rd (l : List Int) (a i : Nat) (h : a + i < l.length) : (l.drop a).take (i + 1) = (l.drop a).take i ++ [rd l ((a + i : Nat) : Int)] := by
  have hl : i < (l.drop a).length := by simp; omega
  rw [List.take_succ_eq_append_getElem hl]
  rw [rd_at l (a + i) h, List.getElem_drop]

theorem isBytes_sub {l : List Int} (h : IsBytes l) (a n : Nat) : IsBytes ((l.drop a).take n) :=
  fun x hx => h x (List.mem_of_mem_drop (List.mem_of_mem_take hx))

theorem load_loop (l : List Int) (hl : IsBytes l) (a n : Nat) (hn : n ≤ 8) (hlen : a + n ≤ l.length) (hbig : l.length ≤ 300) :
    ∀ (d k i : Nat), i + d = n → d < k → words_Load.l0 k l a (wbLe ((l.drop a).take i)) n i = some (wbLe ((l.drop a).take n), true) := by
  intro d
  induction d with
  | zero =>
    intro k i hi hk
    obtain ⟨k, rfl⟩ : ∃ m, k = m + 1 := ⟨k - 1, by omega⟩
    obtain rfl : i = n := by omega
    simp only [words_Load.l0]
    rw [if_neg (by omega)]
  | succ d ih =>
    intro k i hi hk
    obtain ⟨k, rfl⟩ : ∃ m, k = m + 1 := ⟨k - 1, by omega⟩
    simp only [words_Load.l0]
    have e1 : wrap64 ((a : Int) + (i : Int)) = ((a + i : Nat) : Int) := by unfold wrap64; omega
    have e2 : wrap64 (8 * (i : Int)) = ((8 * i : Nat) : Int) := by unfold wrap64; omega
    have e3 : wrap64 ((i : Int) + 1) = ((i + 1 : Nat) : Int) := by unfold wrap64; omega
    rw [e1, e2, e3, if_pos (by omega), if_pos (by omega), if_pos (by omega), if_pos (by omega)]
    have hb := rd_byte l hl ((a + i : Nat) : Int)
    have hlen2 : ((l.drop a).take i).length = i := by simp; omega
    have hr := wbLe_range _ (isBytes_sub hl a i)
    rw [hlen2] at hr
    rw [wrap_u64_id hb.1 (by omega), shl_byte _ i (by omega) hb.1 hb.2, or_add _ _ i (by omega) hr.1 hr.2 hb.1 hb.2]
    have e4 : wbLe ((l.drop a).take i) + rd l ((a + i : Nat) : Int) * 256 ^ i = wbLe ((l.drop a).take (i + 1)) := by
      rw [take_snoc_rd l a i (by omega), wbLe_snoc, hlen2]
    rw [e4]
    exact ih k (i + 1) (by omega) (by omega)

/-- The document's way: from the highest byte down. -/
theorem rload_loop (l : List Int) (hl : IsBytes l) (a n : Nat) (hn : n ≤ 8) (hlen : a + n ≤ l.length) (hbig : l.length ≤ 300) :
    ∀ (i k : Nat), i ≤ n → i < k → halberdref01_Load.l0 k l a (wbLe ((l.drop (a + i)).take (n - i))) ((i : Int) - 1) = some (wbLe ((l.drop a).take n)) := by
  intro i
  induction i with
  | zero =>
    intro k hi hk
    obtain ⟨k, rfl⟩ : ∃ m, k = m + 1 := ⟨k - 1, by omega⟩
    simp only [halberdref01_Load.l0]
    rw [if_neg (by omega)]
    simp
  | succ i ih =>
    intro k hi hk
    obtain ⟨k, rfl⟩ : ∃ m, k = m + 1 := ⟨k - 1, by omega⟩
    simp only [halberdref01_Load.l0]
    have e0 : (((i + 1 : Nat) : Int) - 1) = (i : Int) := by omega
    rw [e0]
    have e1 : wrap64 ((a : Int) + (i : Int)) = ((a + i : Nat) : Int) := by unfold wrap64; omega
    have e3 : wrap64 ((i : Int) - 1) = ((i : Int) - 1) := by unfold wrap64; omega
    rw [e1, e3, if_pos (by omega), if_pos (by omega), if_pos (by omega)]
    have hb := rd_byte l hl ((a + i : Nat) : Int)
    have hlen2 : ((l.drop (a + (i + 1))).take (n - (i + 1))).length = n - (i + 1) := by simp; omega
    have hr := wbLe_range _ (isBytes_sub hl (a + (i + 1)) (n - (i + 1)))
    rw [hlen2] at hr
    have e4 : (l.drop (a + i)).take (n - i) = rd l ((a + i : Nat) : Int) :: (l.drop (a + (i + 1))).take (n - (i + 1)) := by
      have hx : a + i < l.length := by omega
      rw [List.drop_eq_getElem_cons hx, show n - i = (n - (i + 1)) + 1 by omega, List.take_succ_cons]
      rw [rd_at l (a + i) hx]
      simp [Nat.add_assoc]
    have hp := pow_le8 (n - (i + 1) + 1) (by omega)
    rw [Int.pow_succ] at hp
    have e5 : IntKind.u64.wrap ((IntKind.u64.wrap (256 * wbLe ((l.drop (a + (i + 1))).take (n - (i + 1))))) + (IntKind.u64.wrap (rd l ((a + i : Nat) : Int)))) = wbLe ((l.drop (a + i)).take (n - i)) := by
      rw [e4]
      simp only [wbLe, IntKind.wrap_u64]
      omega
    rw [e5]
    exact ih k (by omega) (by omega)

/-- What a store makes of bytes: from byte i on, d of them. -/
def putB (l : List Int) (a : Nat) (x : Int) : Nat → Nat → List Int
  | _, 0 => l
  | i, d + 1 => putB (l.set (a + i) (x / 256 ^ i % 256)) a x (i + 1) d
theorem putB_length (x : Int) (a : Nat) : ∀ (d i : Nat) (l : List Int), (putB l a x i d).length = l.length := by
  intro d
  induction d with
  | zero => intro i l; rfl
  | succ d ih => intro i l; simp [putB, ih]
theorem putB_bytes (x : Int) (a : Nat) : ∀ (d i : Nat) (l : List Int), IsBytes l → IsBytes (putB l a x i d) := by
  intro d
  induction d with
  | zero => intro i l h; exact h
  | succ d ih =>
    intro i l h
    refine ih _ _ fun y hy => ?_
    rcases List.mem_or_eq_of_mem_set hy with h1 | h1
    · exact h y h1
    · subst h1; omega
theorem putB_get (x : Int) (a : Nat) : ∀ (d i : Nat) (l : List Int) (j : Nat), a + i + d ≤ l.length → (putB l a x i d)[j]? = if a + i ≤ j ∧ j < a + i + d then some (x / 256 ^ (j - a) % 256) else l[j]? := by
  intro d
  induction d with
  | zero => intro i l j _; rw [if_neg (by omega)]; rfl
  | succ d ih =>
    intro i l j h
    simp only [putB]
    rw [ih _ _ _ (by simp; omega)]
    by_cases h1 : a + (i + 1) ≤ j ∧ j < a + (i + 1) + d
    · rw [if_pos h1, if_pos (by omega)]
    · rw [if_neg h1]
      by_cases h2 : j = a + i
      · subst h2
        rw [if_pos (by omega), List.getElem?_set_self (by omega)]
        rw [Nat.add_sub_cancel_left]
      · rw [if_neg (by omega), List.getElem?_set_ne (by omega)]
theorem store_loop (a n : Nat) (hn : n ≤ 8) (x : Int) (h0 : 0 ≤ x) (h1 : x < 18446744073709551616) :
    ∀ (d k i : Nat) (l : List Int), i + d = n → d < k → a + n ≤ l.length → l.length ≤ 300 → words_Store.l0 k l a x n i = some (true, putB l a x i d) := by
  intro d
  induction d with
  | zero =>
    intro k i l hi hk hlen hbig
    obtain ⟨k, rfl⟩ : ∃ m, k = m + 1 := ⟨k - 1, by omega⟩
    simp only [words_Store.l0]
    rw [if_neg (by omega)]
    rfl
  | succ d ih =>
    intro k i l hi hk hlen hbig
    obtain ⟨k, rfl⟩ : ∃ m, k = m + 1 := ⟨k - 1, by omega⟩
    simp only [words_Store.l0]
    have e1 : wrap64 ((a : Int) + (i : Int)) = ((a + i : Nat) : Int) := by unfold wrap64; omega
    have e2 : wrap64 (8 * (i : Int)) = ((8 * i : Nat) : Int) := by unfold wrap64; omega
    have e3 : wrap64 ((i : Int) + 1) = ((i + 1 : Nat) : Int) := by unfold wrap64; omega
    rw [e1, e2, e3, if_pos (by omega), if_pos (by omega), if_pos (by omega), if_pos (by omega)]
    have e4 : shr .u64 x ((8 * i : Nat) : Int) = x / 256 ^ i := by
      unfold shr
      have e : min ((8 * i : Nat) : Int).toNat IntKind.u64.bits = 8 * i := by
        have : IntKind.u64.bits = 64 := by kernel_rfl
        rw [this]
        omega
      rw [e, pow_256]
    rw [e4, Int.toNat_natCast]
    exact ih k (i + 1) _ (by omega) (by omega) (by simpa using hlen) (by simpa using hbig)
theorem stored_loop (a n : Nat) (hn : n ≤ 8) (x : Int) (h0 : 0 ≤ x) (h1 : x < 18446744073709551616) :
    ∀ (d k i : Nat) (l : List Int), i + d = n → d < k → a + n ≤ l.length → l.length ≤ 300 → halberdref01_Stored.l0 k a n (x / 256 ^ i) l i = some (putB l a x i d) := by
  intro d
  induction d with
  | zero =>
    intro k i l hi hk hlen hbig
    obtain ⟨k, rfl⟩ : ∃ m, k = m + 1 := ⟨k - 1, by omega⟩
    simp only [halberdref01_Stored.l0]
    rw [if_neg (by omega)]
    rfl
  | succ d ih =>
    intro k i l hi hk hlen hbig
    obtain ⟨k, rfl⟩ : ∃ m, k = m + 1 := ⟨k - 1, by omega⟩
    simp only [halberdref01_Stored.l0]
    have e1 : wrap64 ((a : Int) + (i : Int)) = ((a + i : Nat) : Int) := by unfold wrap64; omega
    have e3 : wrap64 ((i : Int) + 1) = ((i + 1 : Nat) : Int) := by unfold wrap64; omega
    rw [e1, e3, if_pos (by omega), if_pos (by omega), if_pos (by omega)]
    have hp0 : (0 : Int) < 256 ^ i := Int.pow_pos (by decide)
    have hq0 : 0 ≤ x / 256 ^ i := Int.ediv_nonneg h0 (by omega)
    have hq1 : x / 256 ^ i ≤ x := Int.ediv_le_self _ h0
    have e5 : Int.tmod (x / 256 ^ i) 256 % 256 = x / 256 ^ i % 256 := by rw [Int.tmod_eq_emod_of_nonneg hq0]; omega
    have e6 : IntKind.u64.wrap (Int.tdiv (x / 256 ^ i) 256) = x / 256 ^ (i + 1) := by
      rw [Int.tdiv_eq_ediv_of_nonneg hq0, wrap_u64_id (by omega) (by omega), Int.ediv_ediv_of_nonneg (by omega), Int.pow_succ]
    rw [e5, e6, Int.toNat_natCast]
    exact ih k (i + 1) _ (by omega) (by omega) (by simpa using hlen) (by simpa using hbig)

theorem putB_le (x : Int) (h0 : 0 ≤ x) (a n : Nat) (l : List Int) (hlen : a + n ≤ l.length) : wbLe (((putB l a x 0 n).drop a).take n) = x % 256 ^ n := by
  have key : ∀ m : Nat, m ≤ n → wbLe (((putB l a x 0 n).drop a).take m) = x % 256 ^ m := by
    intro m
    induction m with
    | zero => intro _; simp [wbLe]
    | succ m ih =>
      intro hm
      have hl : a + m < (putB l a x 0 n).length := by rw [putB_length]; omega
      rw [take_snoc_rd _ a m hl, wbLe_snoc, ih (by omega)]
      have e : rd (putB l a x 0 n) ((a + m : Nat) : Int) = x / 256 ^ m % 256 := by
        have := putB_get x a n 0 l (a + m) (by omega)
        rw [if_pos (by omega)] at this
        have hx := rd_at _ (a + m) hl
        rw [List.getElem?_eq_getElem hl] at this
        rw [hx, Option.some.inj this, Nat.add_sub_cancel_left]
      have e2 : (((putB l a x 0 n).drop a).take m).length = m := by rw [List.length_take, List.length_drop, putB_length]; omega
      rw [e, e2, Int.pow_succ]
      rw [mod_step x h0 m, Int.mul_comm (x / 256 ^ m % 256)]
  exact key n (Nat.le_refl n)

theorem zext_val (n : Nat) (hn : n = 1 ∨ n = 2 ∨ n = 4 ∨ n = 8) (k : Nat) (x : Int) (h0 : 0 ≤ x) (h1 : x < 18446744073709551616) : halberdref01_Zext.f (100 + k) x n = some (x % 256 ^ n) := by
  refine at_rounds (fun j => halberdref01_Zext.mono x n j) (k := 100) (by omega) ?_
  rcases hn with rfl | rfl | rfl | rfl
  · have e : halberdref01_Zext.f 100 x ((1 : Nat) : Int) = some (Int.tmod x 256) := by kernel_rfl
    rw [e, Int.tmod_eq_emod_of_nonneg h0]; rfl
  · have e : halberdref01_Zext.f 100 x ((2 : Nat) : Int) = some (Int.tmod x 65536) := by kernel_rfl
    rw [e, Int.tmod_eq_emod_of_nonneg h0]; rfl
  · have e : halberdref01_Zext.f 100 x ((4 : Nat) : Int) = some (Int.tmod x 4294967296) := by kernel_rfl
    rw [e, Int.tmod_eq_emod_of_nonneg h0]; rfl
  · have e : halberdref01_Zext.f 100 x ((8 : Nat) : Int) = some x := by kernel_rfl
    rw [e]
    congr 1
    exact (Int.emod_eq_of_lt h0 (by simpa using h1)).symm

theorem size_yes (n : Nat) (hn : n = 1 ∨ n = 2 ∨ n = 4 ∨ n = 8) : words_IsSize.f n = some true ∧ halberdref01_Size.f n = some true := by
  rcases hn with rfl | rfl | rfl | rfl <;> exact ⟨rfl, rfl⟩
theorem size_no (n : Int) (hn : ¬ (n = 1 ∨ n = 2 ∨ n = 4 ∨ n = 8)) : words_IsSize.f n = some false ∧ halberdref01_Size.f n = some false := by
  have hb : (n == 8) = false := by simp; omega
  constructor
  · unfold words_IsSize.f; rw [if_neg (by omega), if_neg (by omega), if_neg (by omega), hb]
  · unfold halberdref01_Size.f; rw [if_neg (by omega), if_neg (by omega), if_neg (by omega), hb]

theorem WordsBytes : halberdlaw01_WordsBytes.Pure := by
  intro l a n x hm0 ha hn hx
  obtain ⟨hm, _, hb⟩ := hm0
  obtain ⟨x0, x1⟩ := u64_of hx
  obtain ⟨a0, a1⟩ := i64_of ha
  have hl : IsBytes l := fun y hy => by have := bounds_u8 (hb y hy); omega
  refine ⟨100 + 20, ?_⟩
  unfold halberdlaw01_WordsBytes.f
  rw [wb_alive]
  simp only [Option.bind_some, if_true, List.nil_append, List.length_nil, Nat.zero_add]
  by_cases hbig : (l.length : Int) > 300
  · rw [if_pos hbig]
  rw [if_neg hbig, if_pos (by omega)]
  by_cases hs : n = 1 ∨ n = 2 ∨ n = 4 ∨ n = 8
  · obtain ⟨m, rfl⟩ : ∃ m : Nat, n = m := ⟨n.toNat, by omega⟩
    have hs' : m = 1 ∨ m = 2 ∨ m = 4 ∨ m = 8 := by omega
    obtain ⟨z1, z2⟩ := size_yes m hs'
    by_cases hr : 0 ≤ a ∧ a + m ≤ l.length
    · obtain ⟨p, rfl⟩ : ∃ p : Nat, a = p := ⟨a.toNat, by omega⟩
      have th : ∀ l' : List Int, l'.length = l.length → words_there.f l' p m = some true := by
        intro l' e
        unfold words_there.f
        rw [z1]
        simp only [Option.bind_some, if_true, wrap64, e]
        rw [if_pos (by omega), if_pos (by omega)]
        congr 1
        exact decide_eq_true (by omega)
      have th2 : halberdref01_There.f l p m = some true := by
        unfold halberdref01_There.f
        rw [z2]
        simp only [Option.bind_some, if_true, wrap64]
        rw [if_pos (by omega), if_pos (by omega)]
        congr 1
        exact decide_eq_true (by omega)
      have h1 : ∀ l' : List Int, l'.length = l.length → IsBytes l' → words_Load.f (100 + 20) l' p m = some (wbLe ((l'.drop p).take m), true) := by
        intro l' e hl'
        unfold words_Load.f
        rw [th l' e]
        simp only [Option.bind_some, if_true]
        have := load_loop l' hl' p m (by omega) (by omega) (by omega) m (100 + 20) 0 (by omega) (by omega)
        simpa [wbLe] using this
      have h2 : words_Store.f (100 + 20) l p m x = some (true, putB l p x 0 m) := by
        unfold words_Store.f
        rw [th l rfl]
        simp only [Option.bind_some, if_true]
        exact store_loop p m (by omega) x x0 x1 m (100 + 20) 0 l (by omega) (by omega) (by omega) (by omega)
      have h3 : halberdref01_Load.f (100 + 20) l p m = some (wbLe ((l.drop p).take m)) := by
        unfold halberdref01_Load.f
        have e : wrap64 ((m : Int) - 1) = (m : Int) - 1 := by unfold wrap64; omega
        rw [e]
        have := rload_loop l hl p m (by omega) (by omega) (by omega) m (100 + 20) (by omega) (by omega)
        simpa [wbLe] using this
      have h4 : halberdref01_Stored.f (100 + 20) l p m x = some (putB l p x 0 m) := by
        unfold halberdref01_Stored.f
        simp only [Option.bind_some, List.nil_append, List.length_nil, Nat.zero_add]
        rw [if_pos (by omega)]
        have := stored_loop p m (by omega) x x0 x1 m (100 + 20) 0 l (by omega) (by omega) (by omega) (by omega)
        simpa using this
      rw [h1 l rfl hl, h2]
      simp only [Option.bind_some]
      rw [th2]
      simp only [Option.bind_some, if_true]
      rw [h1 _ (putB_length _ _ _ _ _) (putB_bytes _ _ _ _ _ hl), h3, h4, zext_val m hs' 20 x x0 x1, putB_le x x0 p m l (by omega)]
      simp
    · have th : words_there.f l a m = some false := by
        unfold words_there.f
        rw [z1]
        simp only [Option.bind_some, if_true, wrap64]
        by_cases c1 : a ≥ 0
        · rw [if_pos c1]
          by_cases c2 : (m : Int) ≤ l.length
          · rw [if_pos c2]
            congr 1
            exact decide_eq_false (by omega)
          · rw [if_neg c2]
        · rw [if_neg c1]
      have th2 : halberdref01_There.f l a m = some false := by
        unfold halberdref01_There.f
        rw [z2]
        simp only [Option.bind_some, if_true, wrap64]
        by_cases c1 : a ≥ 0
        · rw [if_pos c1]
          by_cases c2 : a ≤ l.length
          · rw [if_pos c2]
            congr 1
            exact decide_eq_false (by omega)
          · rw [if_neg c2]
        · rw [if_neg c1]
      have h1 : words_Load.f (100 + 20) l a m = some (0, false) := by unfold words_Load.f; rw [th]; rfl
      have h2 : words_Store.f (100 + 20) l a m x = some (false, l) := by unfold words_Store.f; rw [th]; rfl
      rw [h1, h2]
      simp only [Option.bind_some]
      rw [th2]
      simp
  · obtain ⟨z1, z2⟩ := size_no n hs
    have th : words_there.f l a n = some false := by unfold words_there.f; rw [z1]; rfl
    have th2 : halberdref01_There.f l a n = some false := by unfold halberdref01_There.f; rw [z2]; rfl
    have h1 : words_Load.f (100 + 20) l a n = some (0, false) := by unfold words_Load.f; rw [th]; rfl
    have h2 : words_Store.f (100 + 20) l a n x = some (false, l) := by unfold words_Store.f; rw [th]; rfl
    rw [h1, h2]
    simp only [Option.bind_some]
    rw [th2]
    simp

end Go.Proofs.Ytjpjcmokffjnaaa.Pure
