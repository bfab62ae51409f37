/- What is read of any bytes is the document's, and it has these bytes: for every list of bytes. -/
import Derived.Test.YtjcmkognkbpfcaaPInstReadsx5
import Derived.Test.YtjcmkognkbpfcaaTB
set_option linter.unusedVariables false
set_option linter.unusedSimpArgs false
namespace Go.Proofs.Ytjcmkognkbpfcaa.Pure
open Go.RowKit Go.Proofs.Ytjcmkognkbpfcaa.PInstReads Go.Proofs.YtjcmkognkbpfcaaW.PrintWords Go.Proofs.YtjcmkognkbpfcaaW.PrintLast Go.Proofs.YtjcmkognkbpfcaaW.PrintMore Go.Proofs.Ytjcmkognkbpfcaa.HB Go.Proofs.Ytjcmkognkbpfcaa.TB

theorem ib_alive : halberdlaw02_alive.f 2000 = some true := by kernel_rfl
/-- The number of bytes, the lowest first. -/
def wbLe : List Int → Int
  | [] => 0
  | b :: t => b + 256 * wbLe t
theorem wbLe_snoc (l : List Int) (b : Int) : wbLe (l ++ [b]) = wbLe l + b * 256 ^ l.length := by
  induction l with
  | nil => simp [wbLe]
  | cons a t ih =>
    simp only [List.cons_append, wbLe, ih, List.length_cons, Int.pow_succ]
    rw [Int.mul_add, Int.add_assoc]
    congr 2
    rw [← Int.mul_assoc, ← Int.mul_assoc, Int.mul_comm 256 b, Int.mul_assoc, Int.mul_assoc, Int.mul_comm 256]
def IsBytes (l : List Int) : Prop := ∀ x ∈ l, 0 ≤ x ∧ x < 256
theorem wbLe_range (l : List Int) (h : IsBytes l) : 0 ≤ wbLe l ∧ wbLe l < 256 ^ l.length := by
  induction l with
  | nil => simp [wbLe]
  | cons a t ih =>
    have h1 := h a (by simp)
    have h2 := ih (fun x hx => h x (by simp [hx]))
    simp only [wbLe, List.length_cons, Int.pow_succ]
    omega
theorem rd_byte (l : List Int) (h : IsBytes l) (i : Int) : 0 ≤ rd l i ∧ rd l i < 256 := by
  unfold rd
  rw [List.getD_eq_getElem?_getD]
  cases e : l[i.toNat]? with
  | none => simp
  | some v => exact h v (List.mem_of_getElem? e)

theorem pow_le8 (i : Nat) (h : i ≤ 8) : (256 : Int) ^ i ≤ 18446744073709551616 := by
  have : ∀ i : Fin 9, (256 : Int) ^ i.val ≤ 18446744073709551616 := by decide
  exact this ⟨i, by omega⟩
theorem pow_256 (i : Nat) : (2 : Int) ^ (8 * i) = 256 ^ i := by rw [Int.pow_mul]; rfl

theorem shl_byte (b : Int) (i : Nat) (h : i < 8) (h0 : 0 ≤ b) (h1 : b < 256) : shl .u64 b ((8 * i : Nat) : Int) = b * 256 ^ i := by
  unfold shl
  have e : min ((8 * i : Nat) : Int).toNat IntKind.u64.bits = 8 * i := by
    have : IntKind.u64.bits = 64 := by kernel_rfl
    rw [this]
    omega
  rw [e, pow_256]
  have hp := pow_le8 (i + 1) (by omega)
  rw [Int.pow_succ] at hp
  have hp0 : (0 : Int) < 256 ^ i := Int.pow_pos (by decide)
  refine wrap_u64_id (Int.mul_nonneg h0 (by omega)) ?_
  have : b * 256 ^ i ≤ 255 * 256 ^ i := Int.mul_le_mul_of_nonneg_right (by omega) (by omega)
  omega

theorem or_add (acc b : Int) (i : Nat) (h : i < 8) (a0 : 0 ≤ acc) (a1 : acc < 256 ^ i) (h0 : 0 ≤ b) (h1 : b < 256) :
    bits .or .u64 acc (b * 256 ^ i) = acc + b * 256 ^ i := by
  have hp := pow_le8 (i + 1) (by omega)
  rw [Int.pow_succ] at hp
  have hp0 : (0 : Int) < 256 ^ i := Int.pow_pos (by decide)
  have hb : b * 256 ^ i ≤ 255 * 256 ^ i := Int.mul_le_mul_of_nonneg_right (by omega) (by omega)
  have hb0 : 0 ≤ b * 256 ^ i := Int.mul_nonneg h0 (by omega)
  obtain ⟨A, rfl⟩ := Int.eq_ofNat_of_zero_le a0
  obtain ⟨B, rfl⟩ := Int.eq_ofNat_of_zero_le h0
  have e : ((B : Nat) : Int) * 256 ^ i = ((B * 2 ^ (8 * i) : Nat) : Int) := by
    rw [Nat.pow_mul]
    simp
  have hA : A < 2 ^ (8 * i) := by
    have e2 : ((2 ^ (8 * i) : Nat) : Int) = 256 ^ i := by rw [Nat.pow_mul]; simp
    omega
  rw [e] at hb hb0 ⊢
  rw [u64_or_nat _ _ (by omega) (by omega), Nat.or_comm]
  have := Nat.shiftLeft_add_eq_or_of_lt hA B
  rw [Nat.shiftLeft_eq] at this
  rw [← this]
  simp only [Int.natCast_add]
  omega

theorem rd_at (l : List Int) (i : Nat) (h : i < l.length) : rd l (i : Int) = l[i] := by
  unfold rd
  rw [Int.toNat_natCast, List.getD_eq_getElem?_getD, List.getElem?_eq_getElem h]
  rfl
theorem mod_step (x : Int) (h0 : 0 ≤ x) (m : Nat) : x % (256 ^ m * 256) = x % 256 ^ m + 256 ^ m * (x / 256 ^ m % 256) := by
  obtain ⟨X, rfl⟩ := Int.eq_ofNat_of_zero_le h0
  have h3 := @Nat.mod_mul (256 ^ m) 256 X
  have h4 := congrArg (Nat.cast : Nat → Int) h3
  simp only [Int.natCast_add, Int.natCast_mul, Int.natCast_emod, Int.natCast_ediv, Int.natCast_pow] at h4
  exact h4
theorem take_snoc_rd (l : List Int) (a i : Nat) (h : a + i < l.length) : (l.drop a).take (i + 1) = (l.drop a).take i ++ [rd l ((a + i : Nat) : Int)] := by
  have hl : i < (l.drop a).length := by simp; omega
  rw [List.take_succ_eq_append_getElem hl]
  rw [rd_at l (a + i) h, List.getElem_drop]

theorem isBytes_sub {l : List Int} (h : IsBytes l) (a n : Nat) : IsBytes ((l.drop a).take n) :=
  fun x hx => h x (List.mem_of_mem_drop (List.mem_of_mem_take hx))

theorem load_loop (l : List Int) (hl : IsBytes l) (a n : Nat) (hn : n ≤ 8) (hlen : a + n ≤ l.length) (hbig : l.length ≤ 3000) :
    ∀ (d k i : Nat), i + d = n → d < k → words_Load.l0 k l a (wbLe ((l.drop a).take i)) n i = some (wbLe ((l.drop a).take n), true) := by
  intro d
  induction d with
  | zero =>
    intro k i hi hk
    obtain ⟨k, rfl⟩ : ∃ m, k = m + 1 := ⟨k - 1, by omega⟩
    obtain rfl : i = n := by omega
    simp only [words_Load.l0]
    rw [if_neg (by omega)]
  | succ d ih =>
    intro k i hi hk
    obtain ⟨k, rfl⟩ : ∃ m, k = m + 1 := ⟨k - 1, by omega⟩
    simp only [words_Load.l0]
    have e1 : wrap64 ((a : Int) + (i : Int)) = ((a + i : Nat) : Int) := by unfold wrap64; omega
    have e2 : wrap64 (8 * (i : Int)) = ((8 * i : Nat) : Int) := by unfold wrap64; omega
    have e3 : wrap64 ((i : Int) + 1) = ((i + 1 : Nat) : Int) := by unfold wrap64; omega
    rw [e1, e2, e3, if_pos (by omega), if_pos (by omega), if_pos (by omega), if_pos (by omega)]
    have hb := rd_byte l hl ((a + i : Nat) : Int)
    have hlen2 : ((l.drop a).take i).length = i := by simp; omega
    have hr := wbLe_range _ (isBytes_sub hl a i)
    rw [hlen2] at hr
    rw [wrap_u64_id hb.1 (by omega), shl_byte _ i (by omega) hb.1 hb.2, or_add _ _ i (by omega) hr.1 hr.2 hb.1 hb.2]
    have e4 : wbLe ((l.drop a).take i) + rd l ((a + i : Nat) : Int) * 256 ^ i = wbLe ((l.drop a).take (i + 1)) := by
      rw [take_snoc_rd l a i (by omega), wbLe_snoc, hlen2]
    rw [e4]
    exact ih k (i + 1) (by omega) (by omega)

/-- The document's way: from the highest byte down. -/
theorem rload_loop (l : List Int) (hl : IsBytes l) (a n : Nat) (hn : n ≤ 8) (hlen : a + n ≤ l.length) (hbig : l.length ≤ 3000) :
    ∀ (i k : Nat), i ≤ n → i < k → halberdref01_Load.l0 k l a (wbLe ((l.drop (a + i)).take (n - i))) ((i : Int) - 1) = some (wbLe ((l.drop a).take n)) := by
  intro i
  induction i with
  | zero =>
    intro k hi hk
    obtain ⟨k, rfl⟩ : ∃ m, k = m + 1 := ⟨k - 1, by omega⟩
    simp only [halberdref01_Load.l0]
    rw [if_neg (by omega)]
    simp
  | succ i ih =>
    intro k hi hk
    obtain ⟨k, rfl⟩ : ∃ m, k = m + 1 := ⟨k - 1, by omega⟩
    simp only [halberdref01_Load.l0]
    have e0 : (((i + 1 : Nat) : Int) - 1) = (i : Int) := by omega
    rw [e0]
    have e1 : wrap64 ((a : Int) + (i : Int)) = ((a + i : Nat) : Int) := by unfold wrap64; omega
    have e3 : wrap64 ((i : Int) - 1) = ((i : Int) - 1) := by unfold wrap64; omega
    rw [e1, e3, if_pos (by omega), if_pos (by omega), if_pos (by omega)]
    have hb := rd_byte l hl ((a + i : Nat) : Int)
    have hlen2 : ((l.drop (a + (i + 1))).take (n - (i + 1))).length = n - (i + 1) := by simp; omega
    have hr := wbLe_range _ (isBytes_sub hl (a + (i + 1)) (n - (i + 1)))
    rw [hlen2] at hr
    have e4 : (l.drop (a + i)).take (n - i) = rd l ((a + i : Nat) : Int) :: (l.drop (a + (i + 1))).take (n - (i + 1)) := by
      have hx : a + i < l.length := by omega
      rw [List.drop_eq_getElem_cons hx, show n - i = (n - (i + 1)) + 1 by omega, List.take_succ_cons]
      rw [rd_at l (a + i) hx]
      simp [Nat.add_assoc]
    have hp := pow_le8 (n - (i + 1) + 1) (by omega)
    rw [Int.pow_succ] at hp
    have e5 : IntKind.u64.wrap ((IntKind.u64.wrap (256 * wbLe ((l.drop (a + (i + 1))).take (n - (i + 1))))) + (IntKind.u64.wrap (rd l ((a + i : Nat) : Int)))) = wbLe ((l.drop (a + i)).take (n - i)) := by
      rw [e4]
      simp only [wbLe, IntKind.wrap_u64]
      omega
    rw [e5]
    exact ih k (by omega) (by omega)

theorem ib_and : ∀ a : Fin 256, Go.bits .and .u8 (a.val : Int) 15 = (a.val : Int) % 16 := by decide +kernel
theorem ib_shl : ∀ b : Fin 256, shl .u8 (b.val : Int) 4 = 16 * ((b.val : Int) % 16) := by decide +kernel
theorem ib_or : ∀ a b : Fin 16, Go.bits .or .u8 (a.val : Int) (16 * (b.val : Int)) = (a.val : Int) + 16 * (b.val : Int) := by decide +kernel
theorem u8_of {a : Int} (h : (Lit.int .u8 a).wf = true) : 0 ≤ a ∧ a < 256 := by
  have := bounds_u8 h
  omega
theorem ib_second {a b : Int} (ha : 0 ≤ a ∧ a < 256) (hb : 0 ≤ b ∧ b < 256) : Go.bits .or .u8 (Go.bits .and .u8 a 15) (shl .u8 b 4) = a % 16 + 16 * (b % 16) := by
  obtain ⟨a, rfl⟩ : ∃ n : Nat, a = n := ⟨a.toNat, by omega⟩
  obtain ⟨b, rfl⟩ : ∃ n : Nat, b = n := ⟨b.toNat, by omega⟩
  have h1 := ib_and ⟨a, by omega⟩
  have h2 := ib_shl ⟨b, by omega⟩
  have h3 := ib_or ⟨a % 16, by omega⟩ ⟨b % 16, by omega⟩
  simp only at h1 h2 h3
  rw [h1, h2]
  have e1 : ((a % 16 : Nat) : Int) = (a : Int) % 16 := by omega
  have e2 : ((b % 16 : Nat) : Int) = (b : Int) % 16 := by omega
  rw [e1, e2] at h3
  exact h3
def by8 (x : S35) : List Int := [x.f0, x.f1 % 16 + 16 * (x.f2 % 16), (x.f3 % 65536) % 256, (x.f3 % 65536) / 256 % 256, (x.f4 % 4294967296) % 256, (x.f4 % 4294967296) / 256 % 256, (x.f4 % 4294967296) / 65536 % 256, (x.f4 % 4294967296) / 16777216 % 256]
def Ok35 (x : S35) : Prop := ((Lit.int .u8 x.f0).wf = true) ∧ ((Lit.int .u8 x.f1).wf = true) ∧ ((Lit.int .u8 x.f2).wf = true) ∧ ((Lit.int .i16 x.f3).wf = true) ∧ ((Lit.int .i32 x.f4).wf = true)
theorem ib_store2 (k : Nat) (a b x : Int) : words_Store.f (k + 3) [a, b, 0, 0, 0, 0, 0, 0] 2 2 x = some (true, [a, b, shr .u64 x 0 % 256, shr .u64 x 8 % 256, 0, 0, 0, 0]) := by kernel_rfl
theorem ib_store4 (k : Nat) (a b c d x : Int) : words_Store.f (k + 5) [a, b, c, d, 0, 0, 0, 0] 4 4 x = some (true, [a, b, c, d, shr .u64 x 0 % 256, shr .u64 x 8 % 256, shr .u64 x 16 % 256, shr .u64 x 24 % 256]) := by kernel_rfl
theorem ib_shr (x : Int) (n : Nat) (hn : n ≤ 24) : shr .u64 x n = x / 2 ^ n := by
  unfold shr
  have e : min (n : Int).toNat IntKind.u64.bits = n := by
    have : IntKind.u64.bits = 64 := rfl
    rw [this]; omega
  rw [e]
theorem ib_one (k : Nat) (x : S35) (h : Ok35 x) : inst_bytesOf.f (k + 5) x.f0 x.f1 x.f2 x.f3 x.f4 = some (by8 x) := by
  unfold inst_bytesOf.f inst_two
  rw [ib_store2 (k + 2), Option.bind_some]
  simp only []
  rw [ib_store4 k, Option.bind_some, ib_second (u8_of h.2.1) (u8_of h.2.2.1)]
  have s0 : ∀ z, shr .u64 z 0 = z := fun z => by have := ib_shr z 0 (by decide); simpa using this
  have s1 : ∀ z, shr .u64 z 8 = z / 256 := fun z => ib_shr z 8 (by decide)
  have s2 : ∀ z, shr .u64 z 16 = z / 65536 := fun z => ib_shr z 16 (by decide)
  have s3 : ∀ z, shr .u64 z 24 = z / 16777216 := fun z => ib_shr z 24 (by decide)
  rw [s0, s1, s0, s1, s2, s3]
  have e : IntKind.u64.wrap (IntKind.u16.wrap x.f3) = x.f3 % 65536 := by
    rw [IntKind.wrap_u64, IntKind.wrap_u16]
    omega
  rw [e]
  rfl
theorem i16_of {a : Int} (h : (Lit.int .i16 a).wf = true) : -32768 ≤ a ∧ a < 32768 := by
  have := bounds_i16 h
  omega
theorem i32_of {a : Int} (h : (Lit.int .i32 a).wf = true) : -2147483648 ≤ a ∧ a < 2147483648 := by
  have := bounds_i32 h
  omega
theorem i16_wrap (n : Int) : IntKind.i16.wrap n = (n + 32768) % 65536 - 32768 := by
  simp [IntKind.wrap, IntKind.bits, IntKind.signed]
  split <;> omega
theorem i32_wrap (n : Int) : wrap32 n = (n + 2147483648) % 4294967296 - 2147483648 := by
  unfold wrap32
  omega
theorem ib_loops (l : List S35) (hl : l.length ≤ 200) (hok : ∀ x ∈ l, Ok35 x) : ∀ (d k i : Nat) (out : List Int), i + d = l.length → d + 10 < k → out.length = 8 * i →
    inst_Bytes.l0 k out l (l.length : Int) i = some (out ++ ((l.drop i).map by8).flatten) := by
  intro d
  induction d with
  | zero =>
    intro k i out hi hk ho
    obtain ⟨k, rfl⟩ : ∃ m, k = m + 1 := ⟨k - 1, by omega⟩
    rw [inst_Bytes.l0, if_neg (by omega), List.drop_eq_nil_of_le (by omega)]
    simp
  | succ d ih =>
    intro k i out hi hk ho
    obtain ⟨k, rfl⟩ : ∃ m, k = m + 6 := ⟨k - 6, by omega⟩
    have hlt : i < l.length := by omega
    have e : rd_T35 l (i : Int) = l[i] := by
      unfold rd_T35
      rw [Int.toNat_natCast, List.getD_eq_getElem?_getD, List.getElem?_eq_getElem hlt]
      rfl
    have e3 : wrap64 ((i : Int) + 1) = ((i + 1 : Nat) : Int) := by unfold wrap64; omega
    have e8 : (by8 l[i]).length = 8 := rfl
    have h1 := ih (k + 5) (i + 1) (out ++ by8 l[i]) (by omega) (by omega) (by rw [List.length_append, e8, ho]; omega)
    rw [inst_Bytes.l0, if_pos (by omega), if_pos (by omega), if_pos (by omega), e, ib_one k _ (hok _ (List.getElem_mem hlt)), Option.bind_some, e8, if_pos (by omega), e3, h1, List.drop_eq_getElem_cons hlt, List.map_cons, List.flatten_cons, List.append_assoc]
/-- What is read of eight bytes. -/
def parse (c : List Int) : S35 := ⟨rd c 0, rd c 1 % 16, rd c 1 / 16, IntKind.i16.wrap (wbLe ((c.drop 2).take 2)), wrap32 (wbLe ((c.drop 4).take 4))⟩
theorem load_at (c : List Int) (hc : IsBytes c) (h8 : c.length = 8) (a n : Nat) (hn : n = 2 ∨ n = 4) (han : a + n ≤ 8) : words_Load.f 20 c (a : Int) (n : Int) = some (wbLe ((c.drop a).take n), true) := by
  have hs : words_IsSize.f (n : Int) = some true := by rcases hn with rfl | rfl <;> decide
  have ht : words_there.f c (a : Int) (n : Int) = some true := by
    unfold words_there.f
    rw [hs, Option.bind_some, if_pos rfl, if_pos (by omega), if_pos (by omega)]
    have : wrap64 ((c.length : Int) - (n : Int)) = (c.length : Int) - n := by unfold wrap64; omega
    rw [this, decide_eq_true (by omega)]
  unfold words_Load.f
  rw [ht, Option.bind_some, if_pos rfl]
  have := load_loop c hc a n (by omega) (by omega) (by omega) n 20 0 (by omega) (by omega)
  simpa [wbLe] using this
theorem chunk_len (l0 : List Int) (i : Nat) (h : 8 * i + 8 ≤ l0.length) : (ichunk l0 i).length = 8 := by
  unfold ichunk
  rw [List.length_take, List.length_drop]
  omega
theorem chunk_bytes {l0 : List Int} (h : IsBytes l0) (i : Nat) : IsBytes (ichunk l0 i) := isBytes_sub h _ _
theorem chunk_eval (l0 : List Int) (i : Nat) (hb : IsBytes l0) (h : 8 * i + 8 ≤ l0.length) : inst_chunk l0 i = some (parse (ichunk l0 i)) := by
  have h8 := chunk_len l0 i h
  have hc := chunk_bytes hb i
  have e1 := load_at (ichunk l0 i) hc h8 2 2 (.inl rfl) (by decide)
  have e2 := load_at (ichunk l0 i) hc h8 4 4 (.inr rfl) (by decide)
  have e1' : words_Load.f 20 (ichunk l0 i) 2 2 = some (wbLe (((ichunk l0 i).drop 2).take 2), true) := e1
  have e2' : words_Load.f 20 (ichunk l0 i) 4 4 = some (wbLe (((ichunk l0 i).drop 4).take 4), true) := e2
  unfold inst_chunk
  rw [e1', Option.bind_some, e2', Option.bind_some]
  unfold parse
  have hr := rd_byte _ hc 1
  obtain ⟨b, hb2⟩ : ∃ n : Nat, rd (ichunk l0 i) 1 = n := ⟨(rd (ichunk l0 i) 1).toNat, by omega⟩
  have h1 := ib_and ⟨b, by omega⟩
  simp only at h1
  rw [hb2, h1]
theorem chunks_eval (l0 : List Int) (hb : IsBytes l0) : ∀ q : Nat, 8 * q ≤ l0.length → inst_chunks l0 q = some ((List.range q).map fun i => parse (ichunk l0 i))
  | 0, _ => rfl
  | q + 1, h => by
    unfold inst_chunks
    rw [chunks_eval l0 hb q (by omega), Option.bind_some, chunk_eval l0 q hb (by omega), Option.bind_some, List.range_succ, List.map_append]
    rfl
theorem same_self (T : List S35) (hl : T.length ≤ 3000) : ∀ (d k i : Nat), i + d = T.length → d < k → halberdref02_Same.l0 k T T i = some true := by
  intro d
  induction d with
  | zero =>
    intro k i hi hk
    obtain ⟨k, rfl⟩ : ∃ m, k = m + 1 := ⟨k - 1, by omega⟩
    rw [halberdref02_Same.l0, if_neg (by omega)]
  | succ d ih =>
    intro k i hi hk
    obtain ⟨k, rfl⟩ : ∃ m, k = m + 1 := ⟨k - 1, by omega⟩
    have e3 : wrap64 ((i : Int) + 1) = ((i + 1 : Nat) : Int) := by unfold wrap64; omega
    rw [halberdref02_Same.l0, if_pos (by omega), if_pos (by omega), if_pos (by omega)]
    simp only [beq_self_eq_true, Bool.not_true, Bool.or_self, Bool.false_eq_true, if_false]
    rw [e3]
    exact ih k (i + 1) (by omega) (by omega)
theorem same_true (T : List S35) (hl : T.length ≤ 3000) (k : Nat) (hk : T.length < k) : halberdref02_Same.f k T T = some true := by
  unfold halberdref02_Same.f
  rw [if_pos rfl]
  exact same_self T hl T.length k 0 (by omega) hk
theorem flat_chunks (l0 : List Int) : ∀ q : Nat, ((List.range q).map fun i => ichunk l0 i).flatten = l0.take (8 * q)
  | 0 => by simp
  | q + 1 => by
    rw [List.range_succ, List.map_append, List.flatten_append, flat_chunks l0 q]
    simp only [List.map_cons, List.map_nil, List.flatten_cons, List.flatten_nil, List.append_nil]
    unfold ichunk
    rw [← List.take_add]
    rfl
theorem list8 (c : List Int) (h : c.length = 8) : ∃ a0 a1 a2 a3 a4 a5 a6 a7, c = [a0, a1, a2, a3, a4, a5, a6, a7] := by
  match c, h with
  | [a0, a1, a2, a3, a4, a5, a6, a7], _ => exact ⟨a0, a1, a2, a3, a4, a5, a6, a7, rfl⟩
theorem parse8 (a0 a1 a2 a3 a4 a5 a6 a7 : Int) : parse [a0, a1, a2, a3, a4, a5, a6, a7] = ⟨a0, a1 % 16, a1 / 16, IntKind.i16.wrap (a2 + 256 * (a3 + 256 * 0)), wrap32 (a4 + 256 * (a5 + 256 * (a6 + 256 * (a7 + 256 * 0))))⟩ := rfl
theorem by8_parse (c : List Int) (h : c.length = 8) (hb : IsBytes c) : by8 (parse c) = c := by
  obtain ⟨a0, a1, a2, a3, a4, a5, a6, a7, rfl⟩ := list8 c h
  have b0 := hb a0 (by simp); have b1 := hb a1 (by simp); have b2 := hb a2 (by simp); have b3 := hb a3 (by simp)
  have b4 := hb a4 (by simp); have b5 := hb a5 (by simp); have b6 := hb a6 (by simp); have b7 := hb a7 (by simp)
  rw [parse8]
  unfold by8
  simp only [i16_wrap, i32_wrap, List.cons.injEq, and_true, true_and]
  clear hb h b0
  refine ⟨?_, ?_, ?_, ?_, ?_, ?_, ?_⟩ <;> omega
theorem parse_ok (c : List Int) (h : c.length = 8) (hb : IsBytes c) : Ok35 (parse c) := by
  obtain ⟨a0, a1, a2, a3, a4, a5, a6, a7, rfl⟩ := list8 c h
  have b0 := hb a0 (by simp); have b1 := hb a1 (by simp)
  rw [parse8]
  refine ⟨?_, ?_, ?_, ?_, ?_⟩
  · simp [Lit.wf, IntKind.min, IntKind.max, IntKind.signed, IntKind.bits]; omega
  · simp [Lit.wf, IntKind.min, IntKind.max, IntKind.signed, IntKind.bits]; omega
  · simp [Lit.wf, IntKind.min, IntKind.max, IntKind.signed, IntKind.bits]; omega
  · rw [i16_wrap]; simp [Lit.wf, IntKind.min, IntKind.max, IntKind.signed, IntKind.bits]; omega
  · rw [i32_wrap]; simp [Lit.wf, IntKind.min, IntKind.max, IntKind.signed, IntKind.bits]; omega
theorem power_16 (k : Nat) : halberdref01_Power.f (k + 40) 16 = some 65536 ∧ halberdref01_Power.f (k + 40) 15 = some 32768 := ⟨by kernel_rfl, by kernel_rfl⟩
theorem power_32 (k : Nat) : halberdref01_Power.f (k + 40) 32 = some 4294967296 ∧ halberdref01_Power.f (k + 40) 31 = some 2147483648 := ⟨by kernel_rfl, by kernel_rfl⟩
theorem sext_2 (k : Nat) (v : Int) (h : 0 ≤ v ∧ v < 65536) : ∃ s, halberdref01_Sext.f (k + 41) v 2 = some s ∧ IntKind.i16.wrap s = IntKind.i16.wrap v := by
  have hs : halberdref01_Size.f 2 = some true := by decide
  have e1 : wrap64 (8 * 2) = 16 := by unfold wrap64; decide
  have e2 : wrap64 (16 - 1) = 15 := by unfold wrap64; decide
  have ht : Int.tmod v 65536 = v := by rw [Int.tmod_eq_emod_of_nonneg h.1]; omega
  have e0 : ((2 : Int) == 8) = false := by decide
  unfold halberdref01_Sext.f
  rw [hs, Option.bind_some, if_pos rfl, e0, halberdref01_Sext.j0, if_neg (by decide), e1, (power_16 k).1, Option.bind_some, if_neg (by decide), e2, (power_16 k).2, Option.bind_some, ht]
  by_cases c : v ≥ 32768
  · rw [if_pos c, Option.bind_some]
    refine ⟨_, rfl, ?_⟩
    rw [i16_wrap, i16_wrap, IntKind.wrap_u64]
    omega
  · rw [if_neg c]
    exact ⟨_, rfl, rfl⟩
theorem sext_4 (k : Nat) (v : Int) (h : 0 ≤ v ∧ v < 4294967296) : ∃ s, halberdref01_Sext.f (k + 41) v 4 = some s ∧ wrap32 s = wrap32 v := by
  have hs : halberdref01_Size.f 4 = some true := by decide
  have e1 : wrap64 (8 * 4) = 32 := by unfold wrap64; decide
  have e2 : wrap64 (32 - 1) = 31 := by unfold wrap64; decide
  have ht : Int.tmod v 4294967296 = v := by rw [Int.tmod_eq_emod_of_nonneg h.1]; omega
  have e0 : ((4 : Int) == 8) = false := by decide
  unfold halberdref01_Sext.f
  rw [hs, Option.bind_some, if_pos rfl, e0, halberdref01_Sext.j0, if_neg (by decide), e1, (power_32 k).1, Option.bind_some, if_neg (by decide), e2, (power_32 k).2, Option.bind_some, ht]
  by_cases c : v ≥ 2147483648
  · rw [if_pos c, Option.bind_some]
    refine ⟨_, rfl, ?_⟩
    rw [i32_wrap, i32_wrap, IntKind.wrap_u64]
    omega
  · rw [if_neg c]
    exact ⟨_, rfl, rfl⟩
theorem rload_at (l : List Int) (hl : IsBytes l) (a n : Nat) (hn : n = 2 ∨ n = 4) (hlen : a + n ≤ l.length) (hbig : l.length ≤ 3000) (k : Nat) : halberdref01_Load.f (k + 10) l (a : Int) (n : Int) = some (wbLe ((l.drop a).take n)) := by
  unfold halberdref01_Load.f
  have e : wrap64 ((n : Int) - 1) = (n : Int) - 1 := by unfold wrap64; omega
  rw [e]
  have := rload_loop l hl a n (by omega) hlen hbig n (k + 10) (Nat.le_refl _) (by omega)
  simpa [wbLe] using this
theorem rd_sub (l : List Int) (a n j : Nat) (hj : j < n) : rd ((l.drop a).take n) (j : Int) = rd l ((a + j : Nat) : Int) := by
  unfold rd
  rw [Int.toNat_natCast, Int.toNat_natCast, List.getD_eq_getElem?_getD, List.getD_eq_getElem?_getD, List.getElem?_take, if_pos hj, List.getElem?_drop]
theorem ref_step (l : List Int) (hl : IsBytes l) (hbig : l.length ≤ 512) (i : Nat) (hi : 8 * i + 8 ≤ l.length) (out : List S35) (ho : out.length = i) (k : Nat) :
    halberdref02_Read.l0 (k + 42) l out ((8 * i : Nat) : Int) = halberdref02_Read.l0 (k + 41) l (out ++ [parse (ichunk l i)]) ((8 * (i + 1) : Nat) : Int) := by
  have w1 : wrap64 (((8 * i : Nat) : Int) + 1) = ((8 * i + 1 : Nat) : Int) := by unfold wrap64; omega
  have w2 : wrap64 (((8 * i : Nat) : Int) + 2) = ((8 * i + 2 : Nat) : Int) := by unfold wrap64; omega
  have w4 : wrap64 (((8 * i : Nat) : Int) + 4) = ((8 * i + 4 : Nat) : Int) := by unfold wrap64; omega
  have w8 : wrap64 (((8 * i : Nat) : Int) + 8) = ((8 * (i + 1) : Nat) : Int) := by unfold wrap64; omega
  have r2 := rload_at l hl (8 * i + 2) 2 (.inl rfl) (by omega) (by omega) (k + 31)
  have r4 := rload_at l hl (8 * i + 4) 4 (.inr rfl) (by omega) (by omega) (k + 31)
  have g2 := wbLe_range _ (isBytes_sub hl (8 * i + 2) 2)
  have g4 := wbLe_range _ (isBytes_sub hl (8 * i + 4) 4)
  have l2 : ((l.drop (8 * i + 2)).take 2).length = 2 := by rw [List.length_take, List.length_drop]; omega
  have l4 : ((l.drop (8 * i + 4)).take 4).length = 4 := by rw [List.length_take, List.length_drop]; omega
  rw [l2] at g2
  rw [l4] at g4
  obtain ⟨s2, h2, k2⟩ := sext_2 k _ ⟨g2.1, by have := g2.2; simpa using this⟩
  obtain ⟨s4, h4, k4⟩ := sext_4 k _ ⟨g4.1, by have := g4.2; simpa using this⟩
  have r2' : halberdref01_Load.f (k + 41) l ((8 * i + 2 : Nat) : Int) 2 = some (wbLe ((l.drop (8 * i + 2)).take 2)) := r2
  have r4' : halberdref01_Load.f (k + 41) l ((8 * i + 4 : Nat) : Int) 4 = some (wbLe ((l.drop (8 * i + 4)).take 4)) := r4
  have hb := rd_byte l hl ((8 * i + 1 : Nat) : Int)
  rw [halberdref02_Read.l0, if_pos (by omega), if_pos (by omega), w1, if_pos (by omega), if_pos (by omega), w2, r2', Option.bind_some, h2, Option.bind_some, w4, r4', Option.bind_some, h4, Option.bind_some, if_pos (by omega), w8, k2, k4]
  have e : (⟨rd l ((8 * i : Nat) : Int), Int.tmod (rd l ((8 * i + 1 : Nat) : Int)) 16, (Int.tdiv (rd l ((8 * i + 1 : Nat) : Int)) 16) % 256, IntKind.i16.wrap (wbLe ((l.drop (8 * i + 2)).take 2)), wrap32 (wbLe ((l.drop (8 * i + 4)).take 4))⟩ : S35) = parse (ichunk l i) := by
    unfold parse
    have c0 : rd (ichunk l i) 0 = rd l ((8 * i : Nat) : Int) := rd_sub l (8 * i) 8 0 (by decide)
    have c1 : rd (ichunk l i) 1 = rd l ((8 * i + 1 : Nat) : Int) := rd_sub l (8 * i) 8 1 (by decide)
    have d2 : ((ichunk l i).drop 2).take 2 = (l.drop (8 * i + 2)).take 2 := by unfold ichunk; rw [List.drop_take, List.drop_drop, List.take_take]; rfl
    have d4 : ((ichunk l i).drop 4).take 4 = (l.drop (8 * i + 4)).take 4 := by unfold ichunk; rw [List.drop_take, List.drop_drop, List.take_take]; rfl
    rw [c0, c1, d2, d4, Int.tmod_eq_emod_of_nonneg hb.1, Int.tdiv_eq_ediv_of_nonneg hb.1]
    congr 1
    omega
  rw [e]
theorem ref_loop (l : List Int) (hl : IsBytes l) (hbig : l.length ≤ 512) (q : Nat) (hq : l.length = 8 * q) : ∀ (d k i : Nat), i + d = q → d + 50 < k →
    halberdref02_Read.l0 k l ((List.range i).map fun j => parse (ichunk l j)) ((8 * i : Nat) : Int) = some ((List.range q).map fun j => parse (ichunk l j), true) := by
  intro d
  induction d with
  | zero =>
    intro k i hi hk
    obtain ⟨k, rfl⟩ : ∃ m, k = m + 1 := ⟨k - 1, by omega⟩
    obtain rfl : i = q := by omega
    rw [halberdref02_Read.l0, if_neg (by omega)]
  | succ d ih =>
    intro k i hi hk
    obtain ⟨k, rfl⟩ : ∃ m, k = m + 42 := ⟨k - 42, by omega⟩
    rw [ref_step l hl hbig i (by omega) _ (by simp) k]
    have e : ((List.range i).map fun j => parse (ichunk l j)) ++ [parse (ichunk l i)] = (List.range (i + 1)).map fun j => parse (ichunk l j) := by rw [List.range_succ, List.map_append]; rfl
    rw [e]
    exact ih (k + 41) (i + 1) (by omega) (by omega)
theorem InstReads : halberdlaw02_InstReads.Pure := by
  intro l h
  refine ⟨2000, ?_⟩
  unfold halberdlaw02_InstReads.f
  refine ask_ ib_alive ?_
  have hb : IsBytes l := fun x hx => by have := bounds_u8 (h.2.2 x hx); omega
  by_cases c : (l.length : Int) > 2000
  · rw [if_pos c]
  · rw [if_neg c]
    by_cases hc : l.length = 0 ∨ l.length % 8 ≠ 0 ∨ 512 < l.length
    · have e1 : inst_Read.f 2000 l = some ([], 22) := by unfold inst_Read.f; rw [if_pos hc]
      have e2 : halberdref02_Read.f 2000 l = some ([], false) := by
        unfold halberdref02_Read.f
        by_cases c1 : (l.length : Int) < 8
        · rw [if_pos c1, halberdref02_Read.j0, if_pos rfl]
        · rw [if_neg c1]
          by_cases c2 : (l.length : Int) > 512
          · rw [if_pos c2, halberdref02_Read.j0, if_pos rfl]
          · rw [if_neg c2, halberdref02_Read.j0, if_pos (decide_eq_true (by omega))]
      rw [e1, Option.bind_some, e2, Option.bind_some]
      rfl
    · have hq : l.length = 8 * (l.length / 8) := by omega
      generalize hqq : l.length / 8 = q at hq
      have e1 : inst_Read.f 2000 l = some ((List.range q).map fun j => parse (ichunk l j), 0) := by
        unfold inst_Read.f
        rw [if_neg hc, hqq, chunks_eval l hb q (by omega), Option.bind_some]
      have e2 : halberdref02_Read.f 2000 l = some ((List.range q).map fun j => parse (ichunk l j), true) := by
        unfold halberdref02_Read.f
        rw [if_neg (by omega), if_neg (by omega), halberdref02_Read.j0, if_neg (by simp; omega)]
        have := ref_loop l hb (by omega) q hq q 1999 0 (by omega) (by omega)
        simpa using this
      have hT : ((List.range q).map fun j => parse (ichunk l j)).length = q := by simp
      have e3 := same_true ((List.range q).map fun j => parse (ichunk l j)) (by rw [hT]; omega) 2000 (by rw [hT]; omega)
      have e4 : inst_Bytes.f 2000 ((List.range q).map fun j => parse (ichunk l j)) = some l := by
        unfold inst_Bytes.f
        have := ib_loops ((List.range q).map fun j => parse (ichunk l j)) (by rw [hT]; omega) (fun x hx => by
          obtain ⟨j, hj, rfl⟩ := List.mem_map.1 hx
          have hj := List.mem_range.1 hj
          exact parse_ok _ (chunk_len l j (by omega)) (chunk_bytes hb j)) q 2000 0 [] (by rw [hT]; omega) (by omega) rfl
        rw [show ((0 : Nat) : Int) = 0 from rfl] at this
        rw [this, List.drop_zero, List.map_map, List.nil_append]
        have e : (List.range q).map (by8 ∘ fun j => parse (ichunk l j)) = (List.range q).map fun j => ichunk l j := by
          apply List.map_congr_left
          intro j hj
          have hj := List.mem_range.1 hj
          exact by8_parse _ (chunk_len l j (by omega)) (chunk_bytes hb j)
        rw [e, flat_chunks, ← hq, List.take_length]
      rw [e1, Option.bind_some, e2, Option.bind_some, if_pos rfl, if_pos rfl, e3, Option.bind_some, if_pos rfl, e4, Option.bind_some, beq_self_eq_true]
end Go.Proofs.Ytjcmkognkbpfcaa.Pure
