/- A code's instructions are read from its bytes: for every list of instructions. -/
import Derived.Test.YtjcmkognkbpfcaaPInstBackx3
import Derived.Test.YtjcmkognkbpfcaaTB
set_option linter.unusedVariables false
set_option linter.unusedSimpArgs false
namespace Go.Proofs.Ytjcmkognkbpfcaa.Pure
open Go.RowKit Go.Proofs.Ytjcmkognkbpfcaa.PInstBack Go.Proofs.YtjcmkognkbpfcaaW.PrintWords Go.Proofs.YtjcmkognkbpfcaaW.PrintLast Go.Proofs.YtjcmkognkbpfcaaW.PrintMore Go.Proofs.Ytjcmkognkbpfcaa.HB Go.Proofs.Ytjcmkognkbpfcaa.TB

theorem ib_alive : halberdlaw02_alive.f 2000 = some true := by kernel_rfl
/-- The number of bytes, the lowest first. -/
def wbLe : List Int → Int
  | [] => 0
  | b :: t => b + 256 * wbLe t
theorem wbLe_snoc (l : List Int) (b : Int) : wbLe (l ++ [b]) = wbLe l + b * 256 ^ l.length := by
  induction l with
  | nil => simp [wbLe]
  | cons a t ih =>
    simp only [List.cons_append, wbLe, ih, List.length_cons, Int.pow_succ]
    rw [Int.mul_add, Int.add_assoc]
    congr 2
    rw [← Int.mul_assoc, ← Int.mul_assoc, Int.mul_comm 256 b, Int.mul_assoc, Int.mul_assoc, Int.mul_comm 256]
def IsBytes (l : List Int) : Prop := ∀ x ∈ l, 0 ≤ x ∧ x < 256
theorem wbLe_range (l : List Int) (h : IsBytes l) : 0 ≤ wbLe l ∧ wbLe l < 256 ^ l.length := by
  induction l with
  | nil => simp [wbLe]
  | cons a t ih =>
    have h1 := h a (by simp)
    have h2 := ih (fun x hx => h x (by simp [hx]))
    simp only [wbLe, List.length_cons, Int.pow_succ]
    omega
theorem rd_byte (l : List Int) (h : IsBytes l) (i : Int) : 0 ≤ rd l i ∧ rd l i < 256 := by
  unfold rd
  rw [List.getD_eq_getElem?_getD]
  cases e : l[i.toNat]? with
  | none => simp
  | some v => exact h v (List.mem_of_getElem? e)

theorem pow_le8 (i : Nat) (h : i ≤ 8) : (256 : Int) ^ i ≤ 18446744073709551616 := by
  have : ∀ i : Fin 9, (256 : Int) ^ i.val ≤ 18446744073709551616 := by decide
  exact this ⟨i, by omega⟩
theorem pow_256 (i : Nat) : (2 : Int) ^ (8 * i) = 256 ^ i := by rw [Int.pow_mul]; rfl

theorem shl_byte (b : Int) (i : Nat) (h : i < 8) (h0 : 0 ≤ b) (h1 : b < 256) : shl .u64 b ((8 * i : Nat) : Int) = b * 256 ^ i := by
  unfold shl
  have e : min ((8 * i : Nat) : Int).toNat IntKind.u64.bits = 8 * i := by
    have : IntKind.u64.bits = 64 := by kernel_rfl
    rw [this]
    omega
  rw [e, pow_256]
  have hp := pow_le8 (i + 1) (by omega)
  rw [Int.pow_succ] at hp
  have hp0 : (0 : Int) < 256 ^ i := Int.pow_pos (by decide)
  refine wrap_u64_id (Int.mul_nonneg h0 (by omega)) ?_
  have : b * 256 ^ i ≤ 255 * 256 ^ i := Int.mul_le_mul_of_nonneg_right (by omega) (by omega)
  omega

theorem or_add (acc b : Int) (i : Nat) (h : i < 8) (a0 : 0 ≤ acc) (a1 : acc < 256 ^ i) (h0 : 0 ≤ b) (h1 : b < 256) :
    bits .or .u64 acc (b * 256 ^ i) = acc + b * 256 ^ i := by
  have hp := pow_le8 (i + 1) (by omega)
  rw [Int.pow_succ] at hp
  have hp0 : (0 : Int) < 256 ^ i := Int.pow_pos (by decide)
  have hb : b * 256 ^ i ≤ 255 * 256 ^ i := Int.mul_le_mul_of_nonneg_right (by omega) (by omega)
  have hb0 : 0 ≤ b * 256 ^ i := Int.mul_nonneg h0 (by omega)
  obtain ⟨A, rfl⟩ := Int.eq_ofNat_of_zero_le a0
  obtain ⟨B, rfl⟩ := Int.eq_ofNat_of_zero_le h0
  have e : ((B : Nat) : Int) * 256 ^ i = ((B * 2 ^ (8 * i) : Nat) : Int) := by
    rw [Nat.pow_mul]
    simp
  have hA : A < 2 ^ (8 * i) := by
    have e2 : ((2 ^ (8 * i) : Nat) : Int) = 256 ^ i := by rw [Nat.pow_mul]; simp
    omega
  rw [e] at hb hb0 ⊢
  rw [u64_or_nat _ _ (by omega) (by omega), Nat.or_comm]
  have := Nat.shiftLeft_add_eq_or_of_lt hA B
  rw [Nat.shiftLeft_eq] at this
  rw [← this]
  simp only [Int.natCast_add]
  omega

theorem rd_at (l : List Int) (i : Nat) (h : i < l.length) : rd l (i : Int) = l[i] := by
  unfold rd
  rw [Int.toNat_natCast, List.getD_eq_getElem?_getD, List.getElem?_eq_getElem h]
  rfl
theorem mod_step (x : Int) (h0 : 0 ≤ x) (m : Nat) : x % (256 ^ m * 256) = x % 256 ^ m + 256 ^ m * (x / 256 ^ m % 256) := by
  obtain ⟨X, rfl⟩ := Int.eq_ofNat_of_zero_le h0
  have h3 := @Nat.mod_mul (256 ^ m) 256 X
  have h4 := congrArg (Nat.cast : Nat → Int) h3
  simp only [Int.natCast_add, Int.natCast_mul, Int.natCast_emod, Int.natCast_ediv, Int.natCast_pow] at h4
  exact h4
theorem take_snoc_rd (l : List Int) (a i : Nat) (h : a + i < l.length) : (l.drop a).take (i + 1) = (l.drop a).take i ++ [rd l ((a + i : Nat) : Int)] := by
  have hl : i < (l.drop a).length := by simp; omega
  rw [List.take_succ_eq_append_getElem hl]
  rw [rd_at l (a + i) h, List.getElem_drop]

theorem isBytes_sub {l : List Int} (h : IsBytes l) (a n : Nat) : IsBytes ((l.drop a).take n) :=
  fun x hx => h x (List.mem_of_mem_drop (List.mem_of_mem_take hx))

theorem load_loop (l : List Int) (hl : IsBytes l) (a n : Nat) (hn : n ≤ 8) (hlen : a + n ≤ l.length) (hbig : l.length ≤ 3000) :
    ∀ (d k i : Nat), i + d = n → d < k → words_Load.l0 k l a (wbLe ((l.drop a).take i)) n i = some (wbLe ((l.drop a).take n), true) := by
  intro d
  induction d with
  | zero =>
    intro k i hi hk
    obtain ⟨k, rfl⟩ : ∃ m, k = m + 1 := ⟨k - 1, by omega⟩
    obtain rfl : i = n := by omega
    simp only [words_Load.l0]
    rw [if_neg (by omega)]
  | succ d ih =>
    intro k i hi hk
    obtain ⟨k, rfl⟩ : ∃ m, k = m + 1 := ⟨k - 1, by omega⟩
    simp only [words_Load.l0]
    have e1 : wrap64 ((a : Int) + (i : Int)) = ((a + i : Nat) : Int) := by unfold wrap64; omega
    have e2 : wrap64 (8 * (i : Int)) = ((8 * i : Nat) : Int) := by unfold wrap64; omega
    have e3 : wrap64 ((i : Int) + 1) = ((i + 1 : Nat) : Int) := by unfold wrap64; omega
    rw [e1, e2, e3, if_pos (by omega), if_pos (by omega), if_pos (by omega), if_pos (by omega)]
    have hb := rd_byte l hl ((a + i : Nat) : Int)
    have hlen2 : ((l.drop a).take i).length = i := by simp; omega
    have hr := wbLe_range _ (isBytes_sub hl a i)
    rw [hlen2] at hr
    rw [wrap_u64_id hb.1 (by omega), shl_byte _ i (by omega) hb.1 hb.2, or_add _ _ i (by omega) hr.1 hr.2 hb.1 hb.2]
    have e4 : wbLe ((l.drop a).take i) + rd l ((a + i : Nat) : Int) * 256 ^ i = wbLe ((l.drop a).take (i + 1)) := by
      rw [take_snoc_rd l a i (by omega), wbLe_snoc, hlen2]
    rw [e4]
    exact ih k (i + 1) (by omega) (by omega)

theorem ib_and : ∀ a : Fin 256, Go.bits .and .u8 (a.val : Int) 15 = (a.val : Int) % 16 := by decide +kernel
theorem ib_shl : ∀ b : Fin 256, shl .u8 (b.val : Int) 4 = 16 * ((b.val : Int) % 16) := by decide +kernel
theorem ib_or : ∀ a b : Fin 16, Go.bits .or .u8 (a.val : Int) (16 * (b.val : Int)) = (a.val : Int) + 16 * (b.val : Int) := by decide +kernel
theorem u8_of {a : Int} (h : (Lit.int .u8 a).wf = true) : 0 ≤ a ∧ a < 256 := by
  have := bounds_u8 h
  omega
theorem ib_second {a b : Int} (ha : 0 ≤ a ∧ a < 256) (hb : 0 ≤ b ∧ b < 256) : Go.bits .or .u8 (Go.bits .and .u8 a 15) (shl .u8 b 4) = a % 16 + 16 * (b % 16) := by
  obtain ⟨a, rfl⟩ : ∃ n : Nat, a = n := ⟨a.toNat, by omega⟩
  obtain ⟨b, rfl⟩ : ∃ n : Nat, b = n := ⟨b.toNat, by omega⟩
  have h1 := ib_and ⟨a, by omega⟩
  have h2 := ib_shl ⟨b, by omega⟩
  have h3 := ib_or ⟨a % 16, by omega⟩ ⟨b % 16, by omega⟩
  simp only at h1 h2 h3
  rw [h1, h2]
  have e1 : ((a % 16 : Nat) : Int) = (a : Int) % 16 := by omega
  have e2 : ((b % 16 : Nat) : Int) = (b : Int) % 16 := by omega
  rw [e1, e2] at h3
  exact h3
def by8 (x : S35) : List Int := [x.f0, x.f1 % 16 + 16 * (x.f2 % 16), (x.f3 % 65536) % 256, (x.f3 % 65536) / 256 % 256, (x.f4 % 4294967296) % 256, (x.f4 % 4294967296) / 256 % 256, (x.f4 % 4294967296) / 65536 % 256, (x.f4 % 4294967296) / 16777216 % 256]
def Ok35 (x : S35) : Prop := ((Lit.int .u8 x.f0).wf = true) ∧ ((Lit.int .u8 x.f1).wf = true) ∧ ((Lit.int .u8 x.f2).wf = true) ∧ ((Lit.int .i16 x.f3).wf = true) ∧ ((Lit.int .i32 x.f4).wf = true)
theorem ib_store2 (k : Nat) (a b x : Int) : words_Store.f (k + 3) [a, b, 0, 0, 0, 0, 0, 0] 2 2 x = some (true, [a, b, shr .u64 x 0 % 256, shr .u64 x 8 % 256, 0, 0, 0, 0]) := by kernel_rfl
theorem ib_store4 (k : Nat) (a b c d x : Int) : words_Store.f (k + 5) [a, b, c, d, 0, 0, 0, 0] 4 4 x = some (true, [a, b, c, d, shr .u64 x 0 % 256, shr .u64 x 8 % 256, shr .u64 x 16 % 256, shr .u64 x 24 % 256]) := by kernel_rfl
theorem ib_shr (x : Int) (n : Nat) (hn : n ≤ 24) : shr .u64 x n = x / 2 ^ n := by
  unfold shr
  have e : min (n : Int).toNat IntKind.u64.bits = n := by
    have : IntKind.u64.bits = 64 := rfl
    rw [this]; omega
  rw [e]
theorem ib_one (k : Nat) (x : S35) (h : Ok35 x) : inst_bytesOf.f (k + 5) x.f0 x.f1 x.f2 x.f3 x.f4 = some (by8 x) := by
  unfold inst_bytesOf.f inst_two
  rw [ib_store2 (k + 2), Option.bind_some]
  simp only []
  rw [ib_store4 k, Option.bind_some, ib_second (u8_of h.2.1) (u8_of h.2.2.1)]
  have s0 : ∀ z, shr .u64 z 0 = z := fun z => by have := ib_shr z 0 (by decide); simpa using this
  have s1 : ∀ z, shr .u64 z 8 = z / 256 := fun z => ib_shr z 8 (by decide)
  have s2 : ∀ z, shr .u64 z 16 = z / 65536 := fun z => ib_shr z 16 (by decide)
  have s3 : ∀ z, shr .u64 z 24 = z / 16777216 := fun z => ib_shr z 24 (by decide)
  rw [s0, s1, s0, s1, s2, s3]
  have e : IntKind.u64.wrap (IntKind.u16.wrap x.f3) = x.f3 % 65536 := by
    rw [IntKind.wrap_u64, IntKind.wrap_u16]
    omega
  rw [e]
  rfl
theorem i16_of {a : Int} (h : (Lit.int .i16 a).wf = true) : -32768 ≤ a ∧ a < 32768 := by
  have := bounds_i16 h
  omega
theorem i32_of {a : Int} (h : (Lit.int .i32 a).wf = true) : -2147483648 ≤ a ∧ a < 2147483648 := by
  have := bounds_i32 h
  omega
theorem i16_wrap (n : Int) : IntKind.i16.wrap n = (n + 32768) % 65536 - 32768 := by
  simp [IntKind.wrap, IntKind.bits, IntKind.signed]
  split <;> omega
theorem i32_wrap (n : Int) : wrap32 n = (n + 2147483648) % 4294967296 - 2147483648 := by
  unfold wrap32
  omega
theorem ib_loops (l : List S35) (hl : l.length ≤ 200) (hok : ∀ x ∈ l, Ok35 x) : ∀ (d k i : Nat) (out : List Int), i + d = l.length → d + 10 < k → out.length = 8 * i →
    inst_Bytes.l0 k out l (l.length : Int) i = some (out ++ ((l.drop i).map by8).flatten) := by
  intro d
  induction d with
  | zero =>
    intro k i out hi hk ho
    obtain ⟨k, rfl⟩ : ∃ m, k = m + 1 := ⟨k - 1, by omega⟩
    rw [inst_Bytes.l0, if_neg (by omega), List.drop_eq_nil_of_le (by omega)]
    simp
  | succ d ih =>
    intro k i out hi hk ho
    obtain ⟨k, rfl⟩ : ∃ m, k = m + 6 := ⟨k - 6, by omega⟩
    have hlt : i < l.length := by omega
    have e : rd_T35 l (i : Int) = l[i] := by
      unfold rd_T35
      rw [Int.toNat_natCast, List.getD_eq_getElem?_getD, List.getElem?_eq_getElem hlt]
      rfl
    have e3 : wrap64 ((i : Int) + 1) = ((i + 1 : Nat) : Int) := by unfold wrap64; omega
    have e8 : (by8 l[i]).length = 8 := rfl
    have h1 := ih (k + 5) (i + 1) (out ++ by8 l[i]) (by omega) (by omega) (by rw [List.length_append, e8, ho]; omega)
    rw [inst_Bytes.l0, if_pos (by omega), if_pos (by omega), if_pos (by omega), e, ib_one k _ (hok _ (List.getElem_mem hlt)), Option.bind_some, e8, if_pos (by omega), e3, h1, List.drop_eq_getElem_cons hlt, List.map_cons, List.flatten_cons, List.append_assoc]
/-- What is read of eight bytes. -/
def parse (c : List Int) : S35 := ⟨rd c 0, rd c 1 % 16, rd c 1 / 16, IntKind.i16.wrap (wbLe ((c.drop 2).take 2)), wrap32 (wbLe ((c.drop 4).take 4))⟩
theorem load_at (c : List Int) (hc : IsBytes c) (h8 : c.length = 8) (a n : Nat) (hn : n = 2 ∨ n = 4) (han : a + n ≤ 8) : words_Load.f 20 c (a : Int) (n : Int) = some (wbLe ((c.drop a).take n), true) := by
  have hs : words_IsSize.f (n : Int) = some true := by rcases hn with rfl | rfl <;> decide
  have ht : words_there.f c (a : Int) (n : Int) = some true := by
    unfold words_there.f
    rw [hs, Option.bind_some, if_pos rfl, if_pos (by omega), if_pos (by omega)]
    have : wrap64 ((c.length : Int) - (n : Int)) = (c.length : Int) - n := by unfold wrap64; omega
    rw [this, decide_eq_true (by omega)]
  unfold words_Load.f
  rw [ht, Option.bind_some, if_pos rfl]
  have := load_loop c hc a n (by omega) (by omega) (by omega) n 20 0 (by omega) (by omega)
  simpa [wbLe] using this
theorem chunk_len (l0 : List Int) (i : Nat) (h : 8 * i + 8 ≤ l0.length) : (ichunk l0 i).length = 8 := by
  unfold ichunk
  rw [List.length_take, List.length_drop]
  omega
theorem chunk_bytes {l0 : List Int} (h : IsBytes l0) (i : Nat) : IsBytes (ichunk l0 i) := isBytes_sub h _ _
theorem chunk_eval (l0 : List Int) (i : Nat) (hb : IsBytes l0) (h : 8 * i + 8 ≤ l0.length) : inst_chunk l0 i = some (parse (ichunk l0 i)) := by
  have h8 := chunk_len l0 i h
  have hc := chunk_bytes hb i
  have e1 := load_at (ichunk l0 i) hc h8 2 2 (.inl rfl) (by decide)
  have e2 := load_at (ichunk l0 i) hc h8 4 4 (.inr rfl) (by decide)
  have e1' : words_Load.f 20 (ichunk l0 i) 2 2 = some (wbLe (((ichunk l0 i).drop 2).take 2), true) := e1
  have e2' : words_Load.f 20 (ichunk l0 i) 4 4 = some (wbLe (((ichunk l0 i).drop 4).take 4), true) := e2
  unfold inst_chunk
  rw [e1', Option.bind_some, e2', Option.bind_some]
  unfold parse
  have hr := rd_byte _ hc 1
  obtain ⟨b, hb2⟩ : ∃ n : Nat, rd (ichunk l0 i) 1 = n := ⟨(rd (ichunk l0 i) 1).toNat, by omega⟩
  have h1 := ib_and ⟨b, by omega⟩
  simp only at h1
  rw [hb2, h1]
theorem chunks_eval (l0 : List Int) (hb : IsBytes l0) : ∀ q : Nat, 8 * q ≤ l0.length → inst_chunks l0 q = some ((List.range q).map fun i => parse (ichunk l0 i))
  | 0, _ => rfl
  | q + 1, h => by
    unfold inst_chunks
    rw [chunks_eval l0 hb q (by omega), Option.bind_some, chunk_eval l0 q hb (by omega), Option.bind_some, List.range_succ, List.map_append]
    rfl
theorem same_self (T : List S35) (hl : T.length ≤ 3000) : ∀ (d k i : Nat), i + d = T.length → d < k → halberdref02_Same.l0 k T T i = some true := by
  intro d
  induction d with
  | zero =>
    intro k i hi hk
    obtain ⟨k, rfl⟩ : ∃ m, k = m + 1 := ⟨k - 1, by omega⟩
    rw [halberdref02_Same.l0, if_neg (by omega)]
  | succ d ih =>
    intro k i hi hk
    obtain ⟨k, rfl⟩ : ∃ m, k = m + 1 := ⟨k - 1, by omega⟩
    have e3 : wrap64 ((i : Int) + 1) = ((i + 1 : Nat) : Int) := by unfold wrap64; omega
    rw [halberdref02_Same.l0, if_pos (by omega), if_pos (by omega), if_pos (by omega)]
    simp only [beq_self_eq_true, Bool.not_true, Bool.or_self, Bool.false_eq_true, if_false]
    rw [e3]
    exact ih k (i + 1) (by omega) (by omega)
theorem same_true (T : List S35) (hl : T.length ≤ 3000) (k : Nat) (hk : T.length < k) : halberdref02_Same.f k T T = some true := by
  unfold halberdref02_Same.f
  rw [if_pos rfl]
  exact same_self T hl T.length k 0 (by omega) hk
theorem flat_chunks (l0 : List Int) : ∀ q : Nat, ((List.range q).map fun i => ichunk l0 i).flatten = l0.take (8 * q)
  | 0 => by simp
  | q + 1 => by
    rw [List.range_succ, List.map_append, List.flatten_append, flat_chunks l0 q]
    simp only [List.map_cons, List.map_nil, List.flatten_cons, List.flatten_nil, List.append_nil]
    unfold ichunk
    rw [← List.take_add]
    rfl
theorem list8 (c : List Int) (h : c.length = 8) : ∃ a0 a1 a2 a3 a4 a5 a6 a7, c = [a0, a1, a2, a3, a4, a5, a6, a7] := by
  match c, h with
  | [a0, a1, a2, a3, a4, a5, a6, a7], _ => exact ⟨a0, a1, a2, a3, a4, a5, a6, a7, rfl⟩
theorem parse8 (a0 a1 a2 a3 a4 a5 a6 a7 : Int) : parse [a0, a1, a2, a3, a4, a5, a6, a7] = ⟨a0, a1 % 16, a1 / 16, IntKind.i16.wrap (a2 + 256 * (a3 + 256 * 0)), wrap32 (a4 + 256 * (a5 + 256 * (a6 + 256 * (a7 + 256 * 0))))⟩ := rfl
theorem by8_parse (c : List Int) (h : c.length = 8) (hb : IsBytes c) : by8 (parse c) = c := by
  obtain ⟨a0, a1, a2, a3, a4, a5, a6, a7, rfl⟩ := list8 c h
  have b0 := hb a0 (by simp); have b1 := hb a1 (by simp); have b2 := hb a2 (by simp); have b3 := hb a3 (by simp)
  have b4 := hb a4 (by simp); have b5 := hb a5 (by simp); have b6 := hb a6 (by simp); have b7 := hb a7 (by simp)
  rw [parse8]
  unfold by8
  simp only [i16_wrap, i32_wrap, List.cons.injEq, and_true, true_and]
  clear hb h b0
  refine ⟨?_, ?_, ?_, ?_, ?_, ?_, ?_⟩ <;> omega
theorem parse_ok (c : List Int) (h : c.length = 8) (hb : IsBytes c) : Ok35 (parse c) := by
  obtain ⟨a0, a1, a2, a3, a4, a5, a6, a7, rfl⟩ := list8 c h
  have b0 := hb a0 (by simp); have b1 := hb a1 (by simp)
  rw [parse8]
  refine ⟨?_, ?_, ?_, ?_, ?_⟩
  · simp [Lit.wf, IntKind.min, IntKind.max, IntKind.signed, IntKind.bits]; omega
  · simp [Lit.wf, IntKind.min, IntKind.max, IntKind.signed, IntKind.bits]; omega
  · simp [Lit.wf, IntKind.min, IntKind.max, IntKind.signed, IntKind.bits]; omega
  · rw [i16_wrap]; simp [Lit.wf, IntKind.min, IntKind.max, IntKind.signed, IntKind.bits]; omega
  · rw [i32_wrap]; simp [Lit.wf, IntKind.min, IntKind.max, IntKind.signed, IntKind.bits]; omega
theorem ib_i16 {a : Int} (h : (Lit.int .i16 a).wf = true) : -32768 ≤ a ∧ a < 32768 := by
  have := bounds_i16 h
  omega
theorem ib_i32 {a : Int} (h : (Lit.int .i32 a).wf = true) : -2147483648 ≤ a ∧ a < 2147483648 := by
  have := bounds_i32 h
  omega
theorem parse_by8 (x : S35) (h : Ok35 x) (h1 : x.f1 ≤ 15) (h2 : x.f2 ≤ 15) : parse (by8 x) = x := by
  obtain ⟨f0, f1, f2, f3, f4⟩ := x
  have b1 := u8_of h.2.1
  have b2 := u8_of h.2.2.1
  have b3 := ib_i16 h.2.2.2.1
  have b4 := ib_i32 h.2.2.2.2
  simp only at b1 b2 b3 b4 h1 h2
  unfold by8
  rw [parse8, i16_wrap, i32_wrap]
  have e1 : f1 % 16 = f1 := by omega
  have e2 : f2 % 16 = f2 := by omega
  have e3 : f3 % 65536 % 256 + 256 * (f3 % 65536 / 256 % 256 + 256 * 0) = f3 % 65536 := by
    have h3 : 0 ≤ f3 % 65536 ∧ f3 % 65536 < 65536 := by omega
    generalize f3 % 65536 = u at h3
    have h4 : u / 256 % 256 = u / 256 := by omega
    omega
  have e4 : f4 % 4294967296 % 256 + 256 * (f4 % 4294967296 / 256 % 256 + 256 * (f4 % 4294967296 / 65536 % 256 + 256 * (f4 % 4294967296 / 16777216 % 256 + 256 * 0))) = f4 % 4294967296 := by
    have h3 : 0 ≤ f4 % 4294967296 ∧ f4 % 4294967296 < 4294967296 := by omega
    generalize f4 % 4294967296 = u at h3
    have h4 : u / 16777216 % 256 = u / 16777216 := by omega
    have h5 : u / 65536 = u / 256 / 256 := by omega
    have h6 : u / 16777216 = u / 256 / 256 / 256 := by omega
    rw [h4, h5, h6]
    omega
  rw [e1, e2, e3, e4]
  congr 1 <;> omega
theorem by8_bytes (x : S35) (h : Ok35 x) : IsBytes (by8 x) := by
  obtain ⟨f0, f1, f2, f3, f4⟩ := x
  have b0 := u8_of h.1
  have b1 := u8_of h.2.1
  have b2 := u8_of h.2.2.1
  simp only at b0 b1 b2
  intro y hy
  simp only [by8, List.mem_cons, List.not_mem_nil, or_false] at hy
  rcases hy with rfl | rfl | rfl | rfl | rfl | rfl | rfl | rfl <;> omega
theorem flat_len8 : ∀ l : List S35, (l.map by8).flatten.length = 8 * l.length
  | [] => rfl
  | x :: l => by
    have : (by8 x).length = 8 := rfl
    rw [List.map_cons, List.flatten_cons, List.length_append, flat_len8 l, this, List.length_cons]
    omega
theorem flat_chunk : ∀ (l : List S35) (i : Nat) (h : i < l.length), ichunk (l.map by8).flatten i = by8 l[i]
  | x :: l, 0, _ => by
    unfold ichunk
    rw [List.map_cons, List.flatten_cons, Nat.mul_zero, List.drop_zero]
    exact List.take_left' rfl
  | x :: l, i + 1, h => by
    have e8 : (by8 x).length = 8 := rfl
    have ih := flat_chunk l i (by simpa using h)
    unfold ichunk at ih ⊢
    rw [List.map_cons, List.flatten_cons, List.drop_append, e8, show 8 * (i + 1) - 8 = 8 * i by omega, List.drop_eq_nil_of_le (by rw [e8]; omega), List.nil_append, ih]
    rfl
theorem back_loop (l : List S35) (hl : l.length ≤ 64) (F : Nat → Option Bool) (hF : ∀ k, F k = (inst_Bytes.f k l).bind fun t125 => ((inst_Read.f k t125).bind fun bt128 => (if bt128.2 = 0 then ((halberdref02_Same.f k l bt128.1).bind fun t132 => (some t132)) else (some false))))
    (hgo : (∀ x ∈ l, x.f1 ≤ 15 ∧ x.f2 ≤ 15) → ∀ k, 200 ≤ k → F k = some true) : ∀ (d k i : Nat), i + d = l.length → d + 200 ≤ k → (∀ x ∈ l.take i, x.f1 ≤ 15 ∧ x.f2 ≤ 15) → halberdlaw02_InstBack.l0 (k + 1) l i = some true := by
  intro d
  induction d with
  | zero =>
    intro k i hi hk hok
    rw [halberdlaw02_InstBack.l0, if_neg (by omega)]
    have := hgo (by rw [List.take_of_length_le (by omega)] at hok; exact hok) k (by omega)
    rw [hF] at this
    exact this
  | succ d ih =>
    intro k i hi hk hok
    have hlt : i < l.length := by omega
    have e : rd_T35 l (i : Int) = l[i] := by
      unfold rd_T35
      rw [Int.toNat_natCast, List.getD_eq_getElem?_getD, List.getElem?_eq_getElem hlt]
      rfl
    have e3 : wrap64 ((i : Int) + 1) = ((i + 1 : Nat) : Int) := by unfold wrap64; omega
    rw [halberdlaw02_InstBack.l0, if_pos (by omega), if_pos (by omega), e, e3]
    by_cases h1 : l[i].f1 > 15
    · rw [if_pos h1]
    · rw [if_neg h1]
      by_cases h2 : l[i].f2 > 15
      · rw [if_pos h2]
      · rw [if_neg h2]
        obtain ⟨k, rfl⟩ : ∃ m, k = m + 1 := ⟨k - 1, by omega⟩
        refine ih k (i + 1) (by omega) (by omega) fun x hx => ?_
        rw [List.take_succ_eq_append_getElem hlt] at hx
        rcases List.mem_append.1 hx with hx | hx
        · exact hok x hx
        · rw [List.mem_singleton.1 hx]
          omega
theorem InstBack : halberdlaw02_InstBack.Pure := by
  intro l h
  refine ⟨2000, ?_⟩
  unfold halberdlaw02_InstBack.f
  refine ask_ ib_alive ?_
  by_cases c1 : (l.length : Int) < 1
  · rw [if_pos c1, halberdlaw02_InstBack.j0, if_pos rfl]
  · rw [if_neg c1]
    by_cases c2 : (l.length : Int) > 64
    · rw [halberdlaw02_InstBack.j0, if_pos (decide_eq_true c2)]
    · rw [halberdlaw02_InstBack.j0, if_neg (by simpa using c2)]
      have := back_loop l (by omega) _ (fun _ => rfl) (fun hok k hk => ?_) l.length 1998 0 (by omega) (by omega) (by simp)
      · simpa using this
      · have hb : ∀ x ∈ l, Ok35 x := fun x hx => h.2.2 x hx
        have e1 : inst_Bytes.f k l = some (l.map by8).flatten := by
          unfold inst_Bytes.f
          have := ib_loops l (by omega) hb l.length k 0 [] (by omega) (by omega) rfl
          rw [show ((0 : Nat) : Int) = 0 from rfl] at this
          rw [this, List.drop_zero, List.nil_append]
        have hby : IsBytes (l.map by8).flatten := fun y hy => by
          obtain ⟨c, hc, hyc⟩ := List.mem_flatten.1 hy
          obtain ⟨x, hx, rfl⟩ := List.mem_map.1 hc
          exact by8_bytes x (hb x hx) y hyc
        have hlen := flat_len8 l
        have e2 : inst_Read.f k (l.map by8).flatten = some (l, 0) := by
          unfold inst_Read.f
          rw [if_neg (by omega), show (l.map by8).flatten.length / 8 = l.length by omega, chunks_eval _ hby l.length (by omega), Option.bind_some]
          congr 2
          apply List.ext_getElem
          · simp
          · intro i h1 h2
            have hx := List.getElem_mem h2
            rw [List.getElem_map, List.getElem_range, flat_chunk l i h2, parse_by8 _ (hb _ hx) (hok _ hx).1 (hok _ hx).2]
        rw [e1, Option.bind_some, e2, Option.bind_some, if_pos rfl, same_true l (by omega) k (by omega)]
        rfl
end Go.Proofs.Ytjcmkognkbpfcaa.Pure
