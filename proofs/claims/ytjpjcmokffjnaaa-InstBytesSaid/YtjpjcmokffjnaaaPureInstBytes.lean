/- The bytes of any instructions are the document's: for every list of instructions. -/
import Derived.Test.YtjpjcmokffjnaaaPInstBytesx2
import Derived.Test.YtjpjcmokffjnaaaTB
set_option linter.unusedVariables false
set_option linter.unusedSimpArgs false
namespace Go.Proofs.Ytjpjcmokffjnaaa.Pure
open Go.RowKit Go.Proofs.Ytjpjcmokffjnaaa.PInstBytes Go.Proofs.YtjpjcmokffjnaaaW.PrintWords Go.Proofs.YtjpjcmokffjnaaaW.PrintLast Go.Proofs.YtjpjcmokffjnaaaW.PrintMore Go.Proofs.Ytjpjcmokffjnaaa.HB Go.Proofs.Ytjpjcmokffjnaaa.TB

theorem ib_alive : halberdlaw02_alive.f 300 = some true := by kernel_rfl
theorem ib_and : ∀ a : Fin 256, Go.bits .and .u8 (a.val : Int) 15 = (a.val : Int) % 16 := by decide +kernel
theorem ib_shl : ∀ b : Fin 256, shl .u8 (b.val : Int) 4 = 16 * ((b.val : Int) % 16) := by decide +kernel
theorem ib_or : ∀ a b : Fin 16, Go.bits .or .u8 (a.val : Int) (16 * (b.val : Int)) = (a.val : Int) + 16 * (b.val : Int) := by decide +kernel
theorem u8_of {a : Int} (h : (Lit.int .u8 a).wf = true) : 0 ≤ a ∧ a < 256 := by
  have := bounds_u8 h
  omega
theorem ib_second {a b : Int} (ha : 0 ≤ a ∧ a < 256) (hb : 0 ≤ b ∧ b < 256) : Go.bits .or .u8 (Go.bits .and .u8 a 15) (shl .u8 b 4) = a % 16 + 16 * (b % 16) := by
  obtain ⟨a, rfl⟩ : ∃ n : Nat, a = n := ⟨a.toNat, by omega⟩
  obtain ⟨b, rfl⟩ : ∃ n : Nat, b = n := ⟨b.toNat, by omega⟩
  have h1 := ib_and ⟨a, by omega⟩
  have h2 := ib_shl ⟨b, by omega⟩
  have h3 := ib_or ⟨a % 16, by omega⟩ ⟨b % 16, by omega⟩
  simp only at h1 h2 h3
  rw [h1, h2]
  have e1 : ((a % 16 : Nat) : Int) = (a : Int) % 16 := by omega
  have e2 : ((b % 16 : Nat) : Int) = (b : Int) % 16 := by omega
  rw [e1, e2] at h3
  exact h3
def by8 (x : S29) : List Int := [x.f0, x.f1 % 16 + 16 * (x.f2 % 16), (x.f3 % 65536) % 256, (x.f3 % 65536) / 256 % 256, (x.f4 % 4294967296) % 256, (x.f4 % 4294967296) / 256 % 256, (x.f4 % 4294967296) / 65536 % 256, (x.f4 % 4294967296) / 16777216 % 256]
def Ok29 (x : S29) : Prop := ((Lit.int .u8 x.f0).wf = true) ∧ ((Lit.int .u8 x.f1).wf = true) ∧ ((Lit.int .u8 x.f2).wf = true) ∧ ((Lit.int .i16 x.f3).wf = true) ∧ ((Lit.int .i32 x.f4).wf = true)
theorem ib_store2 (k : Nat) (a b x : Int) : words_Store.f (k + 3) [a, b, 0, 0, 0, 0, 0, 0] 2 2 x = some (true, [a, b, shr .u64 x 0 % 256, shr .u64 x 8 % 256, 0, 0, 0, 0]) := by kernel_rfl
theorem ib_store4 (k : Nat) (a b c d x : Int) : words_Store.f (k + 5) [a, b, c, d, 0, 0, 0, 0] 4 4 x = some (true, [a, b, c, d, shr .u64 x 0 % 256, shr .u64 x 8 % 256, shr .u64 x 16 % 256, shr .u64 x 24 % 256]) := by kernel_rfl
theorem ib_shr (x : Int) (n : Nat) (hn : n ≤ 24) : shr .u64 x n = x / 2 ^ n := by
  unfold shr
  have e : min (n : Int).toNat IntKind.u64.bits = n := by
    have : IntKind.u64.bits = 64 := rfl
    rw [this]; omega
  rw [e]
theorem ib_one (k : Nat) (x : S29) (h : Ok29 x) : inst_bytesOf.f (k + 5) x.f0 x.f1 x.f2 x.f3 x.f4 = some (by8 x) := by
  unfold inst_bytesOf.f inst_two
  rw [ib_store2 (k + 2), Option.bind_some]
  simp only []
  rw [ib_store4 k, Option.bind_some, ib_second (u8_of h.2.1) (u8_of h.2.2.1)]
  have s0 : ∀ z, shr .u64 z 0 = z := fun z => by have := ib_shr z 0 (by decide); simpa using this
  have s1 : ∀ z, shr .u64 z 8 = z / 256 := fun z => ib_shr z 8 (by decide)
  have s2 : ∀ z, shr .u64 z 16 = z / 65536 := fun z => ib_shr z 16 (by decide)
  have s3 : ∀ z, shr .u64 z 24 = z / 16777216 := fun z => ib_shr z 24 (by decide)
  rw [s0, s1, s0, s1, s2, s3]
  have e : IntKind.u64.wrap (IntKind.u16.wrap x.f3) = x.f3 % 65536 := by
    rw [IntKind.wrap_u64, IntKind.wrap_u16]
    omega
  rw [e]
  rfl
theorem i16_of {a : Int} (h : (Lit.int .i16 a).wf = true) : -32768 ≤ a ∧ a < 32768 := by
  have := bounds_i16 h
  omega
theorem i32_of {a : Int} (h : (Lit.int .i32 a).wf = true) : -2147483648 ≤ a ∧ a < 2147483648 := by
  have := bounds_i32 h
  omega
theorem ib_ref (k : Nat) (l : List S29) (out : List Int) (i : Nat) (hi : i < l.length) (hl : l.length ≤ 200) (ho : out.length = 8 * i) (h : Ok29 (rd_T29 l i)) :
    halberdref02_Bytes.l0 (k + 1) l out i = halberdref02_Bytes.l0 k l (out ++ by8 (rd_T29 l i)) ((i + 1 : Nat) : Int) := by
  have e3 : wrap64 ((i : Int) + 1) = ((i + 1 : Nat) : Int) := by unfold wrap64; omega
  rw [halberdref02_Bytes.l0, if_pos (by omega), if_pos (by omega), e3]
  generalize rd_T29 l i = x at h
  obtain ⟨f0, f1, f2, f3, f4⟩ := x
  have b1 := u8_of h.2.1
  have b2 := u8_of h.2.2.1
  have b3 := i16_of h.2.2.2.1
  have b4 := i32_of h.2.2.2.2
  simp only at b1 b2 b3 b4 ⊢
  have t1 : Int.tmod f1 16 = f1 % 16 := Int.tmod_eq_emod_of_nonneg b1.1
  have t2 : Int.tmod f2 16 = f2 % 16 := Int.tmod_eq_emod_of_nonneg b2.1
  have hlen : out.length + 8 < 140737488355328 := by omega
  have w3 : wrap64 f3 = f3 := by unfold wrap64; omega
  have w4 : wrap64 f4 = f4 := by unfold wrap64; omega
  rw [w3, w4, t1, t2]
  have fin : ∀ O I : Int, O = f3 % 65536 → I = f4 % 4294967296 → ([f0, (f1 % 16 + (16 * (f2 % 16)) % 256) % 256, (Int.tmod O 256) % 256, (wrap64 (Int.tdiv O 256)) % 256, (Int.tmod I 256) % 256, (Int.tmod (wrap64 (Int.tdiv I 256)) 256) % 256, (Int.tmod (wrap64 (Int.tdiv I 65536)) 256) % 256, (wrap64 (Int.tdiv I 16777216)) % 256] : List Int) = by8 ⟨f0, f1, f2, f3, f4⟩ := by
    intro O I hO hI
    have o0 : 0 ≤ O := by omega
    have i0 : 0 ≤ I := by omega
    rw [Int.tmod_eq_emod_of_nonneg o0, Int.tdiv_eq_ediv_of_nonneg o0, Int.tmod_eq_emod_of_nonneg i0, Int.tdiv_eq_ediv_of_nonneg i0, Int.tdiv_eq_ediv_of_nonneg i0, Int.tdiv_eq_ediv_of_nonneg i0]
    have q1 : wrap64 (I / 256) = I / 256 := by unfold wrap64; omega
    have q2 : wrap64 (I / 65536) = I / 65536 := by unfold wrap64; omega
    have q3 : wrap64 (I / 16777216) = I / 16777216 := by unfold wrap64; omega
    have q4 : wrap64 (O / 256) = O / 256 := by unfold wrap64; omega
    rw [q1, q2, q3, q4, Int.tmod_eq_emod_of_nonneg (by omega), Int.tmod_eq_emod_of_nonneg (by omega)]
    unfold by8
    simp only [List.cons.injEq, and_true, true_and]
    subst hO hI
    refine ⟨?_, ?_, ?_, ?_, ?_, ?_, ?_⟩ <;> omega
  by_cases c3 : f3 < 0
  · have v3 : wrap64 (f3 + 65536) = f3 % 65536 := by unfold wrap64; omega
    rw [if_pos c3, v3]
    by_cases c4 : f4 < 0
    · have v4 : wrap64 (f4 + 4294967296) = f4 % 4294967296 := by unfold wrap64; omega
      rw [if_pos c4, v4, Option.bind_some, fin _ _ rfl rfl]
      exact if_pos hlen
    · rw [if_neg c4, Option.bind_some, fin _ _ rfl (by omega)]
      exact if_pos hlen
  · rw [if_neg c3]
    by_cases c4 : f4 < 0
    · have v4 : wrap64 (f4 + 4294967296) = f4 % 4294967296 := by unfold wrap64; omega
      rw [if_pos c4, v4, Option.bind_some, fin _ _ (by omega) rfl]
      exact if_pos hlen
    · rw [if_neg c4, Option.bind_some, fin _ _ (by omega) (by omega)]
      exact if_pos hlen
theorem ib_loops (l : List S29) (hl : l.length ≤ 200) (hok : ∀ x ∈ l, Ok29 x) : ∀ (d k k' i : Nat) (out : List Int), i + d = l.length → d + 10 < k → d < k' → out.length = 8 * i →
    ∃ r, inst_Bytes.l0 k out l (l.length : Int) i = some r ∧ halberdref02_Bytes.l0 k' l out i = some r := by
  intro d
  induction d with
  | zero =>
    intro k k' i out hi hk hk' ho
    obtain ⟨k, rfl⟩ : ∃ m, k = m + 1 := ⟨k - 1, by omega⟩
    obtain ⟨k', rfl⟩ : ∃ m, k' = m + 1 := ⟨k' - 1, by omega⟩
    exact ⟨out, by rw [inst_Bytes.l0, if_neg (by omega)], by rw [halberdref02_Bytes.l0, if_neg (by omega)]⟩
  | succ d ih =>
    intro k k' i out hi hk hk' ho
    obtain ⟨k, rfl⟩ : ∃ m, k = m + 6 := ⟨k - 6, by omega⟩
    obtain ⟨k', rfl⟩ : ∃ m, k' = m + 1 := ⟨k' - 1, by omega⟩
    have hx : Ok29 (rd_T29 l (i : Int)) := by
      have hlt : i < l.length := by omega
      have e : rd_T29 l (i : Int) = l[i] := by
        unfold rd_T29
        rw [Int.toNat_natCast, List.getD_eq_getElem?_getD, List.getElem?_eq_getElem hlt]
        rfl
      rw [e]
      exact hok _ (List.getElem_mem hlt)
    have e3 : wrap64 ((i : Int) + 1) = ((i + 1 : Nat) : Int) := by unfold wrap64; omega
    have e8 : (by8 (rd_T29 l (i : Int))).length = 8 := rfl
    obtain ⟨r, h1, h2⟩ := ih (k + 5) k' (i + 1) (out ++ by8 (rd_T29 l (i : Int))) (by omega) (by omega) (by omega) (by rw [List.length_append, e8, ho]; omega)
    refine ⟨r, ?_, (ib_ref k' l out i (by omega) hl ho hx).trans h2⟩
    rw [inst_Bytes.l0, if_pos (by omega), if_pos (by omega), if_pos (by omega), ib_one k _ hx, Option.bind_some, e8, if_pos (by omega), e3]
    exact h1
theorem InstBytes : halberdlaw02_InstBytes.Pure := by
  intro l h
  refine ⟨300, ?_⟩
  unfold halberdlaw02_InstBytes.f
  refine ask_ ib_alive ?_
  by_cases c : (l.length : Int) > 200
  · rw [if_pos c]
  · rw [if_neg c]
    obtain ⟨r, h1, h2⟩ := ib_loops l (by omega) (fun x hx => h.2.2 x hx) l.length 300 300 0 [] (by omega) (by omega) (by omega) rfl
    unfold inst_Bytes.f halberdref02_Bytes.f
    rw [show ((0 : Nat) : Int) = 0 from rfl] at h1 h2
    rw [h1, Option.bind_some, h2, Option.bind_some, beq_self_eq_true]

end Go.Proofs.Ytjpjcmokffjnaaa.Pure
