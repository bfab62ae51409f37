/- Each method of both rings as one law, over one pure function; no conditions beyond each theorem's own. -/
import Derived.Test.YtgkdbhkbkpfbpaaRS
set_option linter.unusedVariables false
set_option linter.unusedSimpArgs false
namespace Go.Proofs.Rg
open Go.RowKit Go.Proofs.Ev Go.Proofs.Hp Go.Proofs.Ar Go.Proofs.YtgkdbhkbkpfbpaaW.PrintWords Go.Proofs.YtgkdbhkbkpfbpaaW.PrintLast Go.Proofs.YtgkdbhkbkpfbpaaW.PrintMore
/-- Is a number that of a held record? -/
def dh (R : List Rc) (G : List Bool) (x : Int) : Bool := if x < 0 then false else match R[x.toNat]?, G[x.toNat]? with
  | some r, some g => !g && r.st == 0
  | _, _ => false
theorem dh_true {R : List Rc} {G : List Bool} {x : Int} (h : dh R G x = true) : ∃ (i : Nat) (r : Rc), x = (i : Int) ∧ R[i]? = some r ∧ G[i]? = some false ∧ r.st = 0 := by
  unfold dh at h
  split at h
  · cases h
  · split at h
    · rename_i r g h1 h2
      cases g with
      | true => cases h
      | false => exact ⟨x.toNat, r, by omega, h1, h2, by simpa using h⟩
    · cases h
theorem dh_at {R : List Rc} {G : List Bool} {i : Nat} {r : Rc} {g : Bool} (h1 : R[i]? = some r) (h2 : G[i]? = some g) : dh R G (i : Int) = (!g && r.st == 0) := by
  unfold dh
  rw [if_neg (by omega)]
  simp only [Int.toNat_natCast, h1, h2]
theorem dh_none {R : List Rc} {G : List Bool} {x : Int} (hid : ∀ (i : Nat) r, R[i]? = some r → r.id = (i : Int)) (h : dh R G x = false) : rfind x (live R G) 0 = -1 := by
  refine rfind_none x _ 0 fun r hr hc => ?_
  obtain ⟨i, h1, h2⟩ := live_idx R G r hr
  have hx : x = (i : Int) := by rw [← hc.1]; exact hid i r h1
  rw [hx, dh_at h1 h2, hc.2] at h
  exact absurd h (by decide)
theorem dh_find {R : List Rc} {G : List Bool} {i : Nat} {r : Rc} (hid : ∀ (i : Nat) r, R[i]? = some r → r.id = (i : Int)) (h1 : R[i]? = some r) (h2 : G[i]? = some false) (h3 : r.st = 0) : rfind (i : Int) (live R G) 0 = ((pos G i : Nat) : Int) := by
  have := rfind_live R G i 0 0 r (fun i r h => by rw [Nat.add_zero]; exact hid i r h) h1 h2 h3
  rw [Nat.zero_add, Nat.add_zero] at this
  exact this
def dset (R : List Rc) (x : Int) (s : Int) : List Rc := match R[x.toNat]? with
  | some r => R.set x.toNat { r with st := s }
  | none => R
/-- What is held behind an end of a record. -/
def dend (R : List Rc) (G : List Bool) (x s : Int) : List Rc := if dh R G x = true then dset R x s else R
theorem dset_at {R : List Rc} {i : Nat} {r : Rc} (h : R[i]? = some r) (s : Int) : dset R (i : Int) s = R.set i { r with st := s } := by
  unfold dset
  simp only [Int.toNat_natCast, h]
theorem used_set : ∀ (R : List Rc) (j : Nat) (r q : Rc), R[j]? = some r → q.b.length = r.b.length → used (R.set j q) = used R
  | [], _, _, _, h, _ => by simp at h
  | a :: R, 0, r, q, h, hq => by
    simp only [List.getElem?_cons_zero, Option.some.injEq] at h
    subst h
    simp only [List.set_cons_zero, used, hq]
  | a :: R, j + 1, r, q, h, hq => by
    have ih := used_set R j r q (by simpa using h) hq
    simp only [List.set_cons_succ, used, ih]
theorem used_drop : ∀ (R : List Rc) (k : Nat), used (R.drop k) ≤ used R
  | _, 0 => Nat.le_refl _
  | [], _ + 1 => Nat.le_refl _
  | a :: R, k + 1 => by
    have := used_drop R k
    simp only [List.drop_succ_cons, used]; omega
theorem dend_facts {R : List Rc} {G : List Bool} {x s : Int} {n : Nat} (hl : R.length = n) (hb1 : ∀ r ∈ R, 1 ≤ r.b.length) : (∀ r ∈ dend R G x s, 1 ≤ r.b.length) ∧ used (live (dend R G x s) G) = used (live R G) := by
  unfold dend
  split
  · rename_i h
    obtain ⟨i, r, rfl, h1, h2, h3⟩ := dh_true h
    rw [dset_at h1]
    refine ⟨fun q hq => ?_, ?_⟩
    · rcases List.mem_or_eq_of_mem_set hq with hq | rfl
      · exact hb1 q hq
      · exact hb1 r (List.mem_of_getElem? h1)
    · rw [live_setp _ _ _ _ h2]
      exact used_set _ _ r _ (live_pos R G i r h1 h2) rfl
  · exact ⟨hb1, rfl⟩
theorem commit13 (w0 w : World) (L X : Hl) (gr : Nat) (room drops nxt : Int) (A : Option Addr) (n c : Nat) (R : List Rc) (G : List Bool) (hS : RSt X A n c (live R G)) (hid : ∀ (i : Nat) r, R[i]? = some r → r.id = (i : Int)) (hb1 : ∀ r ∈ R, 1 ≤ r.b.length) (x : Int) (b : Bool) (R2 : List Rc) (hb : dh R G x = b) (hR2 : dend R G x 1 = R2) (hO : Own w0 w ((gr, .cells #[.int .i64 room, .int .i64 drops, .int .i64 nxt, .slice A n c] 133 (0, 0)) :: (X ++ L))) : Calls Try.prog 31 #[.pointer (some ⟨gr, 0, none⟩), .int .i64 x] w fun e w' => e = .returned (.bool b) ∧ ∃ X', RSt X' A n c (live R2 G) ∧ Own w0 w' ((gr, .cells #[.int .i64 room, .int .i64 drops, .int .i64 nxt, .slice A n c] 133 (0, 0)) :: (X' ++ L)) := by
  subst hb
  subst hR2
  unfold dend
  cases hd : dh R G x with
  | false =>
    rw [if_neg (by decide)]
    exact (commit_no w0 w L X gr room drops nxt A n c (live R G) hS x (dh_none hid hd) hO).mono fun e w' h => ⟨h.1, X, hS, h.2⟩
  | true =>
    obtain ⟨i, r, rfl, h1, h2, h3⟩ := dh_true hd
    obtain ⟨gs, gb, cb, cr, cur, hP⟩ := hS.open (live_pos R G i r h1 h2) (hb1 r (List.mem_of_getElem? h1))
    refine (commit_has w0 w L X gr room drops nxt A n c (live R G) (pos G i) r gs gb cb cr cur hP (i : Int) (dh_find hid h1 h2 h3) hO).mono fun e w' h => ?_
    obtain ⟨h4, X', h5, h6⟩ := h
    rw [if_pos rfl, dset_at h1, live_setp _ _ _ _ h2]
    exact ⟨h4, X', h5, h6.repr [(gb, .cells cur 5 (0, 0))] (by classical exact List.perm_iff_count.2 (fun a => by simp only [List.count_append, List.count_cons, List.count_nil, List.append_assoc, List.cons_append, List.nil_append] <;> ac_rfl))⟩
theorem discard13 (w0 w : World) (L X : Hl) (gr : Nat) (room drops nxt : Int) (A : Option Addr) (n c : Nat) (R : List Rc) (G : List Bool) (hS : RSt X A n c (live R G)) (hid : ∀ (i : Nat) r, R[i]? = some r → r.id = (i : Int)) (hb1 : ∀ r ∈ R, 1 ≤ r.b.length) (x : Int) (b : Bool) (R2 : List Rc) (hb : dh R G x = b) (hR2 : dend R G x 2 = R2) (hO : Own w0 w ((gr, .cells #[.int .i64 room, .int .i64 drops, .int .i64 nxt, .slice A n c] 133 (0, 0)) :: (X ++ L))) : Calls Try.prog 28 #[.pointer (some ⟨gr, 0, none⟩), .int .i64 x] w fun e w' => e = .returned (.bool b) ∧ ∃ X', RSt X' A n c (live R2 G) ∧ Own w0 w' ((gr, .cells #[.int .i64 room, .int .i64 drops, .int .i64 nxt, .slice A n c] 133 (0, 0)) :: (X' ++ L)) := by
  subst hb
  subst hR2
  unfold dend
  cases hd : dh R G x with
  | false =>
    rw [if_neg (by decide)]
    exact (discard_no w0 w L X gr room drops nxt A n c (live R G) hS x (dh_none hid hd) hO).mono fun e w' h => ⟨h.1, X, hS, h.2⟩
  | true =>
    obtain ⟨i, r, rfl, h1, h2, h3⟩ := dh_true hd
    obtain ⟨gs, gb, cb, cr, cur, hP⟩ := hS.open (live_pos R G i r h1 h2) (hb1 r (List.mem_of_getElem? h1))
    refine (discard_has w0 w L X gr room drops nxt A n c (live R G) (pos G i) r gs gb cb cr cur hP (i : Int) (dh_find hid h1 h2 h3) hO).mono fun e w' h => ?_
    obtain ⟨h4, X', h5, h6⟩ := h
    rw [if_pos rfl, dset_at h1, live_setp _ _ _ _ h2]
    exact ⟨h4, X', h5, h6.repr [(gb, .cells cur 5 (0, 0))] (by classical exact List.perm_iff_count.2 (fun a => by simp only [List.count_append, List.count_cons, List.count_nil, List.append_assoc, List.cons_append, List.nil_append] <;> ac_rfl))⟩
theorem dend13 (w0 w : World) (L X : Hl) (gw : Nat) (room drops : Int) (A : Option Addr) (n c : Nat) (R : List Rc) (G : List Bool) (hS : DSt X A n c R G) (x s : Int) (b : Bool) (R2 : List Rc) (hb : dh R G x = b) (hR2 : dend R G x s = R2) (hO : Own w0 w ((gw, .cells #[.int .i64 room, .int .i64 drops, .slice A n c] 72 (0, 0)) :: (X ++ L))) : Calls Try.prog 48 #[.pointer (some ⟨gw, 0, none⟩), .int .i64 x, .int .i64 s] w fun e w' => e = .returned (.bool b) ∧ ∃ X', DSt X' A n c R2 G ∧ Own w0 w' ((gw, .cells #[.int .i64 room, .int .i64 drops, .slice A n c] 72 (0, 0)) :: (X' ++ L)) := by
  subst hb
  subst hR2
  unfold dend
  by_cases hr : 0 ≤ x ∧ x < (n : Int)
  · obtain ⟨i, rfl⟩ : ∃ i : Nat, x = (i : Int) := ⟨x.toNat, by omega⟩
    have hi : i < R.length := by have := hS.len; omega
    have hg : i < G.length := by have := hS.glen; omega
    have h1 := List.getElem?_eq_getElem hi
    have h2 := List.getElem?_eq_getElem hg
    rw [dh_at h1 h2]
    cases ht : (!G[i] && R[i].st == 0) with
    | false =>
      rw [if_neg (by decide)]
      exact (dend_no w0 w L X gw room drops A n c R G hS s i _ _ h1 h2 ht hO).mono fun e w' h => ⟨h.1, X, hS, h.2⟩
    | true =>
      rw [if_pos rfl, dset_at h1]
      exact (dend_has w0 w L X gw room drops A n c R G hS s i _ _ h1 h2 ht hO).mono fun e w' h => by
        obtain ⟨h3, X', R2, rfl, h4, h5⟩ := h
        exact ⟨h3, X', h4, h5⟩
  · have hd : dh R G x = false := by
      cases hd : dh R G x with
      | false => rfl
      | true =>
        obtain ⟨i, r, rfl, h1, _, _⟩ := dh_true hd
        have := (List.getElem?_eq_some_iff.1 h1).1
        have := hS.len
        omega
    rw [hd, if_neg (by decide)]
    exact (dend_out w0 w L X gw room drops A n c R G hS x s (by omega) hO).mono fun e w' h => ⟨h.1, X, hS, h.2⟩
theorem dhas13 (w0 w : World) (L X : Hl) (gw : Nat) (room drops : Int) (A : Option Addr) (n c : Nat) (R : List Rc) (G : List Bool) (hS : DSt X A n c R G) (x : Int) (b : Bool) (hb : dh R G x = b) (hO : Own w0 w ((gw, .cells #[.int .i64 room, .int .i64 drops, .slice A n c] 72 (0, 0)) :: (X ++ L))) : Calls Try.prog 51 #[.pointer (some ⟨gw, 0, none⟩), .int .i64 x] w fun e w' => e = .returned (.bool b) ∧ Own w0 w' ((gw, .cells #[.int .i64 room, .int .i64 drops, .slice A n c] 72 (0, 0)) :: (X ++ L)) := by
  subst hb
  by_cases hr : 0 ≤ x ∧ x < (n : Int)
  · obtain ⟨i, rfl⟩ : ∃ i : Nat, x = (i : Int) := ⟨x.toNat, by omega⟩
    have h1 := List.getElem?_eq_getElem (show i < R.length by have := hS.len; omega)
    have h2 := List.getElem?_eq_getElem (show i < G.length by have := hS.glen; omega)
    exact dhas_in w0 w L X gw room drops A n c R G hS i _ _ _ h1 h2 (dh_at h1 h2).symm hO
  · have hd : dh R G x = false := by
      cases hd : dh R G x with
      | false => rfl
      | true =>
        obtain ⟨i, r, rfl, h1, _, _⟩ := dh_true hd
        have := (List.getElem?_eq_some_iff.1 h1).1
        have := hS.len
        omega
    rw [hd]
    exact dhas_out w0 w L X gw room drops A n c R G hS x (by omega) hO
/-- Does a record of m bytes fit? -/
def fits13 (R : List Rc) (G : List Bool) (room m : Int) : Bool := decide (1 ≤ m ∧ m ≤ 32 ∧ (used (live R G) : Int) + m + 8 ≤ room)
def drops13 (drops m : Int) : Int := if 1 ≤ m ∧ m ≤ 32 then drops + 1 else drops
theorem pres_no (w0 w : World) (L X : Hl) (gr : Nat) (room drops nxt : Int) (A : Option Addr) (n c : Nat) (R : List Rc) (G : List Bool) (hS : RSt X A n c (live R G)) (hid : ∀ (i : Nat) r, R[i]? = some r → r.id = (i : Int)) (hb1 : ∀ r ∈ R, 1 ≤ r.b.length) (ow m : Int) (hf : fits13 R G room m = false) (d2 : Int) (hd2 : drops13 drops m = d2) (hd : 0 ≤ drops ∧ drops ≤ 100000) (hO : Own w0 w ((gr, .cells #[.int .i64 room, .int .i64 drops, .int .i64 nxt, .slice A n c] 133 (0, 0)) :: (X ++ L))) : Calls Try.prog 26 #[.pointer (some ⟨gr, 0, none⟩), .int .i64 ow, .int .i64 m] w fun e w' => e = .returned (.tuple #[.int .i64 0, .bool false]) ∧ Own w0 w' ((gr, .cells #[.int .i64 room, .int .i64 d2, .int .i64 nxt, .slice A n c] 133 (0, 0)) :: (X ++ L)) := by
  have hf2 : ¬ (1 ≤ m ∧ m ≤ 32 ∧ (used (live R G) : Int) + m + 8 ≤ room) := of_decide_eq_false hf
  subst hd2
  unfold drops13
  by_cases h : 1 ≤ m ∧ m ≤ 32
  · obtain ⟨k, rfl⟩ : ∃ k : Nat, m = (k : Int) := ⟨m.toNat, by omega⟩
    rw [if_pos h]
    exact reserve_full w0 w L X gr room drops nxt A n c (live R G) hS ow k (by omega) _ rfl hd (fun hc => hf2 ⟨h.1, h.2, hc⟩) hO
  · rw [if_neg h]
    exact reserve_bad w0 w L X gr room drops nxt A n c (live R G) hS ow m h hO
theorem dres_no (w0 w : World) (L X : Hl) (gw : Nat) (room drops : Int) (A : Option Addr) (n c : Nat) (R : List Rc) (G : List Bool) (hS : DSt X A n c R G) (ow m : Int) (hf : fits13 R G room m = false) (d2 : Int) (hd2 : drops13 drops m = d2) (hd : 0 ≤ drops ∧ drops ≤ 100000) (hO : Own w0 w ((gw, .cells #[.int .i64 room, .int .i64 drops, .slice A n c] 72 (0, 0)) :: (X ++ L))) : Calls Try.prog 52 #[.pointer (some ⟨gw, 0, none⟩), .int .i64 ow, .int .i64 m] w fun e w' => e = .returned (.int .i64 (-1)) ∧ Own w0 w' ((gw, .cells #[.int .i64 room, .int .i64 d2, .slice A n c] 72 (0, 0)) :: (X ++ L)) := by
  have hf2 : ¬ (1 ≤ m ∧ m ≤ 32 ∧ (used (live R G) : Int) + m + 8 ≤ room) := of_decide_eq_false hf
  subst hd2
  unfold drops13
  by_cases h : 1 ≤ m ∧ m ≤ 32
  · obtain ⟨k, rfl⟩ : ∃ k : Nat, m = (k : Int) := ⟨m.toNat, by omega⟩
    rw [if_pos h]
    exact dres_full w0 w L X gw room drops A n c R G hS ow k (by omega) _ rfl hd (fun hc => hf2 ⟨h.1, h.2, hc⟩) hO
  · rw [if_neg h]
    exact dres_bad w0 w L X gw room drops A n c R G hS ow m h hO
def more13 (R : List Rc) (ow m : Int) : List Rc := R ++ [⟨(R.length : Int), ow, 0, List.replicate m.toNat 0⟩]
theorem pres_ok (w0 w : World) (L X : Hl) (gr : Nat) (room drops nxt : Int) (A : Option Addr) (n c : Nat) (R : List Rc) (G : List Bool) (hS : RSt X A n c (live R G)) (hid : ∀ (i : Nat) r, R[i]? = some r → r.id = (i : Int)) (hb1 : ∀ r ∈ R, 1 ≤ r.b.length) (ow m : Int) (hf : fits13 R G room m = true) (hgl : G.length = R.length) (nw : Nat) (hnw : R.length = nw) (hnx : nxt = (nw : Int)) (h80 : nw < 80) (x1 : Int) (hx1 : x1 = ((nw + 1 : Nat) : Int)) (R2 : List Rc) (hR2 : more13 R ow m = R2) (hrm : room ≤ 256) (hO : Own w0 w ((gr, .cells #[.int .i64 room, .int .i64 drops, .int .i64 nxt, .slice A n c] 133 (0, 0)) :: (X ++ L))) : Calls Try.prog 26 #[.pointer (some ⟨gr, 0, none⟩), .int .i64 ow, .int .i64 m] w fun e w' => e = .returned (.tuple #[.int .i64 (nw : Int), .bool true]) ∧ ∃ X2 A2 n2 c2, RSt X2 A2 n2 c2 (live R2 (G ++ [false])) ∧ Own w0 w' ((gr, .cells #[.int .i64 room, .int .i64 drops, .int .i64 x1, .slice A2 n2 c2] 133 (0, 0)) :: (X2 ++ L)) := by
  have hf2 : 1 ≤ m ∧ m ≤ 32 ∧ (used (live R G) : Int) + m + 8 ≤ room := of_decide_eq_true hf
  obtain ⟨k, rfl⟩ : ∃ k : Nat, m = (k : Int) := ⟨m.toNat, by omega⟩
  subst hnx
  subst hx1
  subst hR2
  refine (reserve_ok w0 w L X gr room drops (nw : Int) A n c (live R G) hS ow k (by omega) ((nw + 1 : Nat) : Int) (by omega) (by omega) hf2.2.2 hrm hO).mono fun e w' h => ?_
  obtain ⟨h1, X2, A2, c2, h2, h3⟩ := h
  refine ⟨h1, X2, A2, n + 1, c2, ?_, h3⟩
  unfold more13
  rw [live_snoc _ _ _ _ hgl, if_neg (by decide), hnw, Int.toNat_natCast]
  exact h2
theorem dres_ok2 (w0 w : World) (L X : Hl) (gw : Nat) (room drops : Int) (A : Option Addr) (n c : Nat) (R : List Rc) (G : List Bool) (hS : DSt X A n c R G) (ow m : Int) (hf : fits13 R G room m = true) (h80 : n < 80) (R2 : List Rc) (hR2 : more13 R ow m = R2) (hO : Own w0 w ((gw, .cells #[.int .i64 room, .int .i64 drops, .slice A n c] 72 (0, 0)) :: (X ++ L))) : Calls Try.prog 52 #[.pointer (some ⟨gw, 0, none⟩), .int .i64 ow, .int .i64 m] w fun e w' => e = .returned (.int .i64 (n : Int)) ∧ ∃ X2 A2 n2 c2, n2 = n + 1 ∧ DSt X2 A2 n2 c2 R2 (G ++ [false]) ∧ Own w0 w' ((gw, .cells #[.int .i64 room, .int .i64 drops, .slice A2 n2 c2] 72 (0, 0)) :: (X2 ++ L)) := by
  have hf2 : 1 ≤ m ∧ m ≤ 32 ∧ (used (live R G) : Int) + m + 8 ≤ room := of_decide_eq_true hf
  obtain ⟨k, rfl⟩ : ∃ k : Nat, m = (k : Int) := ⟨m.toNat, by omega⟩
  subst hR2
  refine (dres_ok w0 w L X gw room drops A n c R G hS ow k (by omega) h80 hf2.2.2 hO).mono fun e w' h => ?_
  obtain ⟨h1, X2, A2, n2, c2, R2, G2, rfl, rfl, rfl, h2, h3⟩ := h
  refine ⟨h1, X2, A2, n + 1, c2, rfl, ?_, h3⟩
  unfold more13
  rw [hS.len, Int.toNat_natCast]
  exact h2
theorem more_facts {R : List Rc} {G : List Bool} {ow m room : Int} (hf : fits13 R G room m = true) (hgl : G.length = R.length) (hb1 : ∀ r ∈ R, 1 ≤ r.b.length) : (∀ r ∈ more13 R ow m, 1 ≤ r.b.length) ∧ (used (live (more13 R ow m) (G ++ [false])) : Int) ≤ room := by
  have hf2 : 1 ≤ m ∧ m ≤ 32 ∧ (used (live R G) : Int) + m + 8 ≤ room := of_decide_eq_true hf
  unfold more13
  refine ⟨fun q hq => ?_, ?_⟩
  · rcases List.mem_append.1 hq with hq | hq
    · exact hb1 q hq
    · rw [List.mem_singleton.1 hq]
      simp only [List.length_replicate]
      omega
  · rw [live_snoc _ _ _ _ hgl, if_neg (by decide), used_app]
    simp only [used, List.length_replicate]
    omega
theorem used_calls2 (w0 w : World) (L X : Hl) (gr : Nat) (room drops nxt : Int) (A : Option Addr) (n c : Nat) (R : List Rc) (hS : RSt X A n c R) (U : Nat) (hU : used R = U) (hO : Own w0 w ((gr, .cells #[.int .i64 room, .int .i64 drops, .int .i64 nxt, .slice A n c] 133 (0, 0)) :: (X ++ L))) : Calls Try.prog 32 #[.pointer (some ⟨gr, 0, none⟩)] w fun e w' => e = .returned (.int .i64 (U : Int)) ∧ Own w0 w' ((gr, .cells #[.int .i64 room, .int .i64 drops, .int .i64 nxt, .slice A n c] 133 (0, 0)) :: (X ++ L)) := by
  subst hU
  exact used_calls w0 w L X gr room drops nxt A n c R hS hO
theorem drain13 (w0 w : World) (L X : Hl) (gr : Nat) (room drops nxt : Int) (A : Option Addr) (n c : Nat) (R : List Rc) (G : List Bool) (hS : RSt X A n c (live R G)) (hid : ∀ (i : Nat) r, R[i]? = some r → r.id = (i : Int)) (hb1 : ∀ r ∈ R, 1 ≤ r.b.length) (Rl : List Rc) (hRl : (live R G).take (gone (live R G)) = Rl) (G2 : List Bool) (hG2 : marks G (dgone R G) = G2) (hO : Own w0 w ((gr, .cells #[.int .i64 room, .int .i64 drops, .int .i64 nxt, .slice A n c] 133 (0, 0)) :: (X ++ L))) : Calls Try.prog 29 #[.pointer (some ⟨gr, 0, none⟩)] w fun e w' => ∃ Av k cv, e = .returned (.slice Av k cv) ∧ ∃ AR X' A' n' c' T1 V1, RowOf 51 2 AR (.slice Av k cv) k (tolds Rl V1) ∧ k = ntold Rl ∧ VRows T1 V1 Rl ∧ RSt X' A' n' c' (live R G2) ∧ Own w0 w' ((gr, .cells #[.int .i64 room, .int .i64 drops, .int .i64 nxt, .slice A' (n') c'] 133 (0, 0)) :: (X' ++ (AR ++ (T1 ++ L)))) := by
  subst hRl
  subst hG2
  refine (drain_calls2 w0 w L X gr room drops nxt A n c (live R G) hS _ rfl hO).mono fun e w' h => ?_
  obtain ⟨Av, k, cv, rfl, AR, X', A', n', c', R', T1, V1, h1, h2, h3, rfl, h4, h5⟩ := h
  exact ⟨Av, k, cv, rfl, AR, X', A', n', c', T1, V1, h1, h2, h3.vrows, by rw [live_marks]; exact h4, h5⟩
theorem ddrain13 (w0 w : World) (L X : Hl) (gw : Nat) (room drops : Int) (A : Option Addr) (n c : Nat) (R : List Rc) (G : List Bool) (hS : DSt X A n c R G) (Rl : List Rc) (hRl : (live R G).take (gone (live R G)) = Rl) (G2 : List Bool) (hG2 : marks G (dgone R G) = G2) (hO : Own w0 w ((gw, .cells #[.int .i64 room, .int .i64 drops, .slice A n c] 72 (0, 0)) :: (X ++ L))) : Calls Try.prog 50 #[.pointer (some ⟨gw, 0, none⟩)] w fun e w' => ∃ Av k cv, e = .returned (.slice Av k cv) ∧ ∃ AR X' Vl, RowOf 51 2 AR (.slice Av k cv) k (tolds Rl Vl) ∧ k = ntold Rl ∧ VRows X' Vl Rl ∧ DSt X' A n c R G2 ∧ Own w0 w' ((gw, .cells #[.int .i64 room, .int .i64 drops, .slice A n c] 72 (0, 0)) :: (X' ++ (AR ++ L))) := by
  subst hRl
  subst hG2
  refine (ddrain_calls w0 w L X gw room drops A n c R G hS hO).mono fun e w' h => ?_
  obtain ⟨v', rfl, AR, X', G', Rl, Vl, rfl, h1, rfl, h2, h3, h4⟩ := h
  obtain ⟨Av, cv, rfl⟩ := RowOf.shape h2
  exact ⟨Av, _, cv, rfl, AR, X', Vl, h2, rfl, h3, h1, h4⟩
end Go.Proofs.Rg
