/- Functions of the program that some laws reach, as Lean functions, and proofs that the program's calls come to what they say: written by a program, for the texts that import it; each theorem bears its own conditions. -/
import Derived.Test.YteckjmejngieeaaPTnumTwox0
import Derived.Test.YteckjmejngieeaaPTnumTwox2
import Derived.Test.YteckjmejngieeaaPTnumTwox3
namespace Go.Proofs.Yteckjmejngieeaa.PTnumTwo
open Go.RowKit Go.Proofs.YteckjmejngieeaaW.PrintWords Go.Proofs.YteckjmejngieeaaW.PrintLast Go.Proofs.YteckjmejngieeaaW.PrintMore
attribute [local go_sem] max2_int min2_int max_two min_two max_three min_three max_four min_four   -- for this text's walks alone
set_option linter.unusedVariables false
set_option linter.unusedSimpArgs false

/-! ### halberdref06_Two: function 41 -/
open Go.Proofs.Hp Go.Proofs.Ev
def two_p (j : Nat) : Bool := decide (4 ≤ j)
def two_q (j : Nat) : Bool := decide (2 ≤ j % 4)
def two_r (j : Nat) : Bool := decide (1 ≤ j % 2)
/-- The carry of a digit, and whether it is odd. -/
def two_c (kind : Int) (p q c : Bool) : Bool := if kind = 0 then ((p && q) || (p && c)) || (q && c) else if kind = 1 then ((!p && q) || (!p && c)) || (q && c) else false
def two_o (kind : Int) (p q c : Bool) : Bool := if kind = 0 then p ^^ (q ^^ c) else if kind = 1 then p ^^ (q ^^ c) else if kind = 2 then p && q else if kind = 3 then p || q else p ^^ q
def two_step (kind : Int) (x0 x1 y0 y1 c0 c1 : Bool) (j : Nat) (s : Bool × Bool × Bool × Bool) : Bool × Bool × Bool × Bool :=
  if (bif two_p j then x1 else x0) = true ∧ (bif two_q j then y1 else y0) = true ∧ (bif two_r j then c1 else c0) = true then
    (bif two_c kind (two_p j) (two_q j) (two_r j) then s.1 else true, bif two_c kind (two_p j) (two_q j) (two_r j) then true else s.2.1, bif two_o kind (two_p j) (two_q j) (two_r j) then s.2.2.1 else true, bif two_o kind (two_p j) (two_q j) (two_r j) then true else s.2.2.2)
  else s
def two_run (kind : Int) (x0 x1 y0 y1 c0 c1 : Bool) : Nat → Bool × Bool × Bool × Bool → Bool × Bool × Bool × Bool
  | 0, s => s
  | n + 1, s => two_run kind x0 x1 y0 y1 c0 c1 n (two_step kind x0 x1 y0 y1 c0 c1 (7 - n) s)
def two_set (b : Bool) (l : List Bool) (i : Int) : List Bool := if b = true then l.set i.toNat true else l
def two_go (k : Nat) (kind a1_0 a1_1 a2_0 a2_1 : Int) : Nat → Int → Bool → Bool → List Bool → List Bool → Option (List Bool × List Bool)
  | 0, _, _, _, zl, ol => some (zl, ol)
  | n + 1, i, c0, c1, zl, ol => (halberdref06_Bit.f k a1_0 a1_1 i).bind fun x => (halberdref06_Bit.f k a2_0 a2_1 i).bind fun y =>
    two_go k kind a1_0 a1_1 a2_0 a2_1 n (i + 1) (two_run kind x.1 x.2 y.1 y.2 c0 c1 8 (false, false, false, false)).1 (two_run kind x.1 x.2 y.1 y.2 c0 c1 8 (false, false, false, false)).2.1
      (two_set (two_run kind x.1 x.2 y.1 y.2 c0 c1 8 (false, false, false, false)).2.2.1 zl i) (two_set (two_run kind x.1 x.2 y.1 y.2 c0 c1 8 (false, false, false, false)).2.2.2 ol i)
theorem two_go.mono (k : Nat) (kind a1_0 a1_1 a2_0 a2_1 : Int) : ∀ n i c0 c1 zl ol, LeO (two_go k kind a1_0 a1_1 a2_0 a2_1 n i c0 c1 zl ol) (two_go (k + 1) kind a1_0 a1_1 a2_0 a2_1 n i c0 c1 zl ol)
  | 0, _, _, _, _, _ => LeO.refl _
  | n + 1, i, c0, c1, zl, ol => by
    unfold two_go
    exact LeO.bind (halberdref06_Bit.mono _ _ _ _) (fun x => LeO.bind (halberdref06_Bit.mono _ _ _ _) (fun y => two_go.mono k kind a1_0 a1_1 a2_0 a2_1 n _ _ _ _ _))
def halberdref06_Two.f (k : Nat) (a0 : Int) (a1_0 : Int) (a1_1 : Int) (a2_0 : Int) (a2_1 : Int) : Option (Int × Int) := (two_go k a0 a1_0 a1_1 a2_0 a2_1 64 0 true false (List.replicate 64 false) (List.replicate 64 false)).bind fun l => halberdref06_Of.f k l.1 l.2
theorem halberdref06_Two.mono : ∀ a0 a1 a2 a3 a4 k, LeO (halberdref06_Two.f k a0 a1 a2 a3 a4) (halberdref06_Two.f (k + 1) a0 a1 a2 a3 a4) := by
  intro a0 a1 a2 a3 a4 k
  unfold halberdref06_Two.f
  exact LeO.bind (two_go.mono _ _ _ _ _ _ _ _ _ _ _ _) (fun l => halberdref06_Of.mono _ _ _)
theorem two_len (b : Bool) (l : List Bool) (i : Int) : (two_set b l i).length = l.length := by
  unfold two_set
  split
  · exact List.length_set
  · rfl
theorem two_cells (b : Bool) (l : List Bool) (i : Int) : ((two_set b l i).map Value.bool).toArray.setIfInBounds i.toNat (.bool true) = ((two_set true l i).map Value.bool).toArray := by
  cases b
  · simp [two_set]
  · simp [two_set]
theorem two_go_len {k : Nat} {kind a1_0 a1_1 a2_0 a2_1 : Int} : ∀ {n i c0 c1 zl ol r}, two_go k kind a1_0 a1_1 a2_0 a2_1 n i c0 c1 zl ol = some r → zl.length = 64 → ol.length = 64 → r.1.length = 64 ∧ r.2.length = 64
  | 0, i, c0, c1, zl, ol, r, h, h1, h2 => by
    simp only [two_go, Option.some.injEq] at h
    subst h
    exact ⟨h1, h2⟩
  | n + 1, i, c0, c1, zl, ol, r, h, h1, h2 => by
    unfold two_go at h
    obtain ⟨x, _, h⟩ := Option.bind_eq_some_iff.mp h
    obtain ⟨y, _, h⟩ := Option.bind_eq_some_iff.mp h
    exact two_go_len h ((two_len _ _ _).trans h1) ((two_len _ _ _).trans h2)
theorem C_bools {e : TypeId} {w : World} {g : Nat} (l : List Bool) (hb : w.heap[g]? = some (.cells (l.map Value.bool).toArray e (0, 0))) (hn : l.length ≤ 9223372036854775807) :
    Kd.C Kd.bool w (some ⟨g, 0, none⟩) l.length l := by
  have h : Kd.R Kd.bool e w 0 (fun _ => True) (.slice (some ⟨g, 0, none⟩) l.length l.length) l := by
    refine Kd.R_of_own (enc := Value.bool) ⟨by simp [encs], .inr ⟨g, l.length, _, rfl, Nat.zero_le _, hb, Nat.le_refl _, hn, by simp, ?_⟩⟩ (fun k hk => trivial)
    show List.take (l.length * 1) (l.map Value.bool) = l.map Value.bool
    exact List.take_of_length_le (by simp)
  exact (Kd.R_reads' h).2.2
section
variable {P : Program} {ops : Array Oper} {o : Oper} {a : Act} {Q : Exit → Act → World → Prop} {Kc : Act → World → Prop} {w0 W : World} {L : Hl}
theorem own_lit_step (HO : Own w0 W L) (hw : Region.wanted o (yielded ops a.tmps) = true) {N : Tmp} (hd : o.dst = some N) {cs : Array Value} {t : TypeId} {n : Nat}
    (hrun : (execOp a.eval o).run P W = .ok (.value (.slice (some ⟨W.heap.size, 0, none⟩) n n)) (W.alloc (.cells cs t (0, 0))))
    (h : ∀ g w1, Own w0 w1 ((g, .cells cs t (0, 0)) :: L) → Kc (a.put (some N) (.slice (some ⟨g, 0, none⟩) n n)) w1) : if Region.wanted o (yielded ops a.tmps) = true then Oper.wp P o a W Kc Q else Kc (a.put (some N) undef) W := by
  rw [← hd] at h ⊢
  exact event_step hw hrun (h _ _ (HO.alloc _))
end
theorem two_in {b : Bool} {l : List Bool} {i : Int} (h : l.length = 64) (h0 : 0 ≤ i) (h1 : i < 64) : i.toNat < (((two_set b l i).map Value.bool).toArray).size := by
  simp only [List.size_toArray, List.length_map, two_len]
  omega
theorem _root_.Go.Proofs.Hp.Own.twoz {w0 W : World} {a b : Nat × Obj} {L : Hl} (h : Own w0 W (a :: b :: L)) : Own w0 W (b :: a :: L) := h.perm (List.Perm.swap _ _ _)
theorem _root_.Go.Proofs.Hp.Own.twoo {w0 W : World} {a b c : Nat × Obj} {L : Hl} (h : Own w0 W (a :: b :: c :: L)) : Own w0 W (b :: c :: a :: L) := h.perm ((List.Perm.swap _ _ _).trans (List.Perm.cons _ (List.Perm.swap _ _ _)))
theorem two_of (k : Nat) {e1 e2 : TypeId} {g7 g8 : Nat} {zl ol : List Bool} {r1 r2 : Int} {W : World} (h1 : W.heap[g7]? = some (.cells (zl.map Value.bool).toArray e1 (0, 0))) (h2 : W.heap[g8]? = some (.cells (ol.map Value.bool).toArray e2 (0, 0))) (hz : zl.length = 64) (ho : ol.length = 64) (h : halberdref06_Of.f k zl ol = some (r1, r2)) :
    Calls Try.prog 63 #[.slice (some ⟨g7, 0, none⟩) 64 64, .slice (some ⟨g8, 0, none⟩) 64 64] W fun e w' => e = .returned (.agg #[.int .u64 r1, .int .u64 r2]) ∧ Below W.heap.size W w' := by
  have hc_ := halberdref06_Of.calls k _ 64 zl _ 64 ol r1 r2 _ (C_bools zl h1 (by omega)) (by omega) (C_bools ol h2 (by omega)) (by omega) h
  rw [hz, ho] at hc_
  exact hc_
/-- The one of two that a number names. -/
def two_x (p : Int) (x0 x1 : Bool) : Bool := bif decide (1 ≤ p) then x1 else x0
theorem two_at {x0 x1 t : Bool} {p : Int} (h : two_x p x0 x1 = t) (h0 : 0 ≤ p) (h1 : p < 2) : (#[Value.bool x0, Value.bool x1])[p.toNat]? = some (.bool t) := by
  subst h
  rcases (show p = 0 ∨ p = 1 by omega) with rfl | rfl <;> rfl
def two_new (kind : Int) (p q c : Bool) (s : Bool × Bool × Bool × Bool) : Bool × Bool × Bool × Bool :=
  (bif two_c kind p q c then s.1 else true, bif two_c kind p q c then true else s.2.1, bif two_o kind p q c then s.2.2.1 else true, bif two_o kind p q c then true else s.2.2.2)
theorem two_skip {kind : Int} {x0 x1 y0 y1 c0 c1 : Bool} {p q c : Int} {n m l : Nat} {s fin : Bool × Bool × Bool × Bool} (hi : (p + ((n + 1 : Nat) : Int) = 2 ∧ 0 ≤ p) ∧ (q + ((m + 1 : Nat) : Int) = 2 ∧ 0 ≤ q) ∧ (c + ((l + 1 : Nat) : Int) = 2 ∧ 0 ≤ c))
    (h : ¬ (two_x p x0 x1 = true ∧ two_x q y0 y1 = true ∧ two_x c c0 c1 = true)) (H : two_run kind x0 x1 y0 y1 c0 c1 (4 * n + 2 * m + (l + 1)) s = fin) : two_run kind x0 x1 y0 y1 c0 c1 (4 * n + 2 * m + l) s = fin := by
  have hp : (p = 0 ∧ n = 1) ∨ (p = 1 ∧ n = 0) := by omega
  have hq : (q = 0 ∧ m = 1) ∨ (q = 1 ∧ m = 0) := by omega
  have hc : (c = 0 ∧ l = 1) ∨ (c = 1 ∧ l = 0) := by omega
  rcases hp with ⟨rfl, rfl⟩ | ⟨rfl, rfl⟩ <;> rcases hq with ⟨rfl, rfl⟩ | ⟨rfl, rfl⟩ <;> rcases hc with ⟨rfl, rfl⟩ | ⟨rfl, rfl⟩ <;> exact (congrArg _ (if_neg h)).symm.trans H
theorem two_take {kind : Int} {x0 x1 y0 y1 c0 c1 : Bool} {p q c : Int} {n m l : Nat} {s fin : Bool × Bool × Bool × Bool} (hi : (p + ((n + 1 : Nat) : Int) = 2 ∧ 0 ≤ p) ∧ (q + ((m + 1 : Nat) : Int) = 2 ∧ 0 ≤ q) ∧ (c + ((l + 1 : Nat) : Int) = 2 ∧ 0 ≤ c))
    (h : two_x p x0 x1 = true ∧ two_x q y0 y1 = true ∧ two_x c c0 c1 = true) (H : two_run kind x0 x1 y0 y1 c0 c1 (4 * n + 2 * m + (l + 1)) s = fin) : two_run kind x0 x1 y0 y1 c0 c1 (4 * n + 2 * m + l) (two_new kind (decide (1 ≤ p)) (decide (1 ≤ q)) (decide (1 ≤ c)) s) = fin := by
  have hp : (p = 0 ∧ n = 1) ∨ (p = 1 ∧ n = 0) := by omega
  have hq : (q = 0 ∧ m = 1) ∨ (q = 1 ∧ m = 0) := by omega
  have hc : (c = 0 ∧ l = 1) ∨ (c = 1 ∧ l = 0) := by omega
  rcases hp with ⟨rfl, rfl⟩ | ⟨rfl, rfl⟩ <;> rcases hq with ⟨rfl, rfl⟩ | ⟨rfl, rfl⟩ <;> rcases hc with ⟨rfl, rfl⟩ | ⟨rfl, rfl⟩ <;> exact (congrArg _ (if_pos h)).symm.trans H
theorem two_w (i : Int) (h0 : 0 ≤ i) (h1 : i < 64) : wrap64 (i + 1) = i + 1 := by unfold wrap64; omega
set_option maxHeartbeats 8000000 in
set_option maxRecDepth 100000 in
theorem halberdref06_Two.calls (k : Nat) (a0 : Int) (a1_0 : Int) (a1_1 : Int) (a2_0 : Int) (a2_1 : Int) (r1 : Int) (r2 : Int) (w : World) (h : halberdref06_Two.f k a0 a1_0 a1_1 a2_0 a2_1 = some (r1, r2)) :
    Calls Try.prog 41 #[.int .i64 a0, .agg #[.int .u64 a1_0, .int .u64 a1_1], .agg #[.int .u64 a2_0, .int .u64 a2_1]] w fun e w' => e = .returned (.agg #[.int .u64 r1, .int .u64 r2]) ∧ Below w.heap.size w w' := by
  have hu := Try.underlying43
  have hu2 := Try.underlying102
  have hu3 := Try.underlying4
  have HO := Aside0.mk (Own.refl w)
  unfold halberdref06_Two.f at h
  obtain ⟨⟨zr, orr⟩, h0, h1⟩ := Option.bind_eq_some_iff.mp h
  clear h
  obtain ⟨hlz, hlo⟩ := two_go_len h0 (by simp) (by simp)
  have HG := Aside0.mk h0
  have HOf := Aside0.mk h1
  have HLZ := Aside0.mk hlz
  have HLO := Aside0.mk hlo
  have HK : Aside0 ((a0 == 0) = true ∨ ((a0 == 0) = false ∧ (a0 == 1) = true) ∨ ((a0 == 0) = false ∧ (a0 == 1) = false ∧ (a0 == 2) = true) ∨ ((a0 == 0) = false ∧ (a0 == 1) = false ∧ (a0 == 2) = false ∧ (a0 == 3) = true) ∨ ((a0 == 0) = false ∧ (a0 == 1) = false ∧ (a0 == 2) = false ∧ (a0 == 3) = false)) := ⟨by
    cases (a0 == 0) <;> cases (a0 == 1) <;> cases (a0 == 2) <;> cases (a0 == 3) <;> simp⟩
  clear h0 h1 hlz hlo
  go_enter Try.func41, Try.ntmps41
  try go_wp2_with (first | ((with_reducible refine gate_dst (N := 4) rfl ?_); refine own_box HO.out ?hg (N := 4) ?hd (cs := #[.int .u64 a1_0, .int .u64 a1_1]) (t := 43) ?hr ?_; (case hd => rfl); (case hg => rfl); (case hr => first | (go_simp; done) | (go_simp; rfl) | kernel_rfl); intro g4 w4 hO_; clear HO; have HO := Aside0.mk hO_; clear hO_) | ((with_reducible refine gate_dst (N := 5) rfl ?_); refine own_box HO.out ?hg (N := 5) ?hd (cs := #[.int .u64 a2_0, .int .u64 a2_1]) (t := 43) ?hr ?_; (case hd => rfl); (case hg => rfl); (case hr => first | (go_simp; done) | (go_simp; rfl) | kernel_rfl); intro g5 w5 hO_; clear HO; have HO := Aside0.mk hO_; clear hO_) | ((with_reducible refine gate_dst (N := 6) rfl ?_); refine own_box HO.out ?hg (N := 6) ?hd (cs := #[.int .u64 0, .int .u64 0]) (t := 43) ?hr ?_; (case hd => rfl); (case hg => rfl); (case hr => first | (go_simp; done) | (go_simp; rfl) | kernel_rfl); intro g6 w6 hO_; clear HO; have HO := Aside0.mk hO_; clear hO_))
  have n0_ := Aside0.mk HO.out.drew
  clear HO
  have HO := n0_
  clear n0_
  refine start_ (n := 4) (S := fun w' => True) (ds := []) #[false, false, false, false] (by kernel_rfl) rfl rfl trivial (fun hHeld => ?_)
  generalize World.drew _ = wr at HO hHeld ⊢
  refine join_ (σ := Nat × Nat) 1 #[true, true, true, false] (fun s_ => [(18, .slice (some ⟨s_.1, 0, none⟩) 64 64), (19, .slice (some ⟨s_.2, 0, none⟩) 64 64), (7, .slice (some ⟨s_.1, 0, none⟩) 64 64)]) (fun s_ w' => Own w w' [(s_.1, .cells ((List.replicate 64 false).map Value.bool).toArray 4 (0, 0)), (s_.2, .cells ((List.replicate 64 false).map Value.bool).toArray 4 (0, 0)), (g6, .cells #[.int .u64 0, .int .u64 0] 43 (0, 0)), (g5, .cells #[.int .u64 a2_0, .int .u64 a2_1] 43 (0, 0)), (g4, .cells #[.int .u64 a1_0, .int .u64 a1_1] 43 (0, 0))]) ?_ ?_
  rotate_left
  · intro hCont
    refine two_ (i := 0) (j := 1) (Ni := some 18) (Nj := some 19) #[true, false, false, false] #[false, true, false, false] rfl rfl rfl rfl (by kernel_rfl) (by decide) (by decide) (fun K hK => ?_) (fun K hK => ?_)
    · skip
      (
        refine own_lit_step HO.out rfl (N := 18) rfl (cs := ((List.replicate 64 false).map Value.bool).toArray) (t := 4) (n := 64) (by kernel_rfl) ?_
        intro g7 w18 hO_
        clear HO; have HO := Aside0.mk hO_; clear hO_
        refine hK.out _ _ trivial (fun hHeld => ?_)
        clear hK K
        refine norm_ (a' := ?_) ?_ ?_
        rotate_left
        · show Act.put _ (some 18) _ = _
          simp only [Act.put, List.setIfInBounds_toArray, List.set_cons_zero, List.set_cons_succ]
          rfl
        refine pure_ (i := 2) (N := some 7) (v := ?_) (a' := ?_) #[true, false, true, false] rfl rfl (by kernel_rfl) (fun _ _ _ h => h) (Or.inl ⟨by rfl, ?_⟩) ?_ ?_
        rotate_left
        · intro w'
          go_simp
          with_reducible rfl
        rotate_left
        · simp only [Act.put, List.setIfInBounds_toArray, List.set_cons_zero, List.set_cons_succ]
          rfl
        refine one_ (i := 1) (N := some 19) #[true, true, true, false] rfl rfl (by kernel_rfl) (by decide) (fun K hK => ?_)
        refine own_lit_step HO.out rfl (N := 19) rfl (cs := ((List.replicate 64 false).map Value.bool).toArray) (t := 4) (n := 64) (by kernel_rfl) ?_
        intro g8 w19 hO_
        clear HO; have HO := Aside0.mk hO_; clear hO_
        refine hK.out _ _ trivial (fun hHeld => ?_)
        clear hK K
        refine norm_ (a' := ?_) ?_ ?_
        rotate_left
        · show Act.put _ (some 19) _ = _
          simp only [Act.put, List.setIfInBounds_toArray, List.set_cons_zero, List.set_cons_succ]
          rfl
        exact norm_ (by simp only [putAll, Act.put, List.setIfInBounds_toArray, List.set_cons_zero, List.set_cons_succ]) (hCont (g7, g8) _ (HO.out.picks (.cons (by (first | exact .head | exact .tail (.head) | exact .tail (.tail (.head)) | exact .tail (.tail (.tail (.head))) | exact .tail (.tail (.tail (.tail (.head)))) | exact .tail (.tail (.tail (.tail (.tail (.head))))) | exact .tail (.tail (.tail (.tail (.tail (.tail (.head)))))) | exact .tail (.tail (.tail (.tail (.tail (.tail (.tail (.head))))))) | exact .tail (.tail (.tail (.tail (.tail (.tail (.tail (.tail (.head)))))))))) (.cons (by (first | exact .head | exact .tail (.head) | exact .tail (.tail (.head)) | exact .tail (.tail (.tail (.head))) | exact .tail (.tail (.tail (.tail (.head)))) | exact .tail (.tail (.tail (.tail (.tail (.head))))) | exact .tail (.tail (.tail (.tail (.tail (.tail (.head)))))) | exact .tail (.tail (.tail (.tail (.tail (.tail (.tail (.head))))))) | exact .tail (.tail (.tail (.tail (.tail (.tail (.tail (.tail (.head)))))))))) (.cons (by (first | exact .head | exact .tail (.head) | exact .tail (.tail (.head)) | exact .tail (.tail (.tail (.head))) | exact .tail (.tail (.tail (.tail (.head)))) | exact .tail (.tail (.tail (.tail (.tail (.head))))) | exact .tail (.tail (.tail (.tail (.tail (.tail (.head)))))) | exact .tail (.tail (.tail (.tail (.tail (.tail (.tail (.head))))))) | exact .tail (.tail (.tail (.tail (.tail (.tail (.tail (.tail (.head)))))))))) (.cons (by (first | exact .head | exact .tail (.head) | exact .tail (.tail (.head)) | exact .tail (.tail (.tail (.head))) | exact .tail (.tail (.tail (.tail (.head)))) | exact .tail (.tail (.tail (.tail (.tail (.head))))) | exact .tail (.tail (.tail (.tail (.tail (.tail (.head)))))) | exact .tail (.tail (.tail (.tail (.tail (.tail (.tail (.head))))))) | exact .tail (.tail (.tail (.tail (.tail (.tail (.tail (.tail (.head)))))))))) (.cons (by (first | exact .head | exact .tail (.head) | exact .tail (.tail (.head)) | exact .tail (.tail (.tail (.head))) | exact .tail (.tail (.tail (.tail (.head)))) | exact .tail (.tail (.tail (.tail (.tail (.head))))) | exact .tail (.tail (.tail (.tail (.tail (.tail (.head)))))) | exact .tail (.tail (.tail (.tail (.tail (.tail (.tail (.head))))))) | exact .tail (.tail (.tail (.tail (.tail (.tail (.tail (.tail (.head)))))))))) (.nil)))))))))
    · skip
      (
        refine own_lit_step HO.out rfl (N := 19) rfl (cs := ((List.replicate 64 false).map Value.bool).toArray) (t := 4) (n := 64) (by kernel_rfl) ?_
        intro g8 w19 hO_
        clear HO; have HO := Aside0.mk hO_; clear hO_
        refine hK.out _ _ trivial (fun hHeld => ?_)
        clear hK K
        refine norm_ (a' := ?_) ?_ ?_
        rotate_left
        · show Act.put _ (some 19) _ = _
          simp only [Act.put, List.setIfInBounds_toArray, List.set_cons_zero, List.set_cons_succ]
          rfl
        refine one_ (i := 0) (N := some 18) #[true, true, false, false] rfl rfl (by kernel_rfl) (by decide) (fun K hK => ?_)
        refine own_lit_step HO.out rfl (N := 18) rfl (cs := ((List.replicate 64 false).map Value.bool).toArray) (t := 4) (n := 64) (by kernel_rfl) ?_
        intro g7 w18 hO_
        clear HO; have HO := Aside0.mk hO_; clear hO_
        refine hK.out _ _ trivial (fun hHeld => ?_)
        clear hK K
        refine norm_ (a' := ?_) ?_ ?_
        rotate_left
        · show Act.put _ (some 18) _ = _
          simp only [Act.put, List.setIfInBounds_toArray, List.set_cons_zero, List.set_cons_succ]
          rfl
        refine pure_ (i := 2) (N := some 7) (v := ?_) (a' := ?_) #[true, true, true, false] rfl rfl (by kernel_rfl) (fun _ _ _ h => h) (Or.inl ⟨by rfl, ?_⟩) ?_ ?_
        rotate_left
        · intro w'
          go_simp
          with_reducible rfl
        rotate_left
        · simp only [Act.put, List.setIfInBounds_toArray, List.set_cons_zero, List.set_cons_succ]
          rfl
        exact norm_ (by simp only [putAll, Act.put, List.setIfInBounds_toArray, List.set_cons_zero, List.set_cons_succ]) (hCont (g7, g8) _ (HO.out.picks (.cons (by (first | exact .head | exact .tail (.head) | exact .tail (.tail (.head)) | exact .tail (.tail (.tail (.head))) | exact .tail (.tail (.tail (.tail (.head)))) | exact .tail (.tail (.tail (.tail (.tail (.head))))) | exact .tail (.tail (.tail (.tail (.tail (.tail (.head)))))) | exact .tail (.tail (.tail (.tail (.tail (.tail (.tail (.head))))))) | exact .tail (.tail (.tail (.tail (.tail (.tail (.tail (.tail (.head)))))))))) (.cons (by (first | exact .head | exact .tail (.head) | exact .tail (.tail (.head)) | exact .tail (.tail (.tail (.head))) | exact .tail (.tail (.tail (.tail (.head)))) | exact .tail (.tail (.tail (.tail (.tail (.head))))) | exact .tail (.tail (.tail (.tail (.tail (.tail (.head)))))) | exact .tail (.tail (.tail (.tail (.tail (.tail (.tail (.head))))))) | exact .tail (.tail (.tail (.tail (.tail (.tail (.tail (.tail (.head)))))))))) (.cons (by (first | exact .head | exact .tail (.head) | exact .tail (.tail (.head)) | exact .tail (.tail (.tail (.head))) | exact .tail (.tail (.tail (.tail (.head)))) | exact .tail (.tail (.tail (.tail (.tail (.head))))) | exact .tail (.tail (.tail (.tail (.tail (.tail (.head)))))) | exact .tail (.tail (.tail (.tail (.tail (.tail (.tail (.head))))))) | exact .tail (.tail (.tail (.tail (.tail (.tail (.tail (.tail (.head)))))))))) (.cons (by (first | exact .head | exact .tail (.head) | exact .tail (.tail (.head)) | exact .tail (.tail (.tail (.head))) | exact .tail (.tail (.tail (.tail (.head)))) | exact .tail (.tail (.tail (.tail (.tail (.head))))) | exact .tail (.tail (.tail (.tail (.tail (.tail (.head)))))) | exact .tail (.tail (.tail (.tail (.tail (.tail (.tail (.head))))))) | exact .tail (.tail (.tail (.tail (.tail (.tail (.tail (.tail (.head)))))))))) (.cons (by (first | exact .head | exact .tail (.head) | exact .tail (.tail (.head)) | exact .tail (.tail (.tail (.head))) | exact .tail (.tail (.tail (.tail (.head)))) | exact .tail (.tail (.tail (.tail (.tail (.head))))) | exact .tail (.tail (.tail (.tail (.tail (.tail (.head)))))) | exact .tail (.tail (.tail (.tail (.tail (.tail (.tail (.head))))))) | exact .tail (.tail (.tail (.tail (.tail (.tail (.tail (.tail (.head)))))))))) (.nil)))))))))
  · rintro ⟨g7, g8⟩ w1 hO_
    clear HO
    have HO := Aside0.mk hO_
    clear hO_ hHeld
    refine norm_ (a' := ?_) ?_ ?_
    rotate_left
    · simp only [putAll, Act.put, List.setIfInBounds_toArray, List.set_cons_zero, List.set_cons_succ]
      rfl
    refine pure_ (i := 3) (N := some 8) (v := ?_) (a' := ?_) #[true, true, true, true] rfl rfl (by kernel_rfl) (fun _ _ _ h => h) (Or.inl ⟨by rfl, ?_⟩) ?_ ?_
    rotate_left
    · intro w'
      go_simp
      with_reducible rfl
    rotate_left
    · simp only [Act.put, List.setIfInBounds_toArray, List.set_cons_zero, List.set_cons_succ]
      rfl
    refine done_ (by kernel_rfl) ?_
    go_wp2_with (first | ((with_reducible refine gate_dst (N := 9) rfl ?_); refine own_box HO.out ?hg (N := 9) ?hd (cs := #[.bool false, .bool false]) (t := 102) ?hr ?_; (case hd => rfl); (case hg => rfl); (case hr => first | (go_simp; done) | (go_simp; rfl) | kernel_rfl); intro g9 w9 hO_; clear HO; have HO := Aside0.mk hO_; clear hO_) | ((with_reducible refine gate_store (p := 20) rfl ?_); refine own_store HO.out rfl (ty := 4) (x := .tmp 20) (y := .const (.bool true)) (v := .bool true) (cs' := #[.bool true, .bool false]) rfl (by rfl) (by rfl) (by (first | exact .head | exact .tail (.head) | exact .tail (.tail (.head)) | exact .tail (.tail (.tail (.head))) | exact .tail (.tail (.tail (.tail (.head)))) | exact .tail (.tail (.tail (.tail (.tail (.head))))) | exact .tail (.tail (.tail (.tail (.tail (.tail (.head)))))) | exact .tail (.tail (.tail (.tail (.tail (.tail (.tail (.head))))))) | exact .tail (.tail (.tail (.tail (.tail (.tail (.tail (.tail (.head)))))))))) (by kernel_rfl) (by rfl) (by first | decide | (simp; done)) (by rfl) ?_; intro wc hO_; clear HO; have HO := Aside0.mk hO_; clear hO_))
    go_loopg [10, 11, 12, 13, 14, 15, 16, 17] 64 (fun gk v10 v11 v12 v13 v14 v15 v16 v17 w' => ∃ (i : Int) (c0 c1 : Bool) (zl ol : List Bool), v10 = .int .i64 i ∧ Aside0 (i + gk = 64 ∧ 0 ≤ i) ∧ Aside0 (zl.length = 64 ∧ ol.length = 64) ∧ Aside0 (two_go k a0 a1_0 a1_1 a2_0 a2_1 gk i c0 c1 zl ol = some (zr, orr)) ∧ Aside0 (Own w w' [(g9, .cells #[.bool c0, .bool c1] 102 (0, 0)), (g7, .cells ((zl).map Value.bool).toArray 4 (0, 0)), (g8, .cells ((ol).map Value.bool).toArray 4 (0, 0)), (g6, .cells #[.int .u64 0, .int .u64 0] 43 (0, 0)), (g5, .cells #[.int .u64 a2_0, .int .u64 a2_1] 43 (0, 0)), (g4, .cells #[.int .u64 a1_0, .int .u64 a1_1] 43 (0, 0))]))
    case atStart => exact ⟨0, true, false, List.replicate 64 false, List.replicate 64 false, rfl, ⟨⟨by omega, by omega⟩⟩, ⟨⟨by simp, by simp⟩⟩, HG, ⟨HO.out.picks (.cons (by (first | exact .head | exact .tail (.head) | exact .tail (.tail (.head)) | exact .tail (.tail (.tail (.head))) | exact .tail (.tail (.tail (.tail (.head)))) | exact .tail (.tail (.tail (.tail (.tail (.head))))) | exact .tail (.tail (.tail (.tail (.tail (.tail (.head)))))) | exact .tail (.tail (.tail (.tail (.tail (.tail (.tail (.head))))))) | exact .tail (.tail (.tail (.tail (.tail (.tail (.tail (.tail (.head)))))))))) (.cons (by (first | exact .head | exact .tail (.head) | exact .tail (.tail (.head)) | exact .tail (.tail (.tail (.head))) | exact .tail (.tail (.tail (.tail (.head)))) | exact .tail (.tail (.tail (.tail (.tail (.head))))) | exact .tail (.tail (.tail (.tail (.tail (.tail (.head)))))) | exact .tail (.tail (.tail (.tail (.tail (.tail (.tail (.head))))))) | exact .tail (.tail (.tail (.tail (.tail (.tail (.tail (.tail (.head)))))))))) (.cons (by (first | exact .head | exact .tail (.head) | exact .tail (.tail (.head)) | exact .tail (.tail (.tail (.head))) | exact .tail (.tail (.tail (.tail (.head)))) | exact .tail (.tail (.tail (.tail (.tail (.head))))) | exact .tail (.tail (.tail (.tail (.tail (.tail (.head)))))) | exact .tail (.tail (.tail (.tail (.tail (.tail (.tail (.head))))))) | exact .tail (.tail (.tail (.tail (.tail (.tail (.tail (.tail (.head)))))))))) (.cons (by (first | exact .head | exact .tail (.head) | exact .tail (.tail (.head)) | exact .tail (.tail (.tail (.head))) | exact .tail (.tail (.tail (.tail (.head)))) | exact .tail (.tail (.tail (.tail (.tail (.head))))) | exact .tail (.tail (.tail (.tail (.tail (.tail (.head)))))) | exact .tail (.tail (.tail (.tail (.tail (.tail (.tail (.head))))))) | exact .tail (.tail (.tail (.tail (.tail (.tail (.tail (.tail (.head)))))))))) (.cons (by (first | exact .head | exact .tail (.head) | exact .tail (.tail (.head)) | exact .tail (.tail (.tail (.head))) | exact .tail (.tail (.tail (.tail (.head)))) | exact .tail (.tail (.tail (.tail (.tail (.head))))) | exact .tail (.tail (.tail (.tail (.tail (.tail (.head)))))) | exact .tail (.tail (.tail (.tail (.tail (.tail (.tail (.head))))))) | exact .tail (.tail (.tail (.tail (.tail (.tail (.tail (.tail (.head)))))))))) (.cons (by (first | exact .head | exact .tail (.head) | exact .tail (.tail (.head)) | exact .tail (.tail (.tail (.head))) | exact .tail (.tail (.tail (.tail (.head)))) | exact .tail (.tail (.tail (.tail (.tail (.head))))) | exact .tail (.tail (.tail (.tail (.tail (.tail (.head)))))) | exact .tail (.tail (.tail (.tail (.tail (.tail (.tail (.head))))))) | exact .tail (.tail (.tail (.tail (.tail (.tail (.tail (.tail (.head)))))))))) (.nil)))))))⟩⟩
    case round =>
      clear HG HO
      obtain ⟨i, c0, c1, zl, ol, rfl, HI, HLs, HG, HO⟩ := hrel
      cases gk with
      | zero =>
        have H := HG.out
        simp only [two_go, Option.some.injEq, Prod.mk.injEq] at H
        have HOz : Aside0 (halberdref06_Of.f k zl ol = some (r1, r2)) := ⟨by rw [H.1, H.2]; exact HOf.out⟩
        clear H HOf
        have d0 : decide (i < 64) = false := decide_eq_false (by have := HI.out; omega)
        go_wp2_with (first | ((with_reducible refine gate_callee (f := 63) rfl ?_); (with_reducible refine gate_dst (N := 125) rfl ?_); refine goesL_ (some 125) rfl rfl Try.func63 (by kernel_rfl) rfl #[.slice (some ⟨g7, 0, none⟩) 64 64, .slice (some ⟨g8, 0, none⟩) 64 64] rfl (by (try simp only [List.map_toArray, List.map_cons, List.map_nil]); first | done | rfl) ?_; (with_reducible refine (two_of k (HO.out.get (by (first | exact .head | exact .tail (.head) | exact .tail (.tail (.head)) | exact .tail (.tail (.tail (.head))) | exact .tail (.tail (.tail (.tail (.head)))) | exact .tail (.tail (.tail (.tail (.tail (.head))))) | exact .tail (.tail (.tail (.tail (.tail (.tail (.head)))))) | exact .tail (.tail (.tail (.tail (.tail (.tail (.tail (.head))))))) | exact .tail (.tail (.tail (.tail (.tail (.tail (.tail (.tail (.head))))))))))) (HO.out.get (by (first | exact .head | exact .tail (.head) | exact .tail (.tail (.head)) | exact .tail (.tail (.tail (.head))) | exact .tail (.tail (.tail (.tail (.head)))) | exact .tail (.tail (.tail (.tail (.tail (.head))))) | exact .tail (.tail (.tail (.tail (.tail (.tail (.head)))))) | exact .tail (.tail (.tail (.tail (.tail (.tail (.tail (.head))))))) | exact .tail (.tail (.tail (.tail (.tail (.tail (.tail (.tail (.head))))))))))) HLs.out.1 HLs.out.2 HOz.out).mono ?_); rintro e wx ⟨rfl, hb⟩; refine ⟨_, rfl, ?_⟩; have hO_ := HO.out.below hb; clear hb; clear HO; have HO := Aside0.mk hO_; clear hO_) | ((with_reducible refine gate_store (p := 6) rfl ?_); refine own_wstore HO.out rfl (ty := 43) (x := .tmp 6) (y := .tmp 125) (cs := #[.int .u64 r1, .int .u64 r2]) rfl (by rfl) (by rfl) (by (first | exact .head | exact .tail (.head) | exact .tail (.tail (.head)) | exact .tail (.tail (.tail (.head))) | exact .tail (.tail (.tail (.tail (.head)))) | exact .tail (.tail (.tail (.tail (.tail (.head))))) | exact .tail (.tail (.tail (.tail (.tail (.tail (.head)))))) | exact .tail (.tail (.tail (.tail (.tail (.tail (.tail (.head))))))) | exact .tail (.tail (.tail (.tail (.tail (.tail (.tail (.tail (.head)))))))))) (by kernel_rfl) (by rfl) (by kernel_rfl) ?_; intro wc hO_; clear HO; have HO := Aside0.mk hO_; clear hO_))
        refine bodyPost_ret (results_cell_row rfl _ _ g6 43 #[.int .u64 r1, .int .u64 r2] (0, 0) _ rfl (HO.out.get (by (first | exact .head | exact .tail (.head) | exact .tail (.tail (.head)) | exact .tail (.tail (.tail (.head))) | exact .tail (.tail (.tail (.tail (.head)))) | exact .tail (.tail (.tail (.tail (.tail (.head))))) | exact .tail (.tail (.tail (.tail (.tail (.tail (.head)))))) | exact .tail (.tail (.tail (.tail (.tail (.tail (.tail (.head))))))) | exact .tail (.tail (.tail (.tail (.tail (.tail (.tail (.tail (.head))))))))))) Try.underlying43 rfl (by kernel_rfl)) rfl ?_
        exact ⟨rfl, HO.out.bel⟩
      | succ gi =>
        have H := HG.out
        unfold two_go at H
        obtain ⟨⟨x0, x1⟩, hx, H⟩ := Option.bind_eq_some_iff.mp H
        obtain ⟨⟨y0, y1⟩, hy, H⟩ := Option.bind_eq_some_iff.mp H
        generalize hfin : two_run a0 x0 x1 y0 y1 c0 c1 8 (false, false, false, false) = fin at H
        have HX := Aside0.mk hx
        have HY := Aside0.mk hy
        have HF := Aside0.mk hfin
        have HN := Aside0.mk H
        clear HG hx hy hfin H
        have p1 : (0 ≤ i) = True := eq_true (by have := HI.out; omega)
        have HI2 : Aside0 (i < 64) := ⟨by have := HI.out; omega⟩
        have q1 : (i < 64) = True := eq_true (by have := HI.out; omega)
        have d0 : decide (i < 64) = true := decide_eq_true (by have := HI.out; omega)
        go_wp2_with (first | ((with_reducible refine gate_dst (N := 11) rfl ?_); refine own_box HO.out ?hg (N := 11) ?hd (cs := #[.bool false, .bool false]) (t := 102) ?hr ?_; (case hd => rfl); (case hg => rfl); (case hr => first | (go_simp; done) | (go_simp; rfl) | kernel_rfl); intro g11 w11 hO_; clear HO; have HO := Aside0.mk hO_; clear hO_) | ((with_reducible refine gate_dst (N := 12) rfl ?_); refine own_box HO.out ?hg (N := 12) ?hd (cs := #[.bool false, .bool false]) (t := 102) ?hr ?_; (case hd => rfl); (case hg => rfl); (case hr => first | (go_simp; done) | (go_simp; rfl) | kernel_rfl); intro g12 w12 hO_; clear HO; have HO := Aside0.mk hO_; clear hO_) | ((with_reducible refine gate_dst (N := 26) rfl ?_); refine own_wload HO.out rfl (x := .tmp 4) rfl (by rfl) (by (first | exact .head | exact .tail (.head) | exact .tail (.tail (.head)) | exact .tail (.tail (.tail (.head))) | exact .tail (.tail (.tail (.tail (.head)))) | exact .tail (.tail (.tail (.tail (.tail (.head))))) | exact .tail (.tail (.tail (.tail (.tail (.tail (.head)))))) | exact .tail (.tail (.tail (.tail (.tail (.tail (.tail (.head))))))) | exact .tail (.tail (.tail (.tail (.tail (.tail (.tail (.tail (.head)))))))))) Try.underlying43 (by rfl) (by kernel_rfl) ?_) | ((with_reducible refine gate_dst (N := 34) rfl ?_); refine own_wload HO.out rfl (x := .tmp 5) rfl (by rfl) (by (first | exact .head | exact .tail (.head) | exact .tail (.tail (.head)) | exact .tail (.tail (.tail (.head))) | exact .tail (.tail (.tail (.tail (.head)))) | exact .tail (.tail (.tail (.tail (.tail (.head))))) | exact .tail (.tail (.tail (.tail (.tail (.tail (.head)))))) | exact .tail (.tail (.tail (.tail (.tail (.tail (.tail (.head))))))) | exact .tail (.tail (.tail (.tail (.tail (.tail (.tail (.tail (.head)))))))))) Try.underlying43 (by rfl) (by kernel_rfl) ?_) | ((with_reducible refine gate_callee (f := 62) rfl ?_); (with_reducible refine gate_dst (N := 28) rfl ?_); refine goesL_ (some 28) rfl rfl Try.func62 (by kernel_rfl) rfl #[.agg #[.int .u64 a1_0, .int .u64 a1_1], .int .i64 i] rfl (by (try simp only [List.map_toArray, List.map_cons, List.map_nil]); first | done | rfl) ?_; (with_reducible refine (halberdref06_Bit.calls k a1_0 a1_1 i x0 x1 _ HX.out).mono ?_); rintro e wx ⟨rfl, hb⟩; refine ⟨_, rfl, ?_⟩; have hO_ := HO.out.below hb; clear hb; clear HO; have HO := Aside0.mk hO_; clear hO_) | ((with_reducible refine gate_callee (f := 62) rfl ?_); (with_reducible refine gate_dst (N := 36) rfl ?_); refine goesL_ (some 36) rfl rfl Try.func62 (by kernel_rfl) rfl #[.agg #[.int .u64 a2_0, .int .u64 a2_1], .int .i64 i] rfl (by (try simp only [List.map_toArray, List.map_cons, List.map_nil]); first | done | rfl) ?_; (with_reducible refine (halberdref06_Bit.calls k a2_0 a2_1 i y0 y1 _ HY.out).mono ?_); rintro e wx ⟨rfl, hb⟩; refine ⟨_, rfl, ?_⟩; have hO_ := HO.out.below hb; clear hb; clear HO; have HO := Aside0.mk hO_; clear hO_) | ((with_reducible refine gate_store (p := 31) rfl ?_); refine own_store HO.out rfl (ty := 4) (x := .tmp 31) (y := .tmp 29) (v := .bool x0) (cs' := #[.bool x0, .bool false]) rfl (by rfl) (by rfl) (by (first | exact .head | exact .tail (.head) | exact .tail (.tail (.head)) | exact .tail (.tail (.tail (.head))) | exact .tail (.tail (.tail (.tail (.head)))) | exact .tail (.tail (.tail (.tail (.tail (.head))))) | exact .tail (.tail (.tail (.tail (.tail (.tail (.head)))))) | exact .tail (.tail (.tail (.tail (.tail (.tail (.tail (.head))))))) | exact .tail (.tail (.tail (.tail (.tail (.tail (.tail (.tail (.head)))))))))) (by kernel_rfl) (by rfl) (by first | decide | (simp; done)) (by rfl) ?_; intro wc hO_; clear HO; have HO := Aside0.mk hO_; clear hO_) | ((with_reducible refine gate_store (p := 32) rfl ?_); refine own_store HO.out rfl (ty := 4) (x := .tmp 32) (y := .tmp 30) (v := .bool x1) (cs' := #[.bool x0, .bool x1]) rfl (by rfl) (by rfl) (by (first | exact .head | exact .tail (.head) | exact .tail (.tail (.head)) | exact .tail (.tail (.tail (.head))) | exact .tail (.tail (.tail (.tail (.head)))) | exact .tail (.tail (.tail (.tail (.tail (.head))))) | exact .tail (.tail (.tail (.tail (.tail (.tail (.head)))))) | exact .tail (.tail (.tail (.tail (.tail (.tail (.tail (.head))))))) | exact .tail (.tail (.tail (.tail (.tail (.tail (.tail (.tail (.head)))))))))) (by kernel_rfl) (by rfl) (by first | decide | (simp; done)) (by rfl) ?_; intro wc hO_; clear HO; have HO := Aside0.mk hO_; clear hO_) | ((with_reducible refine gate_store (p := 39) rfl ?_); refine own_store HO.out rfl (ty := 4) (x := .tmp 39) (y := .tmp 37) (v := .bool y0) (cs' := #[.bool y0, .bool false]) rfl (by rfl) (by rfl) (by (first | exact .head | exact .tail (.head) | exact .tail (.tail (.head)) | exact .tail (.tail (.tail (.head))) | exact .tail (.tail (.tail (.tail (.head)))) | exact .tail (.tail (.tail (.tail (.tail (.head))))) | exact .tail (.tail (.tail (.tail (.tail (.tail (.head)))))) | exact .tail (.tail (.tail (.tail (.tail (.tail (.tail (.head))))))) | exact .tail (.tail (.tail (.tail (.tail (.tail (.tail (.tail (.head)))))))))) (by kernel_rfl) (by rfl) (by first | decide | (simp; done)) (by rfl) ?_; intro wc hO_; clear HO; have HO := Aside0.mk hO_; clear hO_) | ((with_reducible refine gate_store (p := 40) rfl ?_); refine own_store HO.out rfl (ty := 4) (x := .tmp 40) (y := .tmp 38) (v := .bool y1) (cs' := #[.bool y0, .bool y1]) rfl (by rfl) (by rfl) (by (first | exact .head | exact .tail (.head) | exact .tail (.tail (.head)) | exact .tail (.tail (.tail (.head))) | exact .tail (.tail (.tail (.tail (.head)))) | exact .tail (.tail (.tail (.tail (.tail (.head))))) | exact .tail (.tail (.tail (.tail (.tail (.tail (.head)))))) | exact .tail (.tail (.tail (.tail (.tail (.tail (.tail (.head))))))) | exact .tail (.tail (.tail (.tail (.tail (.tail (.tail (.tail (.head)))))))))) (by kernel_rfl) (by rfl) (by first | decide | (simp; done)) (by rfl) ?_; intro wc hO_; clear HO; have HO := Aside0.mk hO_; clear hO_) | ((with_reducible refine gate_dst (N := 13) rfl ?_); refine own_box HO.out ?hg (N := 13) ?hd (cs := #[.bool false, .bool false]) (t := 102) ?hr ?_; (case hd => rfl); (case hg => rfl); (case hr => first | (go_simp; done) | (go_simp; rfl) | kernel_rfl); intro g13 w13 hO_; clear HO; have HO := Aside0.mk hO_; clear hO_))
        go_loopg [14, 15, 16, 17] 2 (fun gk v14 v15 v16 v17 w' => ∃ (p : Int) (n0 n1 z o : Bool), v14 = .int .i64 p ∧ Aside0 (p + gk = 2 ∧ 0 ≤ p) ∧ Aside0 (two_run a0 x0 x1 y0 y1 c0 c1 (4 * gk) (n0, n1, z, o) = fin) ∧ Aside0 (Own w w' [(g13, .cells #[.bool n0, .bool n1] 102 (0, 0)), (g7, .cells ((two_set z zl i).map Value.bool).toArray 4 (0, 0)), (g8, .cells ((two_set o ol i).map Value.bool).toArray 4 (0, 0)), (g9, .cells #[.bool c0, .bool c1] 102 (0, 0)), (g12, .cells #[.bool y0, .bool y1] 102 (0, 0)), (g11, .cells #[.bool x0, .bool x1] 102 (0, 0)), (g6, .cells #[.int .u64 0, .int .u64 0] 43 (0, 0)), (g5, .cells #[.int .u64 a2_0, .int .u64 a2_1] 43 (0, 0)), (g4, .cells #[.int .u64 a1_0, .int .u64 a1_1] 43 (0, 0))]))
        case atStart => exact ⟨0, false, false, false, false, rfl, ⟨⟨by omega, by omega⟩⟩, HF, ⟨HO.out.picks (.cons (by (first | exact .head | exact .tail (.head) | exact .tail (.tail (.head)) | exact .tail (.tail (.tail (.head))) | exact .tail (.tail (.tail (.tail (.head)))) | exact .tail (.tail (.tail (.tail (.tail (.head))))) | exact .tail (.tail (.tail (.tail (.tail (.tail (.head)))))) | exact .tail (.tail (.tail (.tail (.tail (.tail (.tail (.head))))))) | exact .tail (.tail (.tail (.tail (.tail (.tail (.tail (.tail (.head)))))))))) (.cons (by (first | exact .head | exact .tail (.head) | exact .tail (.tail (.head)) | exact .tail (.tail (.tail (.head))) | exact .tail (.tail (.tail (.tail (.head)))) | exact .tail (.tail (.tail (.tail (.tail (.head))))) | exact .tail (.tail (.tail (.tail (.tail (.tail (.head)))))) | exact .tail (.tail (.tail (.tail (.tail (.tail (.tail (.head))))))) | exact .tail (.tail (.tail (.tail (.tail (.tail (.tail (.tail (.head)))))))))) (.cons (by (first | exact .head | exact .tail (.head) | exact .tail (.tail (.head)) | exact .tail (.tail (.tail (.head))) | exact .tail (.tail (.tail (.tail (.head)))) | exact .tail (.tail (.tail (.tail (.tail (.head))))) | exact .tail (.tail (.tail (.tail (.tail (.tail (.head)))))) | exact .tail (.tail (.tail (.tail (.tail (.tail (.tail (.head))))))) | exact .tail (.tail (.tail (.tail (.tail (.tail (.tail (.tail (.head)))))))))) (.cons (by (first | exact .head | exact .tail (.head) | exact .tail (.tail (.head)) | exact .tail (.tail (.tail (.head))) | exact .tail (.tail (.tail (.tail (.head)))) | exact .tail (.tail (.tail (.tail (.tail (.head))))) | exact .tail (.tail (.tail (.tail (.tail (.tail (.head)))))) | exact .tail (.tail (.tail (.tail (.tail (.tail (.tail (.head))))))) | exact .tail (.tail (.tail (.tail (.tail (.tail (.tail (.tail (.head)))))))))) (.cons (by (first | exact .head | exact .tail (.head) | exact .tail (.tail (.head)) | exact .tail (.tail (.tail (.head))) | exact .tail (.tail (.tail (.tail (.head)))) | exact .tail (.tail (.tail (.tail (.tail (.head))))) | exact .tail (.tail (.tail (.tail (.tail (.tail (.head)))))) | exact .tail (.tail (.tail (.tail (.tail (.tail (.tail (.head))))))) | exact .tail (.tail (.tail (.tail (.tail (.tail (.tail (.tail (.head)))))))))) (.cons (by (first | exact .head | exact .tail (.head) | exact .tail (.tail (.head)) | exact .tail (.tail (.tail (.head))) | exact .tail (.tail (.tail (.tail (.head)))) | exact .tail (.tail (.tail (.tail (.tail (.head))))) | exact .tail (.tail (.tail (.tail (.tail (.tail (.head)))))) | exact .tail (.tail (.tail (.tail (.tail (.tail (.tail (.head))))))) | exact .tail (.tail (.tail (.tail (.tail (.tail (.tail (.tail (.head)))))))))) (.cons (by (first | exact .head | exact .tail (.head) | exact .tail (.tail (.head)) | exact .tail (.tail (.tail (.head))) | exact .tail (.tail (.tail (.tail (.head)))) | exact .tail (.tail (.tail (.tail (.tail (.head))))) | exact .tail (.tail (.tail (.tail (.tail (.tail (.head)))))) | exact .tail (.tail (.tail (.tail (.tail (.tail (.tail (.head))))))) | exact .tail (.tail (.tail (.tail (.tail (.tail (.tail (.tail (.head)))))))))) (.cons (by (first | exact .head | exact .tail (.head) | exact .tail (.tail (.head)) | exact .tail (.tail (.tail (.head))) | exact .tail (.tail (.tail (.tail (.head)))) | exact .tail (.tail (.tail (.tail (.tail (.head))))) | exact .tail (.tail (.tail (.tail (.tail (.tail (.head)))))) | exact .tail (.tail (.tail (.tail (.tail (.tail (.tail (.head))))))) | exact .tail (.tail (.tail (.tail (.tail (.tail (.tail (.tail (.head)))))))))) (.cons (by (first | exact .head | exact .tail (.head) | exact .tail (.tail (.head)) | exact .tail (.tail (.tail (.head))) | exact .tail (.tail (.tail (.tail (.head)))) | exact .tail (.tail (.tail (.tail (.tail (.head))))) | exact .tail (.tail (.tail (.tail (.tail (.tail (.head)))))) | exact .tail (.tail (.tail (.tail (.tail (.tail (.tail (.head))))))) | exact .tail (.tail (.tail (.tail (.tail (.tail (.tail (.tail (.head)))))))))) (.nil))))))))))⟩⟩
        case round =>
          clear HF HO
          obtain ⟨p, n0, n1, z, o, rfl, HP, HS, HO⟩ := hrel
          cases gk with
          | zero =>
            have d1 : decide (p < 2) = false := decide_eq_false (by have := HP.out; omega)
            have e1 := HS.out
            simp only [Nat.mul_zero, two_run] at e1
            obtain rfl := e1
            go_wp2_with (first | ((with_reducible refine gate_dst (N := 122) rfl ?_); refine own_wload HO.out rfl (x := .tmp 13) rfl (by rfl) (by (first | exact .head | exact .tail (.head) | exact .tail (.tail (.head)) | exact .tail (.tail (.tail (.head))) | exact .tail (.tail (.tail (.tail (.head)))) | exact .tail (.tail (.tail (.tail (.tail (.head))))) | exact .tail (.tail (.tail (.tail (.tail (.tail (.head)))))) | exact .tail (.tail (.tail (.tail (.tail (.tail (.tail (.head))))))) | exact .tail (.tail (.tail (.tail (.tail (.tail (.tail (.tail (.head)))))))))) Try.underlying102 (by rfl) (by kernel_rfl) ?_) | ((with_reducible refine gate_store (p := 9) rfl ?_); refine own_wstore HO.out rfl (ty := 102) (x := .tmp 9) (y := .tmp 122) (cs := #[.bool n0, .bool n1]) rfl (by rfl) (by rfl) (by (first | exact .head | exact .tail (.head) | exact .tail (.tail (.head)) | exact .tail (.tail (.tail (.head))) | exact .tail (.tail (.tail (.tail (.head)))) | exact .tail (.tail (.tail (.tail (.tail (.head))))) | exact .tail (.tail (.tail (.tail (.tail (.tail (.head)))))) | exact .tail (.tail (.tail (.tail (.tail (.tail (.tail (.head))))))) | exact .tail (.tail (.tail (.tail (.tail (.tail (.tail (.tail (.head)))))))))) (by kernel_rfl) (by rfl) (by kernel_rfl) ?_; intro wc hO_; clear HO; have HO := Aside0.mk hO_; clear hO_))
            go_roundg gi
            case measure => omega
            case rel => exact ⟨i + 1, n0, n1, two_set z zl i, two_set o ol i, congrArg (Value.int .i64) (two_w i (by have := HI.out; omega) (by have := HI.out; omega)), ⟨by have := HI.out; omega, by have := HI.out; omega⟩, ⟨(two_len _ _ _).trans HLs.out.1, (two_len _ _ _).trans HLs.out.2⟩, HN, ⟨HO.out.picks (.cons (by (first | exact .head | exact .tail (.head) | exact .tail (.tail (.head)) | exact .tail (.tail (.tail (.head))) | exact .tail (.tail (.tail (.tail (.head)))) | exact .tail (.tail (.tail (.tail (.tail (.head))))) | exact .tail (.tail (.tail (.tail (.tail (.tail (.head)))))) | exact .tail (.tail (.tail (.tail (.tail (.tail (.tail (.head))))))) | exact .tail (.tail (.tail (.tail (.tail (.tail (.tail (.tail (.head)))))))))) (.cons (by (first | exact .head | exact .tail (.head) | exact .tail (.tail (.head)) | exact .tail (.tail (.tail (.head))) | exact .tail (.tail (.tail (.tail (.head)))) | exact .tail (.tail (.tail (.tail (.tail (.head))))) | exact .tail (.tail (.tail (.tail (.tail (.tail (.head)))))) | exact .tail (.tail (.tail (.tail (.tail (.tail (.tail (.head))))))) | exact .tail (.tail (.tail (.tail (.tail (.tail (.tail (.tail (.head)))))))))) (.cons (by (first | exact .head | exact .tail (.head) | exact .tail (.tail (.head)) | exact .tail (.tail (.tail (.head))) | exact .tail (.tail (.tail (.tail (.head)))) | exact .tail (.tail (.tail (.tail (.tail (.head))))) | exact .tail (.tail (.tail (.tail (.tail (.tail (.head)))))) | exact .tail (.tail (.tail (.tail (.tail (.tail (.tail (.head))))))) | exact .tail (.tail (.tail (.tail (.tail (.tail (.tail (.tail (.head)))))))))) (.cons (by (first | exact .head | exact .tail (.head) | exact .tail (.tail (.head)) | exact .tail (.tail (.tail (.head))) | exact .tail (.tail (.tail (.tail (.head)))) | exact .tail (.tail (.tail (.tail (.tail (.head))))) | exact .tail (.tail (.tail (.tail (.tail (.tail (.head)))))) | exact .tail (.tail (.tail (.tail (.tail (.tail (.tail (.head))))))) | exact .tail (.tail (.tail (.tail (.tail (.tail (.tail (.tail (.head)))))))))) (.cons (by (first | exact .head | exact .tail (.head) | exact .tail (.tail (.head)) | exact .tail (.tail (.tail (.head))) | exact .tail (.tail (.tail (.tail (.head)))) | exact .tail (.tail (.tail (.tail (.tail (.head))))) | exact .tail (.tail (.tail (.tail (.tail (.tail (.head)))))) | exact .tail (.tail (.tail (.tail (.tail (.tail (.tail (.head))))))) | exact .tail (.tail (.tail (.tail (.tail (.tail (.tail (.tail (.head)))))))))) (.cons (by (first | exact .head | exact .tail (.head) | exact .tail (.tail (.head)) | exact .tail (.tail (.tail (.head))) | exact .tail (.tail (.tail (.tail (.head)))) | exact .tail (.tail (.tail (.tail (.tail (.head))))) | exact .tail (.tail (.tail (.tail (.tail (.tail (.head)))))) | exact .tail (.tail (.tail (.tail (.tail (.tail (.tail (.head))))))) | exact .tail (.tail (.tail (.tail (.tail (.tail (.tail (.tail (.head)))))))))) (.nil)))))))⟩⟩
          | succ n =>
            have d1 : decide (p < 2) = true := decide_eq_true (by have := HP.out; omega)
            have HS1 : Aside0 (two_run a0 x0 x1 y0 y1 c0 c1 (4 * n + 2 * 2) (n0, n1, z, o) = fin) := ⟨HS.out⟩
            clear HS
            go_wp2
            go_loopg [15, 16, 17] 2 (fun gk v15 v16 v17 w' => ∃ (q : Int) (n0 n1 z o : Bool), v15 = .int .i64 q ∧ Aside0 (q + gk = 2 ∧ 0 ≤ q) ∧ Aside0 (two_run a0 x0 x1 y0 y1 c0 c1 (4 * n + 2 * gk) (n0, n1, z, o) = fin) ∧ Aside0 (Own w w' [(g13, .cells #[.bool n0, .bool n1] 102 (0, 0)), (g7, .cells ((two_set z zl i).map Value.bool).toArray 4 (0, 0)), (g8, .cells ((two_set o ol i).map Value.bool).toArray 4 (0, 0)), (g9, .cells #[.bool c0, .bool c1] 102 (0, 0)), (g12, .cells #[.bool y0, .bool y1] 102 (0, 0)), (g11, .cells #[.bool x0, .bool x1] 102 (0, 0)), (g6, .cells #[.int .u64 0, .int .u64 0] 43 (0, 0)), (g5, .cells #[.int .u64 a2_0, .int .u64 a2_1] 43 (0, 0)), (g4, .cells #[.int .u64 a1_0, .int .u64 a1_1] 43 (0, 0))]))
            case atStart => exact ⟨0, n0, n1, z, o, rfl, ⟨⟨by omega, by omega⟩⟩, HS1, HO⟩
            case round =>
              clear HS1 HO n0 n1 z o
              obtain ⟨q, n0, n1, z, o, rfl, HQ, HS, HO⟩ := hrel
              cases gk with
              | zero =>
                have d2 : decide (q < 2) = false := decide_eq_false (by have := HQ.out; omega)
                go_wp2
                go_roundg n
                case measure => omega
                case rel => exact ⟨p + 1, n0, n1, z, o, congrArg (Value.int .i64) (two_w p (by have := HP.out; omega) (by have := HP.out; omega)), ⟨by have := HP.out; omega, by have := HP.out; omega⟩, HS, HO⟩
              | succ m =>
                have d2 : decide (q < 2) = true := decide_eq_true (by have := HQ.out; omega)
                have HS1 : Aside0 (two_run a0 x0 x1 y0 y1 c0 c1 (4 * n + 2 * m + 2) (n0, n1, z, o) = fin) := ⟨HS.out⟩
                clear HS
                go_wp2
                go_loopg [16, 17] 2 (fun gk v16 v17 w' => ∃ (c : Int) (n0 n1 z o : Bool), v16 = .int .i64 c ∧ Aside0 (c + gk = 2 ∧ 0 ≤ c) ∧ Aside0 (two_run a0 x0 x1 y0 y1 c0 c1 (4 * n + 2 * m + gk) (n0, n1, z, o) = fin) ∧ Aside0 (Own w w' [(g13, .cells #[.bool n0, .bool n1] 102 (0, 0)), (g7, .cells ((two_set z zl i).map Value.bool).toArray 4 (0, 0)), (g8, .cells ((two_set o ol i).map Value.bool).toArray 4 (0, 0)), (g9, .cells #[.bool c0, .bool c1] 102 (0, 0)), (g12, .cells #[.bool y0, .bool y1] 102 (0, 0)), (g11, .cells #[.bool x0, .bool x1] 102 (0, 0)), (g6, .cells #[.int .u64 0, .int .u64 0] 43 (0, 0)), (g5, .cells #[.int .u64 a2_0, .int .u64 a2_1] 43 (0, 0)), (g4, .cells #[.int .u64 a1_0, .int .u64 a1_1] 43 (0, 0))]))
                case atStart => exact ⟨0, n0, n1, z, o, rfl, ⟨⟨by omega, by omega⟩⟩, HS1, HO⟩
                case round =>
                  clear HS1 HO n0 n1 z o
                  obtain ⟨c, n0, n1, z, o, rfl, HR, HS, HO⟩ := hrel
                  cases gk with
                  | zero =>
                    have d3 : decide (c < 2) = false := decide_eq_false (by have := HR.out; omega)
                    go_wp2
                    go_roundg m
                    case measure => omega
                    case rel => exact ⟨q + 1, n0, n1, z, o, congrArg (Value.int .i64) (two_w q (by have := HQ.out; omega) (by have := HQ.out; omega)), ⟨by have := HQ.out; omega, by have := HQ.out; omega⟩, HS, HO⟩
                  | succ l =>
                    have HI3 := Aside0.mk (And.intro HP.out (And.intro HQ.out HR.out))
                    obtain ⟨tx, htx⟩ : ∃ t, two_x p x0 x1 = t := ⟨_, rfl⟩
                    obtain ⟨ty, hty⟩ : ∃ t, two_x q y0 y1 = t := ⟨_, rfl⟩
                    obtain ⟨tc, htc⟩ : ∃ t, two_x c c0 c1 = t := ⟨_, rfl⟩
                    have HT := Aside0.mk (And.intro htx (And.intro hty htc))
                    clear htx hty htc
                    have pa : (0 ≤ p) = True := eq_true (by have := HI3.out; omega)
                    have pb : (p < 2) = True := eq_true (by have := HI3.out; omega)
                    have qa : (0 ≤ q) = True := eq_true (by have := HI3.out; omega)
                    have qb : (q < 2) = True := eq_true (by have := HI3.out; omega)
                    have ra : (0 ≤ c) = True := eq_true (by have := HI3.out; omega)
                    have rb : (c < 2) = True := eq_true (by have := HI3.out; omega)
                    have d3 : decide (c < 2) = true := decide_eq_true (by have := HI3.out; omega)
                    have hcx : World.cell? _ ⟨g11, p.toNat, none⟩ = some (.bool tx) := (HO.out.cell (.tail (.tail (.tail (.tail (.tail (.head)))))) p.toNat).trans (two_at HT.out.1 HP.out.2 (by have := HI3.out; omega))
                    have hcy : World.cell? _ ⟨g12, q.toNat, none⟩ = some (.bool ty) := (HO.out.cell (.tail (.tail (.tail (.tail (.head))))) q.toNat).trans (two_at HT.out.2.1 HQ.out.2 (by have := HI3.out; omega))
                    have hcc : World.cell? _ ⟨g9, c.toNat, none⟩ = some (.bool tc) := (HO.out.cell (.tail (.tail (.tail (.head)))) c.toNat).trans (two_at HT.out.2.2 HR.out.2 (by have := HI3.out; omega))
                    cases tx with
                    | false =>
                      have HS7 := Aside0.mk (two_skip HI3.out (fun h => by rw [HT.out.1, HT.out.2.1, HT.out.2.2] at h; simp at h) HS.out)
                      go_wp2
                      go_roundg l
                      case measure => omega
                      case rel => exact ⟨c + 1, n0, n1, z, o, congrArg (Value.int .i64) (two_w c (by have := HI3.out; omega) (by have := HI3.out; omega)), ⟨by have := HI3.out; omega, by have := HI3.out; omega⟩, HS7, HO⟩
                    | true =>
                      cases ty with
                      | false =>
                        have HS7 := Aside0.mk (two_skip HI3.out (fun h => by rw [HT.out.1, HT.out.2.1, HT.out.2.2] at h; simp at h) HS.out)
                        go_wp2
                        go_roundg l
                        case measure => omega
                        case rel => exact ⟨c + 1, n0, n1, z, o, congrArg (Value.int .i64) (two_w c (by have := HI3.out; omega) (by have := HI3.out; omega)), ⟨by have := HI3.out; omega, by have := HI3.out; omega⟩, HS7, HO⟩
                      | true =>
                        cases tc with
                        | false =>
                          have HS7 := Aside0.mk (two_skip HI3.out (fun h => by rw [HT.out.1, HT.out.2.1, HT.out.2.2] at h; simp at h) HS.out)
                          go_wp2
                          go_roundg l
                          case measure => omega
                          case rel => exact ⟨c + 1, n0, n1, z, o, congrArg (Value.int .i64) (two_w c (by have := HI3.out; omega) (by have := HI3.out; omega)), ⟨by have := HI3.out; omega, by have := HI3.out; omega⟩, HS7, HO⟩
                        | true =>
                          have HS7 := Aside0.mk (two_take HI3.out HT.out HS.out)
                          clear HS HT
                          rcases (show (p = 0 ∨ p = 1) ∧ (q = 0 ∨ q = 1) ∧ (c = 0 ∨ c = 1) from by have := HI3.out; omega) with ⟨rfl | rfl, rfl | rfl, rfl | rfl⟩
                          · obtain rfl : n = 1 := by have := HI3.out; omega
                            obtain rfl : m = 1 := by have := HI3.out; omega
                            obtain rfl : l = 1 := by have := HI3.out; omega
                            replace hcx : World.cell? _ ⟨g11, 0, none⟩ = some (.bool true) := hcx
                            replace hcy : World.cell? _ ⟨g12, 0, none⟩ = some (.bool true) := hcy
                            replace hcc : World.cell? _ ⟨g9, 0, none⟩ = some (.bool true) := hcc
                            rcases HK.out with K0 | ⟨K0, K1⟩ | ⟨K0, K1, K2⟩ | ⟨K0, K1, K2, K3⟩ | ⟨K0, K1, K2, K3⟩
                            · have e_ : two_new a0 false false false (n0, n1, z, o) = (true, n1, true, o) := by
                                have k0 := eq_of_beq K0
                                simp [two_new, two_c, two_o, k0]
                              have HS8 := Aside0.mk ((congrArg _ e_).symm.trans HS7.out)
                              clear e_ HS7
                              go_wp2_with (first | ((with_reducible refine gate_store (p := 83) rfl ?_); refine own_store HO.out rfl (ty := 4) (x := .tmp 83) (y := .const (.bool true)) (v := .bool true) (cs' := #[.bool true, .bool n1]) rfl (by rfl) (by rfl) .head (by kernel_rfl) (by rfl) (by first | decide | (simp; done)) (by rfl) ?_; intro wc hO_; clear HO; have HO := Aside0.mk hO_; clear hO_) | ((with_reducible refine gate_store (p := 118) rfl ?_); refine own_store HO.out rfl (ty := 4) (x := .tmp 118) (y := .const (.bool true)) (v := .bool true) (cs' := ((two_set true zl i).map Value.bool).toArray) (j := i.toNat) rfl ?hx rfl (.tail (.head)) (by kernel_rfl) (by rfl) (two_in HLs.out.1 HI.out.2 HI2.out) (two_cells _ _ _) ?_; (case hx => first | rfl | (go_simp; done) | (go_simp; rfl)); intro wc hO_; have hO_ := hO_.twoz; clear HO; have HO := Aside0.mk hO_; clear hO_))
                              go_roundg 1
                              case measure => omega
                              case rel => exact ⟨1, true, n1, true, o, rfl, ⟨by have := HI3.out; omega, by omega⟩, HS8, HO⟩
                            · have e_ : two_new a0 false false false (n0, n1, z, o) = (true, n1, true, o) := by
                                have k0 := beq_eq_false_iff_ne.mp K0
                                have k1 := eq_of_beq K1
                                simp [two_new, two_c, two_o, k0, k1]
                              have HS8 := Aside0.mk ((congrArg _ e_).symm.trans HS7.out)
                              clear e_ HS7
                              go_wp2_with (first | ((with_reducible refine gate_store (p := 96) rfl ?_); refine own_store HO.out rfl (ty := 4) (x := .tmp 96) (y := .const (.bool true)) (v := .bool true) (cs' := #[.bool true, .bool n1]) rfl (by rfl) (by rfl) .head (by kernel_rfl) (by rfl) (by first | decide | (simp; done)) (by rfl) ?_; intro wc hO_; clear HO; have HO := Aside0.mk hO_; clear hO_) | ((with_reducible refine gate_store (p := 118) rfl ?_); refine own_store HO.out rfl (ty := 4) (x := .tmp 118) (y := .const (.bool true)) (v := .bool true) (cs' := ((two_set true zl i).map Value.bool).toArray) (j := i.toNat) rfl ?hx rfl (.tail (.head)) (by kernel_rfl) (by rfl) (two_in HLs.out.1 HI.out.2 HI2.out) (two_cells _ _ _) ?_; (case hx => first | rfl | (go_simp; done) | (go_simp; rfl)); intro wc hO_; have hO_ := hO_.twoz; clear HO; have HO := Aside0.mk hO_; clear hO_))
                              go_roundg 1
                              case measure => omega
                              case rel => exact ⟨1, true, n1, true, o, rfl, ⟨by have := HI3.out; omega, by omega⟩, HS8, HO⟩
                            · have e_ : two_new a0 false false false (n0, n1, z, o) = (true, n1, true, o) := by
                                have k0 := beq_eq_false_iff_ne.mp K0
                                have k1 := beq_eq_false_iff_ne.mp K1
                                have k2 := eq_of_beq K2
                                simp [two_new, two_c, two_o, k0, k1, k2]
                              have HS8 := Aside0.mk ((congrArg _ e_).symm.trans HS7.out)
                              clear e_ HS7
                              go_wp2_with (first | ((with_reducible refine gate_store (p := 102) rfl ?_); refine own_store HO.out rfl (ty := 4) (x := .tmp 102) (y := .const (.bool true)) (v := .bool true) (cs' := #[.bool true, .bool n1]) rfl (by rfl) (by rfl) .head (by kernel_rfl) (by rfl) (by first | decide | (simp; done)) (by rfl) ?_; intro wc hO_; clear HO; have HO := Aside0.mk hO_; clear hO_) | ((with_reducible refine gate_store (p := 118) rfl ?_); refine own_store HO.out rfl (ty := 4) (x := .tmp 118) (y := .const (.bool true)) (v := .bool true) (cs' := ((two_set true zl i).map Value.bool).toArray) (j := i.toNat) rfl ?hx rfl (.tail (.head)) (by kernel_rfl) (by rfl) (two_in HLs.out.1 HI.out.2 HI2.out) (two_cells _ _ _) ?_; (case hx => first | rfl | (go_simp; done) | (go_simp; rfl)); intro wc hO_; have hO_ := hO_.twoz; clear HO; have HO := Aside0.mk hO_; clear hO_))
                              go_roundg 1
                              case measure => omega
                              case rel => exact ⟨1, true, n1, true, o, rfl, ⟨by have := HI3.out; omega, by omega⟩, HS8, HO⟩
                            · have e_ : two_new a0 false false false (n0, n1, z, o) = (true, n1, true, o) := by
                                have k0 := beq_eq_false_iff_ne.mp K0
                                have k1 := beq_eq_false_iff_ne.mp K1
                                have k2 := beq_eq_false_iff_ne.mp K2
                                have k3 := eq_of_beq K3
                                simp [two_new, two_c, two_o, k0, k1, k2, k3]
                              have HS8 := Aside0.mk ((congrArg _ e_).symm.trans HS7.out)
                              clear e_ HS7
                              go_wp2_with (first | ((with_reducible refine gate_store (p := 112) rfl ?_); refine own_store HO.out rfl (ty := 4) (x := .tmp 112) (y := .const (.bool true)) (v := .bool true) (cs' := #[.bool true, .bool n1]) rfl (by rfl) (by rfl) .head (by kernel_rfl) (by rfl) (by first | decide | (simp; done)) (by rfl) ?_; intro wc hO_; clear HO; have HO := Aside0.mk hO_; clear hO_) | ((with_reducible refine gate_store (p := 118) rfl ?_); refine own_store HO.out rfl (ty := 4) (x := .tmp 118) (y := .const (.bool true)) (v := .bool true) (cs' := ((two_set true zl i).map Value.bool).toArray) (j := i.toNat) rfl ?hx rfl (.tail (.head)) (by kernel_rfl) (by rfl) (two_in HLs.out.1 HI.out.2 HI2.out) (two_cells _ _ _) ?_; (case hx => first | rfl | (go_simp; done) | (go_simp; rfl)); intro wc hO_; have hO_ := hO_.twoz; clear HO; have HO := Aside0.mk hO_; clear hO_))
                              go_roundg 1
                              case measure => omega
                              case rel => exact ⟨1, true, n1, true, o, rfl, ⟨by have := HI3.out; omega, by omega⟩, HS8, HO⟩
                            · have e_ : two_new a0 false false false (n0, n1, z, o) = (true, n1, true, o) := by
                                have k0 := beq_eq_false_iff_ne.mp K0
                                have k1 := beq_eq_false_iff_ne.mp K1
                                have k2 := beq_eq_false_iff_ne.mp K2
                                have k3 := beq_eq_false_iff_ne.mp K3
                                simp [two_new, two_c, two_o, k0, k1, k2, k3]
                              have HS8 := Aside0.mk ((congrArg _ e_).symm.trans HS7.out)
                              clear e_ HS7
                              go_wp2_with (first | ((with_reducible refine gate_store (p := 73) rfl ?_); refine own_store HO.out rfl (ty := 4) (x := .tmp 73) (y := .const (.bool true)) (v := .bool true) (cs' := #[.bool true, .bool n1]) rfl (by rfl) (by rfl) .head (by kernel_rfl) (by rfl) (by first | decide | (simp; done)) (by rfl) ?_; intro wc hO_; clear HO; have HO := Aside0.mk hO_; clear hO_) | ((with_reducible refine gate_store (p := 118) rfl ?_); refine own_store HO.out rfl (ty := 4) (x := .tmp 118) (y := .const (.bool true)) (v := .bool true) (cs' := ((two_set true zl i).map Value.bool).toArray) (j := i.toNat) rfl ?hx rfl (.tail (.head)) (by kernel_rfl) (by rfl) (two_in HLs.out.1 HI.out.2 HI2.out) (two_cells _ _ _) ?_; (case hx => first | rfl | (go_simp; done) | (go_simp; rfl)); intro wc hO_; have hO_ := hO_.twoz; clear HO; have HO := Aside0.mk hO_; clear hO_))
                              go_roundg 1
                              case measure => omega
                              case rel => exact ⟨1, true, n1, true, o, rfl, ⟨by have := HI3.out; omega, by omega⟩, HS8, HO⟩
                          · obtain rfl : n = 1 := by have := HI3.out; omega
                            obtain rfl : m = 1 := by have := HI3.out; omega
                            obtain rfl : l = 0 := by have := HI3.out; omega
                            replace hcx : World.cell? _ ⟨g11, 0, none⟩ = some (.bool true) := hcx
                            replace hcy : World.cell? _ ⟨g12, 0, none⟩ = some (.bool true) := hcy
                            replace hcc : World.cell? _ ⟨g9, 1, none⟩ = some (.bool true) := hcc
                            rcases HK.out with K0 | ⟨K0, K1⟩ | ⟨K0, K1, K2⟩ | ⟨K0, K1, K2, K3⟩ | ⟨K0, K1, K2, K3⟩
                            · have e_ : two_new a0 false false true (n0, n1, z, o) = (true, n1, z, true) := by
                                have k0 := eq_of_beq K0
                                simp [two_new, two_c, two_o, k0]
                              have HS8 := Aside0.mk ((congrArg _ e_).symm.trans HS7.out)
                              clear e_ HS7
                              go_wp2_with (first | ((with_reducible refine gate_store (p := 83) rfl ?_); refine own_store HO.out rfl (ty := 4) (x := .tmp 83) (y := .const (.bool true)) (v := .bool true) (cs' := #[.bool true, .bool n1]) rfl (by rfl) (by rfl) .head (by kernel_rfl) (by rfl) (by first | decide | (simp; done)) (by rfl) ?_; intro wc hO_; clear HO; have HO := Aside0.mk hO_; clear hO_) | ((with_reducible refine gate_store (p := 121) rfl ?_); refine own_store HO.out rfl (ty := 4) (x := .tmp 121) (y := .const (.bool true)) (v := .bool true) (cs' := ((two_set true ol i).map Value.bool).toArray) (j := i.toNat) rfl ?hx rfl (.tail (.tail (.head))) (by kernel_rfl) (by rfl) (two_in HLs.out.2 HI.out.2 HI2.out) (two_cells _ _ _) ?_; (case hx => first | rfl | (go_simp; done) | (go_simp; rfl)); intro wc hO_; have hO_ := hO_.twoo; clear HO; have HO := Aside0.mk hO_; clear hO_))
                              go_roundg 0
                              case measure => omega
                              case rel => exact ⟨2, true, n1, z, true, rfl, ⟨by have := HI3.out; omega, by omega⟩, HS8, HO⟩
                            · have e_ : two_new a0 false false true (n0, n1, z, o) = (n0, true, z, true) := by
                                have k0 := beq_eq_false_iff_ne.mp K0
                                have k1 := eq_of_beq K1
                                simp [two_new, two_c, two_o, k0, k1]
                              have HS8 := Aside0.mk ((congrArg _ e_).symm.trans HS7.out)
                              clear e_ HS7
                              go_wp2_with (first | ((with_reducible refine gate_store (p := 95) rfl ?_); refine own_store HO.out rfl (ty := 4) (x := .tmp 95) (y := .const (.bool true)) (v := .bool true) (cs' := #[.bool n0, .bool true]) rfl (by rfl) (by rfl) .head (by kernel_rfl) (by rfl) (by first | decide | (simp; done)) (by rfl) ?_; intro wc hO_; clear HO; have HO := Aside0.mk hO_; clear hO_) | ((with_reducible refine gate_store (p := 121) rfl ?_); refine own_store HO.out rfl (ty := 4) (x := .tmp 121) (y := .const (.bool true)) (v := .bool true) (cs' := ((two_set true ol i).map Value.bool).toArray) (j := i.toNat) rfl ?hx rfl (.tail (.tail (.head))) (by kernel_rfl) (by rfl) (two_in HLs.out.2 HI.out.2 HI2.out) (two_cells _ _ _) ?_; (case hx => first | rfl | (go_simp; done) | (go_simp; rfl)); intro wc hO_; have hO_ := hO_.twoo; clear HO; have HO := Aside0.mk hO_; clear hO_))
                              go_roundg 0
                              case measure => omega
                              case rel => exact ⟨2, n0, true, z, true, rfl, ⟨by have := HI3.out; omega, by omega⟩, HS8, HO⟩
                            · have e_ : two_new a0 false false true (n0, n1, z, o) = (true, n1, true, o) := by
                                have k0 := beq_eq_false_iff_ne.mp K0
                                have k1 := beq_eq_false_iff_ne.mp K1
                                have k2 := eq_of_beq K2
                                simp [two_new, two_c, two_o, k0, k1, k2]
                              have HS8 := Aside0.mk ((congrArg _ e_).symm.trans HS7.out)
                              clear e_ HS7
                              go_wp2_with (first | ((with_reducible refine gate_store (p := 102) rfl ?_); refine own_store HO.out rfl (ty := 4) (x := .tmp 102) (y := .const (.bool true)) (v := .bool true) (cs' := #[.bool true, .bool n1]) rfl (by rfl) (by rfl) .head (by kernel_rfl) (by rfl) (by first | decide | (simp; done)) (by rfl) ?_; intro wc hO_; clear HO; have HO := Aside0.mk hO_; clear hO_) | ((with_reducible refine gate_store (p := 118) rfl ?_); refine own_store HO.out rfl (ty := 4) (x := .tmp 118) (y := .const (.bool true)) (v := .bool true) (cs' := ((two_set true zl i).map Value.bool).toArray) (j := i.toNat) rfl ?hx rfl (.tail (.head)) (by kernel_rfl) (by rfl) (two_in HLs.out.1 HI.out.2 HI2.out) (two_cells _ _ _) ?_; (case hx => first | rfl | (go_simp; done) | (go_simp; rfl)); intro wc hO_; have hO_ := hO_.twoz; clear HO; have HO := Aside0.mk hO_; clear hO_))
                              go_roundg 0
                              case measure => omega
                              case rel => exact ⟨2, true, n1, true, o, rfl, ⟨by have := HI3.out; omega, by omega⟩, HS8, HO⟩
                            · have e_ : two_new a0 false false true (n0, n1, z, o) = (true, n1, true, o) := by
                                have k0 := beq_eq_false_iff_ne.mp K0
                                have k1 := beq_eq_false_iff_ne.mp K1
                                have k2 := beq_eq_false_iff_ne.mp K2
                                have k3 := eq_of_beq K3
                                simp [two_new, two_c, two_o, k0, k1, k2, k3]
                              have HS8 := Aside0.mk ((congrArg _ e_).symm.trans HS7.out)
                              clear e_ HS7
                              go_wp2_with (first | ((with_reducible refine gate_store (p := 112) rfl ?_); refine own_store HO.out rfl (ty := 4) (x := .tmp 112) (y := .const (.bool true)) (v := .bool true) (cs' := #[.bool true, .bool n1]) rfl (by rfl) (by rfl) .head (by kernel_rfl) (by rfl) (by first | decide | (simp; done)) (by rfl) ?_; intro wc hO_; clear HO; have HO := Aside0.mk hO_; clear hO_) | ((with_reducible refine gate_store (p := 118) rfl ?_); refine own_store HO.out rfl (ty := 4) (x := .tmp 118) (y := .const (.bool true)) (v := .bool true) (cs' := ((two_set true zl i).map Value.bool).toArray) (j := i.toNat) rfl ?hx rfl (.tail (.head)) (by kernel_rfl) (by rfl) (two_in HLs.out.1 HI.out.2 HI2.out) (two_cells _ _ _) ?_; (case hx => first | rfl | (go_simp; done) | (go_simp; rfl)); intro wc hO_; have hO_ := hO_.twoz; clear HO; have HO := Aside0.mk hO_; clear hO_))
                              go_roundg 0
                              case measure => omega
                              case rel => exact ⟨2, true, n1, true, o, rfl, ⟨by have := HI3.out; omega, by omega⟩, HS8, HO⟩
                            · have e_ : two_new a0 false false true (n0, n1, z, o) = (true, n1, true, o) := by
                                have k0 := beq_eq_false_iff_ne.mp K0
                                have k1 := beq_eq_false_iff_ne.mp K1
                                have k2 := beq_eq_false_iff_ne.mp K2
                                have k3 := beq_eq_false_iff_ne.mp K3
                                simp [two_new, two_c, two_o, k0, k1, k2, k3]
                              have HS8 := Aside0.mk ((congrArg _ e_).symm.trans HS7.out)
                              clear e_ HS7
                              go_wp2_with (first | ((with_reducible refine gate_store (p := 73) rfl ?_); refine own_store HO.out rfl (ty := 4) (x := .tmp 73) (y := .const (.bool true)) (v := .bool true) (cs' := #[.bool true, .bool n1]) rfl (by rfl) (by rfl) .head (by kernel_rfl) (by rfl) (by first | decide | (simp; done)) (by rfl) ?_; intro wc hO_; clear HO; have HO := Aside0.mk hO_; clear hO_) | ((with_reducible refine gate_store (p := 118) rfl ?_); refine own_store HO.out rfl (ty := 4) (x := .tmp 118) (y := .const (.bool true)) (v := .bool true) (cs' := ((two_set true zl i).map Value.bool).toArray) (j := i.toNat) rfl ?hx rfl (.tail (.head)) (by kernel_rfl) (by rfl) (two_in HLs.out.1 HI.out.2 HI2.out) (two_cells _ _ _) ?_; (case hx => first | rfl | (go_simp; done) | (go_simp; rfl)); intro wc hO_; have hO_ := hO_.twoz; clear HO; have HO := Aside0.mk hO_; clear hO_))
                              go_roundg 0
                              case measure => omega
                              case rel => exact ⟨2, true, n1, true, o, rfl, ⟨by have := HI3.out; omega, by omega⟩, HS8, HO⟩
                          · obtain rfl : n = 1 := by have := HI3.out; omega
                            obtain rfl : m = 0 := by have := HI3.out; omega
                            obtain rfl : l = 1 := by have := HI3.out; omega
                            replace hcx : World.cell? _ ⟨g11, 0, none⟩ = some (.bool true) := hcx
                            replace hcy : World.cell? _ ⟨g12, 1, none⟩ = some (.bool true) := hcy
                            replace hcc : World.cell? _ ⟨g9, 0, none⟩ = some (.bool true) := hcc
                            rcases HK.out with K0 | ⟨K0, K1⟩ | ⟨K0, K1, K2⟩ | ⟨K0, K1, K2, K3⟩ | ⟨K0, K1, K2, K3⟩
                            · have e_ : two_new a0 false true false (n0, n1, z, o) = (true, n1, z, true) := by
                                have k0 := eq_of_beq K0
                                simp [two_new, two_c, two_o, k0]
                              have HS8 := Aside0.mk ((congrArg _ e_).symm.trans HS7.out)
                              clear e_ HS7
                              go_wp2_with (first | ((with_reducible refine gate_store (p := 83) rfl ?_); refine own_store HO.out rfl (ty := 4) (x := .tmp 83) (y := .const (.bool true)) (v := .bool true) (cs' := #[.bool true, .bool n1]) rfl (by rfl) (by rfl) .head (by kernel_rfl) (by rfl) (by first | decide | (simp; done)) (by rfl) ?_; intro wc hO_; clear HO; have HO := Aside0.mk hO_; clear hO_) | ((with_reducible refine gate_store (p := 121) rfl ?_); refine own_store HO.out rfl (ty := 4) (x := .tmp 121) (y := .const (.bool true)) (v := .bool true) (cs' := ((two_set true ol i).map Value.bool).toArray) (j := i.toNat) rfl ?hx rfl (.tail (.tail (.head))) (by kernel_rfl) (by rfl) (two_in HLs.out.2 HI.out.2 HI2.out) (two_cells _ _ _) ?_; (case hx => first | rfl | (go_simp; done) | (go_simp; rfl)); intro wc hO_; have hO_ := hO_.twoo; clear HO; have HO := Aside0.mk hO_; clear hO_))
                              go_roundg 1
                              case measure => omega
                              case rel => exact ⟨1, true, n1, z, true, rfl, ⟨by have := HI3.out; omega, by omega⟩, HS8, HO⟩
                            · have e_ : two_new a0 false true false (n0, n1, z, o) = (n0, true, z, true) := by
                                have k0 := beq_eq_false_iff_ne.mp K0
                                have k1 := eq_of_beq K1
                                simp [two_new, two_c, two_o, k0, k1]
                              have HS8 := Aside0.mk ((congrArg _ e_).symm.trans HS7.out)
                              clear e_ HS7
                              go_wp2_with (first | ((with_reducible refine gate_store (p := 95) rfl ?_); refine own_store HO.out rfl (ty := 4) (x := .tmp 95) (y := .const (.bool true)) (v := .bool true) (cs' := #[.bool n0, .bool true]) rfl (by rfl) (by rfl) .head (by kernel_rfl) (by rfl) (by first | decide | (simp; done)) (by rfl) ?_; intro wc hO_; clear HO; have HO := Aside0.mk hO_; clear hO_) | ((with_reducible refine gate_store (p := 121) rfl ?_); refine own_store HO.out rfl (ty := 4) (x := .tmp 121) (y := .const (.bool true)) (v := .bool true) (cs' := ((two_set true ol i).map Value.bool).toArray) (j := i.toNat) rfl ?hx rfl (.tail (.tail (.head))) (by kernel_rfl) (by rfl) (two_in HLs.out.2 HI.out.2 HI2.out) (two_cells _ _ _) ?_; (case hx => first | rfl | (go_simp; done) | (go_simp; rfl)); intro wc hO_; have hO_ := hO_.twoo; clear HO; have HO := Aside0.mk hO_; clear hO_))
                              go_roundg 1
                              case measure => omega
                              case rel => exact ⟨1, n0, true, z, true, rfl, ⟨by have := HI3.out; omega, by omega⟩, HS8, HO⟩
                            · have e_ : two_new a0 false true false (n0, n1, z, o) = (true, n1, true, o) := by
                                have k0 := beq_eq_false_iff_ne.mp K0
                                have k1 := beq_eq_false_iff_ne.mp K1
                                have k2 := eq_of_beq K2
                                simp [two_new, two_c, two_o, k0, k1, k2]
                              have HS8 := Aside0.mk ((congrArg _ e_).symm.trans HS7.out)
                              clear e_ HS7
                              go_wp2_with (first | ((with_reducible refine gate_store (p := 102) rfl ?_); refine own_store HO.out rfl (ty := 4) (x := .tmp 102) (y := .const (.bool true)) (v := .bool true) (cs' := #[.bool true, .bool n1]) rfl (by rfl) (by rfl) .head (by kernel_rfl) (by rfl) (by first | decide | (simp; done)) (by rfl) ?_; intro wc hO_; clear HO; have HO := Aside0.mk hO_; clear hO_) | ((with_reducible refine gate_store (p := 118) rfl ?_); refine own_store HO.out rfl (ty := 4) (x := .tmp 118) (y := .const (.bool true)) (v := .bool true) (cs' := ((two_set true zl i).map Value.bool).toArray) (j := i.toNat) rfl ?hx rfl (.tail (.head)) (by kernel_rfl) (by rfl) (two_in HLs.out.1 HI.out.2 HI2.out) (two_cells _ _ _) ?_; (case hx => first | rfl | (go_simp; done) | (go_simp; rfl)); intro wc hO_; have hO_ := hO_.twoz; clear HO; have HO := Aside0.mk hO_; clear hO_))
                              go_roundg 1
                              case measure => omega
                              case rel => exact ⟨1, true, n1, true, o, rfl, ⟨by have := HI3.out; omega, by omega⟩, HS8, HO⟩
                            · have e_ : two_new a0 false true false (n0, n1, z, o) = (true, n1, z, true) := by
                                have k0 := beq_eq_false_iff_ne.mp K0
                                have k1 := beq_eq_false_iff_ne.mp K1
                                have k2 := beq_eq_false_iff_ne.mp K2
                                have k3 := eq_of_beq K3
                                simp [two_new, two_c, two_o, k0, k1, k2, k3]
                              have HS8 := Aside0.mk ((congrArg _ e_).symm.trans HS7.out)
                              clear e_ HS7
                              go_wp2_with (first | ((with_reducible refine gate_store (p := 112) rfl ?_); refine own_store HO.out rfl (ty := 4) (x := .tmp 112) (y := .const (.bool true)) (v := .bool true) (cs' := #[.bool true, .bool n1]) rfl (by rfl) (by rfl) .head (by kernel_rfl) (by rfl) (by first | decide | (simp; done)) (by rfl) ?_; intro wc hO_; clear HO; have HO := Aside0.mk hO_; clear hO_) | ((with_reducible refine gate_store (p := 121) rfl ?_); refine own_store HO.out rfl (ty := 4) (x := .tmp 121) (y := .const (.bool true)) (v := .bool true) (cs' := ((two_set true ol i).map Value.bool).toArray) (j := i.toNat) rfl ?hx rfl (.tail (.tail (.head))) (by kernel_rfl) (by rfl) (two_in HLs.out.2 HI.out.2 HI2.out) (two_cells _ _ _) ?_; (case hx => first | rfl | (go_simp; done) | (go_simp; rfl)); intro wc hO_; have hO_ := hO_.twoo; clear HO; have HO := Aside0.mk hO_; clear hO_))
                              go_roundg 1
                              case measure => omega
                              case rel => exact ⟨1, true, n1, z, true, rfl, ⟨by have := HI3.out; omega, by omega⟩, HS8, HO⟩
                            · have e_ : two_new a0 false true false (n0, n1, z, o) = (true, n1, z, true) := by
                                have k0 := beq_eq_false_iff_ne.mp K0
                                have k1 := beq_eq_false_iff_ne.mp K1
                                have k2 := beq_eq_false_iff_ne.mp K2
                                have k3 := beq_eq_false_iff_ne.mp K3
                                simp [two_new, two_c, two_o, k0, k1, k2, k3]
                              have HS8 := Aside0.mk ((congrArg _ e_).symm.trans HS7.out)
                              clear e_ HS7
                              go_wp2_with (first | ((with_reducible refine gate_store (p := 73) rfl ?_); refine own_store HO.out rfl (ty := 4) (x := .tmp 73) (y := .const (.bool true)) (v := .bool true) (cs' := #[.bool true, .bool n1]) rfl (by rfl) (by rfl) .head (by kernel_rfl) (by rfl) (by first | decide | (simp; done)) (by rfl) ?_; intro wc hO_; clear HO; have HO := Aside0.mk hO_; clear hO_) | ((with_reducible refine gate_store (p := 121) rfl ?_); refine own_store HO.out rfl (ty := 4) (x := .tmp 121) (y := .const (.bool true)) (v := .bool true) (cs' := ((two_set true ol i).map Value.bool).toArray) (j := i.toNat) rfl ?hx rfl (.tail (.tail (.head))) (by kernel_rfl) (by rfl) (two_in HLs.out.2 HI.out.2 HI2.out) (two_cells _ _ _) ?_; (case hx => first | rfl | (go_simp; done) | (go_simp; rfl)); intro wc hO_; have hO_ := hO_.twoo; clear HO; have HO := Aside0.mk hO_; clear hO_))
                              go_roundg 1
                              case measure => omega
                              case rel => exact ⟨1, true, n1, z, true, rfl, ⟨by have := HI3.out; omega, by omega⟩, HS8, HO⟩
                          · obtain rfl : n = 1 := by have := HI3.out; omega
                            obtain rfl : m = 0 := by have := HI3.out; omega
                            obtain rfl : l = 0 := by have := HI3.out; omega
                            replace hcx : World.cell? _ ⟨g11, 0, none⟩ = some (.bool true) := hcx
                            replace hcy : World.cell? _ ⟨g12, 1, none⟩ = some (.bool true) := hcy
                            replace hcc : World.cell? _ ⟨g9, 1, none⟩ = some (.bool true) := hcc
                            rcases HK.out with K0 | ⟨K0, K1⟩ | ⟨K0, K1, K2⟩ | ⟨K0, K1, K2, K3⟩ | ⟨K0, K1, K2, K3⟩
                            · have e_ : two_new a0 false true true (n0, n1, z, o) = (n0, true, true, o) := by
                                have k0 := eq_of_beq K0
                                simp [two_new, two_c, two_o, k0]
                              have HS8 := Aside0.mk ((congrArg _ e_).symm.trans HS7.out)
                              clear e_ HS7
                              go_wp2_with (first | ((with_reducible refine gate_store (p := 83) rfl ?_); refine own_store HO.out rfl (ty := 4) (x := .tmp 83) (y := .const (.bool true)) (v := .bool true) (cs' := #[.bool n0, .bool true]) rfl (by rfl) (by rfl) .head (by kernel_rfl) (by rfl) (by first | decide | (simp; done)) (by rfl) ?_; intro wc hO_; clear HO; have HO := Aside0.mk hO_; clear hO_) | ((with_reducible refine gate_store (p := 118) rfl ?_); refine own_store HO.out rfl (ty := 4) (x := .tmp 118) (y := .const (.bool true)) (v := .bool true) (cs' := ((two_set true zl i).map Value.bool).toArray) (j := i.toNat) rfl ?hx rfl (.tail (.head)) (by kernel_rfl) (by rfl) (two_in HLs.out.1 HI.out.2 HI2.out) (two_cells _ _ _) ?_; (case hx => first | rfl | (go_simp; done) | (go_simp; rfl)); intro wc hO_; have hO_ := hO_.twoz; clear HO; have HO := Aside0.mk hO_; clear hO_))
                              go_roundg 0
                              case measure => omega
                              case rel => exact ⟨2, n0, true, true, o, rfl, ⟨by have := HI3.out; omega, by omega⟩, HS8, HO⟩
                            · have e_ : two_new a0 false true true (n0, n1, z, o) = (n0, true, true, o) := by
                                have k0 := beq_eq_false_iff_ne.mp K0
                                have k1 := eq_of_beq K1
                                simp [two_new, two_c, two_o, k0, k1]
                              have HS8 := Aside0.mk ((congrArg _ e_).symm.trans HS7.out)
                              clear e_ HS7
                              go_wp2_with (first | ((with_reducible refine gate_store (p := 95) rfl ?_); refine own_store HO.out rfl (ty := 4) (x := .tmp 95) (y := .const (.bool true)) (v := .bool true) (cs' := #[.bool n0, .bool true]) rfl (by rfl) (by rfl) .head (by kernel_rfl) (by rfl) (by first | decide | (simp; done)) (by rfl) ?_; intro wc hO_; clear HO; have HO := Aside0.mk hO_; clear hO_) | ((with_reducible refine gate_store (p := 118) rfl ?_); refine own_store HO.out rfl (ty := 4) (x := .tmp 118) (y := .const (.bool true)) (v := .bool true) (cs' := ((two_set true zl i).map Value.bool).toArray) (j := i.toNat) rfl ?hx rfl (.tail (.head)) (by kernel_rfl) (by rfl) (two_in HLs.out.1 HI.out.2 HI2.out) (two_cells _ _ _) ?_; (case hx => first | rfl | (go_simp; done) | (go_simp; rfl)); intro wc hO_; have hO_ := hO_.twoz; clear HO; have HO := Aside0.mk hO_; clear hO_))
                              go_roundg 0
                              case measure => omega
                              case rel => exact ⟨2, n0, true, true, o, rfl, ⟨by have := HI3.out; omega, by omega⟩, HS8, HO⟩
                            · have e_ : two_new a0 false true true (n0, n1, z, o) = (true, n1, true, o) := by
                                have k0 := beq_eq_false_iff_ne.mp K0
                                have k1 := beq_eq_false_iff_ne.mp K1
                                have k2 := eq_of_beq K2
                                simp [two_new, two_c, two_o, k0, k1, k2]
                              have HS8 := Aside0.mk ((congrArg _ e_).symm.trans HS7.out)
                              clear e_ HS7
                              go_wp2_with (first | ((with_reducible refine gate_store (p := 102) rfl ?_); refine own_store HO.out rfl (ty := 4) (x := .tmp 102) (y := .const (.bool true)) (v := .bool true) (cs' := #[.bool true, .bool n1]) rfl (by rfl) (by rfl) .head (by kernel_rfl) (by rfl) (by first | decide | (simp; done)) (by rfl) ?_; intro wc hO_; clear HO; have HO := Aside0.mk hO_; clear hO_) | ((with_reducible refine gate_store (p := 118) rfl ?_); refine own_store HO.out rfl (ty := 4) (x := .tmp 118) (y := .const (.bool true)) (v := .bool true) (cs' := ((two_set true zl i).map Value.bool).toArray) (j := i.toNat) rfl ?hx rfl (.tail (.head)) (by kernel_rfl) (by rfl) (two_in HLs.out.1 HI.out.2 HI2.out) (two_cells _ _ _) ?_; (case hx => first | rfl | (go_simp; done) | (go_simp; rfl)); intro wc hO_; have hO_ := hO_.twoz; clear HO; have HO := Aside0.mk hO_; clear hO_))
                              go_roundg 0
                              case measure => omega
                              case rel => exact ⟨2, true, n1, true, o, rfl, ⟨by have := HI3.out; omega, by omega⟩, HS8, HO⟩
                            · have e_ : two_new a0 false true true (n0, n1, z, o) = (true, n1, z, true) := by
                                have k0 := beq_eq_false_iff_ne.mp K0
                                have k1 := beq_eq_false_iff_ne.mp K1
                                have k2 := beq_eq_false_iff_ne.mp K2
                                have k3 := eq_of_beq K3
                                simp [two_new, two_c, two_o, k0, k1, k2, k3]
                              have HS8 := Aside0.mk ((congrArg _ e_).symm.trans HS7.out)
                              clear e_ HS7
                              go_wp2_with (first | ((with_reducible refine gate_store (p := 112) rfl ?_); refine own_store HO.out rfl (ty := 4) (x := .tmp 112) (y := .const (.bool true)) (v := .bool true) (cs' := #[.bool true, .bool n1]) rfl (by rfl) (by rfl) .head (by kernel_rfl) (by rfl) (by first | decide | (simp; done)) (by rfl) ?_; intro wc hO_; clear HO; have HO := Aside0.mk hO_; clear hO_) | ((with_reducible refine gate_store (p := 121) rfl ?_); refine own_store HO.out rfl (ty := 4) (x := .tmp 121) (y := .const (.bool true)) (v := .bool true) (cs' := ((two_set true ol i).map Value.bool).toArray) (j := i.toNat) rfl ?hx rfl (.tail (.tail (.head))) (by kernel_rfl) (by rfl) (two_in HLs.out.2 HI.out.2 HI2.out) (two_cells _ _ _) ?_; (case hx => first | rfl | (go_simp; done) | (go_simp; rfl)); intro wc hO_; have hO_ := hO_.twoo; clear HO; have HO := Aside0.mk hO_; clear hO_))
                              go_roundg 0
                              case measure => omega
                              case rel => exact ⟨2, true, n1, z, true, rfl, ⟨by have := HI3.out; omega, by omega⟩, HS8, HO⟩
                            · have e_ : two_new a0 false true true (n0, n1, z, o) = (true, n1, z, true) := by
                                have k0 := beq_eq_false_iff_ne.mp K0
                                have k1 := beq_eq_false_iff_ne.mp K1
                                have k2 := beq_eq_false_iff_ne.mp K2
                                have k3 := beq_eq_false_iff_ne.mp K3
                                simp [two_new, two_c, two_o, k0, k1, k2, k3]
                              have HS8 := Aside0.mk ((congrArg _ e_).symm.trans HS7.out)
                              clear e_ HS7
                              go_wp2_with (first | ((with_reducible refine gate_store (p := 73) rfl ?_); refine own_store HO.out rfl (ty := 4) (x := .tmp 73) (y := .const (.bool true)) (v := .bool true) (cs' := #[.bool true, .bool n1]) rfl (by rfl) (by rfl) .head (by kernel_rfl) (by rfl) (by first | decide | (simp; done)) (by rfl) ?_; intro wc hO_; clear HO; have HO := Aside0.mk hO_; clear hO_) | ((with_reducible refine gate_store (p := 121) rfl ?_); refine own_store HO.out rfl (ty := 4) (x := .tmp 121) (y := .const (.bool true)) (v := .bool true) (cs' := ((two_set true ol i).map Value.bool).toArray) (j := i.toNat) rfl ?hx rfl (.tail (.tail (.head))) (by kernel_rfl) (by rfl) (two_in HLs.out.2 HI.out.2 HI2.out) (two_cells _ _ _) ?_; (case hx => first | rfl | (go_simp; done) | (go_simp; rfl)); intro wc hO_; have hO_ := hO_.twoo; clear HO; have HO := Aside0.mk hO_; clear hO_))
                              go_roundg 0
                              case measure => omega
                              case rel => exact ⟨2, true, n1, z, true, rfl, ⟨by have := HI3.out; omega, by omega⟩, HS8, HO⟩
                          · obtain rfl : n = 0 := by have := HI3.out; omega
                            obtain rfl : m = 1 := by have := HI3.out; omega
                            obtain rfl : l = 1 := by have := HI3.out; omega
                            replace hcx : World.cell? _ ⟨g11, 1, none⟩ = some (.bool true) := hcx
                            replace hcy : World.cell? _ ⟨g12, 0, none⟩ = some (.bool true) := hcy
                            replace hcc : World.cell? _ ⟨g9, 0, none⟩ = some (.bool true) := hcc
                            rcases HK.out with K0 | ⟨K0, K1⟩ | ⟨K0, K1, K2⟩ | ⟨K0, K1, K2, K3⟩ | ⟨K0, K1, K2, K3⟩
                            · have e_ : two_new a0 true false false (n0, n1, z, o) = (true, n1, z, true) := by
                                have k0 := eq_of_beq K0
                                simp [two_new, two_c, two_o, k0]
                              have HS8 := Aside0.mk ((congrArg _ e_).symm.trans HS7.out)
                              clear e_ HS7
                              go_wp2_with (first | ((with_reducible refine gate_store (p := 83) rfl ?_); refine own_store HO.out rfl (ty := 4) (x := .tmp 83) (y := .const (.bool true)) (v := .bool true) (cs' := #[.bool true, .bool n1]) rfl (by rfl) (by rfl) .head (by kernel_rfl) (by rfl) (by first | decide | (simp; done)) (by rfl) ?_; intro wc hO_; clear HO; have HO := Aside0.mk hO_; clear hO_) | ((with_reducible refine gate_store (p := 121) rfl ?_); refine own_store HO.out rfl (ty := 4) (x := .tmp 121) (y := .const (.bool true)) (v := .bool true) (cs' := ((two_set true ol i).map Value.bool).toArray) (j := i.toNat) rfl ?hx rfl (.tail (.tail (.head))) (by kernel_rfl) (by rfl) (two_in HLs.out.2 HI.out.2 HI2.out) (two_cells _ _ _) ?_; (case hx => first | rfl | (go_simp; done) | (go_simp; rfl)); intro wc hO_; have hO_ := hO_.twoo; clear HO; have HO := Aside0.mk hO_; clear hO_))
                              go_roundg 1
                              case measure => omega
                              case rel => exact ⟨1, true, n1, z, true, rfl, ⟨by have := HI3.out; omega, by omega⟩, HS8, HO⟩
                            · have e_ : two_new a0 true false false (n0, n1, z, o) = (true, n1, z, true) := by
                                have k0 := beq_eq_false_iff_ne.mp K0
                                have k1 := eq_of_beq K1
                                simp [two_new, two_c, two_o, k0, k1]
                              have HS8 := Aside0.mk ((congrArg _ e_).symm.trans HS7.out)
                              clear e_ HS7
                              go_wp2_with (first | ((with_reducible refine gate_store (p := 96) rfl ?_); refine own_store HO.out rfl (ty := 4) (x := .tmp 96) (y := .const (.bool true)) (v := .bool true) (cs' := #[.bool true, .bool n1]) rfl (by rfl) (by rfl) .head (by kernel_rfl) (by rfl) (by first | decide | (simp; done)) (by rfl) ?_; intro wc hO_; clear HO; have HO := Aside0.mk hO_; clear hO_) | ((with_reducible refine gate_store (p := 121) rfl ?_); refine own_store HO.out rfl (ty := 4) (x := .tmp 121) (y := .const (.bool true)) (v := .bool true) (cs' := ((two_set true ol i).map Value.bool).toArray) (j := i.toNat) rfl ?hx rfl (.tail (.tail (.head))) (by kernel_rfl) (by rfl) (two_in HLs.out.2 HI.out.2 HI2.out) (two_cells _ _ _) ?_; (case hx => first | rfl | (go_simp; done) | (go_simp; rfl)); intro wc hO_; have hO_ := hO_.twoo; clear HO; have HO := Aside0.mk hO_; clear hO_))
                              go_roundg 1
                              case measure => omega
                              case rel => exact ⟨1, true, n1, z, true, rfl, ⟨by have := HI3.out; omega, by omega⟩, HS8, HO⟩
                            · have e_ : two_new a0 true false false (n0, n1, z, o) = (true, n1, true, o) := by
                                have k0 := beq_eq_false_iff_ne.mp K0
                                have k1 := beq_eq_false_iff_ne.mp K1
                                have k2 := eq_of_beq K2
                                simp [two_new, two_c, two_o, k0, k1, k2]
                              have HS8 := Aside0.mk ((congrArg _ e_).symm.trans HS7.out)
                              clear e_ HS7
                              go_wp2_with (first | ((with_reducible refine gate_store (p := 102) rfl ?_); refine own_store HO.out rfl (ty := 4) (x := .tmp 102) (y := .const (.bool true)) (v := .bool true) (cs' := #[.bool true, .bool n1]) rfl (by rfl) (by rfl) .head (by kernel_rfl) (by rfl) (by first | decide | (simp; done)) (by rfl) ?_; intro wc hO_; clear HO; have HO := Aside0.mk hO_; clear hO_) | ((with_reducible refine gate_store (p := 118) rfl ?_); refine own_store HO.out rfl (ty := 4) (x := .tmp 118) (y := .const (.bool true)) (v := .bool true) (cs' := ((two_set true zl i).map Value.bool).toArray) (j := i.toNat) rfl ?hx rfl (.tail (.head)) (by kernel_rfl) (by rfl) (two_in HLs.out.1 HI.out.2 HI2.out) (two_cells _ _ _) ?_; (case hx => first | rfl | (go_simp; done) | (go_simp; rfl)); intro wc hO_; have hO_ := hO_.twoz; clear HO; have HO := Aside0.mk hO_; clear hO_))
                              go_roundg 1
                              case measure => omega
                              case rel => exact ⟨1, true, n1, true, o, rfl, ⟨by have := HI3.out; omega, by omega⟩, HS8, HO⟩
                            · have e_ : two_new a0 true false false (n0, n1, z, o) = (true, n1, z, true) := by
                                have k0 := beq_eq_false_iff_ne.mp K0
                                have k1 := beq_eq_false_iff_ne.mp K1
                                have k2 := beq_eq_false_iff_ne.mp K2
                                have k3 := eq_of_beq K3
                                simp [two_new, two_c, two_o, k0, k1, k2, k3]
                              have HS8 := Aside0.mk ((congrArg _ e_).symm.trans HS7.out)
                              clear e_ HS7
                              go_wp2_with (first | ((with_reducible refine gate_store (p := 112) rfl ?_); refine own_store HO.out rfl (ty := 4) (x := .tmp 112) (y := .const (.bool true)) (v := .bool true) (cs' := #[.bool true, .bool n1]) rfl (by rfl) (by rfl) .head (by kernel_rfl) (by rfl) (by first | decide | (simp; done)) (by rfl) ?_; intro wc hO_; clear HO; have HO := Aside0.mk hO_; clear hO_) | ((with_reducible refine gate_store (p := 121) rfl ?_); refine own_store HO.out rfl (ty := 4) (x := .tmp 121) (y := .const (.bool true)) (v := .bool true) (cs' := ((two_set true ol i).map Value.bool).toArray) (j := i.toNat) rfl ?hx rfl (.tail (.tail (.head))) (by kernel_rfl) (by rfl) (two_in HLs.out.2 HI.out.2 HI2.out) (two_cells _ _ _) ?_; (case hx => first | rfl | (go_simp; done) | (go_simp; rfl)); intro wc hO_; have hO_ := hO_.twoo; clear HO; have HO := Aside0.mk hO_; clear hO_))
                              go_roundg 1
                              case measure => omega
                              case rel => exact ⟨1, true, n1, z, true, rfl, ⟨by have := HI3.out; omega, by omega⟩, HS8, HO⟩
                            · have e_ : two_new a0 true false false (n0, n1, z, o) = (true, n1, z, true) := by
                                have k0 := beq_eq_false_iff_ne.mp K0
                                have k1 := beq_eq_false_iff_ne.mp K1
                                have k2 := beq_eq_false_iff_ne.mp K2
                                have k3 := beq_eq_false_iff_ne.mp K3
                                simp [two_new, two_c, two_o, k0, k1, k2, k3]
                              have HS8 := Aside0.mk ((congrArg _ e_).symm.trans HS7.out)
                              clear e_ HS7
                              go_wp2_with (first | ((with_reducible refine gate_store (p := 73) rfl ?_); refine own_store HO.out rfl (ty := 4) (x := .tmp 73) (y := .const (.bool true)) (v := .bool true) (cs' := #[.bool true, .bool n1]) rfl (by rfl) (by rfl) .head (by kernel_rfl) (by rfl) (by first | decide | (simp; done)) (by rfl) ?_; intro wc hO_; clear HO; have HO := Aside0.mk hO_; clear hO_) | ((with_reducible refine gate_store (p := 121) rfl ?_); refine own_store HO.out rfl (ty := 4) (x := .tmp 121) (y := .const (.bool true)) (v := .bool true) (cs' := ((two_set true ol i).map Value.bool).toArray) (j := i.toNat) rfl ?hx rfl (.tail (.tail (.head))) (by kernel_rfl) (by rfl) (two_in HLs.out.2 HI.out.2 HI2.out) (two_cells _ _ _) ?_; (case hx => first | rfl | (go_simp; done) | (go_simp; rfl)); intro wc hO_; have hO_ := hO_.twoo; clear HO; have HO := Aside0.mk hO_; clear hO_))
                              go_roundg 1
                              case measure => omega
                              case rel => exact ⟨1, true, n1, z, true, rfl, ⟨by have := HI3.out; omega, by omega⟩, HS8, HO⟩
                          · obtain rfl : n = 0 := by have := HI3.out; omega
                            obtain rfl : m = 1 := by have := HI3.out; omega
                            obtain rfl : l = 0 := by have := HI3.out; omega
                            replace hcx : World.cell? _ ⟨g11, 1, none⟩ = some (.bool true) := hcx
                            replace hcy : World.cell? _ ⟨g12, 0, none⟩ = some (.bool true) := hcy
                            replace hcc : World.cell? _ ⟨g9, 1, none⟩ = some (.bool true) := hcc
                            rcases HK.out with K0 | ⟨K0, K1⟩ | ⟨K0, K1, K2⟩ | ⟨K0, K1, K2, K3⟩ | ⟨K0, K1, K2, K3⟩
                            · have e_ : two_new a0 true false true (n0, n1, z, o) = (n0, true, true, o) := by
                                have k0 := eq_of_beq K0
                                simp [two_new, two_c, two_o, k0]
                              have HS8 := Aside0.mk ((congrArg _ e_).symm.trans HS7.out)
                              clear e_ HS7
                              go_wp2_with (first | ((with_reducible refine gate_store (p := 83) rfl ?_); refine own_store HO.out rfl (ty := 4) (x := .tmp 83) (y := .const (.bool true)) (v := .bool true) (cs' := #[.bool n0, .bool true]) rfl (by rfl) (by rfl) .head (by kernel_rfl) (by rfl) (by first | decide | (simp; done)) (by rfl) ?_; intro wc hO_; clear HO; have HO := Aside0.mk hO_; clear hO_) | ((with_reducible refine gate_store (p := 118) rfl ?_); refine own_store HO.out rfl (ty := 4) (x := .tmp 118) (y := .const (.bool true)) (v := .bool true) (cs' := ((two_set true zl i).map Value.bool).toArray) (j := i.toNat) rfl ?hx rfl (.tail (.head)) (by kernel_rfl) (by rfl) (two_in HLs.out.1 HI.out.2 HI2.out) (two_cells _ _ _) ?_; (case hx => first | rfl | (go_simp; done) | (go_simp; rfl)); intro wc hO_; have hO_ := hO_.twoz; clear HO; have HO := Aside0.mk hO_; clear hO_))
                              go_roundg 0
                              case measure => omega
                              case rel => exact ⟨2, n0, true, true, o, rfl, ⟨by have := HI3.out; omega, by omega⟩, HS8, HO⟩
                            · have e_ : two_new a0 true false true (n0, n1, z, o) = (true, n1, true, o) := by
                                have k0 := beq_eq_false_iff_ne.mp K0
                                have k1 := eq_of_beq K1
                                simp [two_new, two_c, two_o, k0, k1]
                              have HS8 := Aside0.mk ((congrArg _ e_).symm.trans HS7.out)
                              clear e_ HS7
                              go_wp2_with (first | ((with_reducible refine gate_store (p := 96) rfl ?_); refine own_store HO.out rfl (ty := 4) (x := .tmp 96) (y := .const (.bool true)) (v := .bool true) (cs' := #[.bool true, .bool n1]) rfl (by rfl) (by rfl) .head (by kernel_rfl) (by rfl) (by first | decide | (simp; done)) (by rfl) ?_; intro wc hO_; clear HO; have HO := Aside0.mk hO_; clear hO_) | ((with_reducible refine gate_store (p := 118) rfl ?_); refine own_store HO.out rfl (ty := 4) (x := .tmp 118) (y := .const (.bool true)) (v := .bool true) (cs' := ((two_set true zl i).map Value.bool).toArray) (j := i.toNat) rfl ?hx rfl (.tail (.head)) (by kernel_rfl) (by rfl) (two_in HLs.out.1 HI.out.2 HI2.out) (two_cells _ _ _) ?_; (case hx => first | rfl | (go_simp; done) | (go_simp; rfl)); intro wc hO_; have hO_ := hO_.twoz; clear HO; have HO := Aside0.mk hO_; clear hO_))
                              go_roundg 0
                              case measure => omega
                              case rel => exact ⟨2, true, n1, true, o, rfl, ⟨by have := HI3.out; omega, by omega⟩, HS8, HO⟩
                            · have e_ : two_new a0 true false true (n0, n1, z, o) = (true, n1, true, o) := by
                                have k0 := beq_eq_false_iff_ne.mp K0
                                have k1 := beq_eq_false_iff_ne.mp K1
                                have k2 := eq_of_beq K2
                                simp [two_new, two_c, two_o, k0, k1, k2]
                              have HS8 := Aside0.mk ((congrArg _ e_).symm.trans HS7.out)
                              clear e_ HS7
                              go_wp2_with (first | ((with_reducible refine gate_store (p := 102) rfl ?_); refine own_store HO.out rfl (ty := 4) (x := .tmp 102) (y := .const (.bool true)) (v := .bool true) (cs' := #[.bool true, .bool n1]) rfl (by rfl) (by rfl) .head (by kernel_rfl) (by rfl) (by first | decide | (simp; done)) (by rfl) ?_; intro wc hO_; clear HO; have HO := Aside0.mk hO_; clear hO_) | ((with_reducible refine gate_store (p := 118) rfl ?_); refine own_store HO.out rfl (ty := 4) (x := .tmp 118) (y := .const (.bool true)) (v := .bool true) (cs' := ((two_set true zl i).map Value.bool).toArray) (j := i.toNat) rfl ?hx rfl (.tail (.head)) (by kernel_rfl) (by rfl) (two_in HLs.out.1 HI.out.2 HI2.out) (two_cells _ _ _) ?_; (case hx => first | rfl | (go_simp; done) | (go_simp; rfl)); intro wc hO_; have hO_ := hO_.twoz; clear HO; have HO := Aside0.mk hO_; clear hO_))
                              go_roundg 0
                              case measure => omega
                              case rel => exact ⟨2, true, n1, true, o, rfl, ⟨by have := HI3.out; omega, by omega⟩, HS8, HO⟩
                            · have e_ : two_new a0 true false true (n0, n1, z, o) = (true, n1, z, true) := by
                                have k0 := beq_eq_false_iff_ne.mp K0
                                have k1 := beq_eq_false_iff_ne.mp K1
                                have k2 := beq_eq_false_iff_ne.mp K2
                                have k3 := eq_of_beq K3
                                simp [two_new, two_c, two_o, k0, k1, k2, k3]
                              have HS8 := Aside0.mk ((congrArg _ e_).symm.trans HS7.out)
                              clear e_ HS7
                              go_wp2_with (first | ((with_reducible refine gate_store (p := 112) rfl ?_); refine own_store HO.out rfl (ty := 4) (x := .tmp 112) (y := .const (.bool true)) (v := .bool true) (cs' := #[.bool true, .bool n1]) rfl (by rfl) (by rfl) .head (by kernel_rfl) (by rfl) (by first | decide | (simp; done)) (by rfl) ?_; intro wc hO_; clear HO; have HO := Aside0.mk hO_; clear hO_) | ((with_reducible refine gate_store (p := 121) rfl ?_); refine own_store HO.out rfl (ty := 4) (x := .tmp 121) (y := .const (.bool true)) (v := .bool true) (cs' := ((two_set true ol i).map Value.bool).toArray) (j := i.toNat) rfl ?hx rfl (.tail (.tail (.head))) (by kernel_rfl) (by rfl) (two_in HLs.out.2 HI.out.2 HI2.out) (two_cells _ _ _) ?_; (case hx => first | rfl | (go_simp; done) | (go_simp; rfl)); intro wc hO_; have hO_ := hO_.twoo; clear HO; have HO := Aside0.mk hO_; clear hO_))
                              go_roundg 0
                              case measure => omega
                              case rel => exact ⟨2, true, n1, z, true, rfl, ⟨by have := HI3.out; omega, by omega⟩, HS8, HO⟩
                            · have e_ : two_new a0 true false true (n0, n1, z, o) = (true, n1, z, true) := by
                                have k0 := beq_eq_false_iff_ne.mp K0
                                have k1 := beq_eq_false_iff_ne.mp K1
                                have k2 := beq_eq_false_iff_ne.mp K2
                                have k3 := beq_eq_false_iff_ne.mp K3
                                simp [two_new, two_c, two_o, k0, k1, k2, k3]
                              have HS8 := Aside0.mk ((congrArg _ e_).symm.trans HS7.out)
                              clear e_ HS7
                              go_wp2_with (first | ((with_reducible refine gate_store (p := 73) rfl ?_); refine own_store HO.out rfl (ty := 4) (x := .tmp 73) (y := .const (.bool true)) (v := .bool true) (cs' := #[.bool true, .bool n1]) rfl (by rfl) (by rfl) .head (by kernel_rfl) (by rfl) (by first | decide | (simp; done)) (by rfl) ?_; intro wc hO_; clear HO; have HO := Aside0.mk hO_; clear hO_) | ((with_reducible refine gate_store (p := 121) rfl ?_); refine own_store HO.out rfl (ty := 4) (x := .tmp 121) (y := .const (.bool true)) (v := .bool true) (cs' := ((two_set true ol i).map Value.bool).toArray) (j := i.toNat) rfl ?hx rfl (.tail (.tail (.head))) (by kernel_rfl) (by rfl) (two_in HLs.out.2 HI.out.2 HI2.out) (two_cells _ _ _) ?_; (case hx => first | rfl | (go_simp; done) | (go_simp; rfl)); intro wc hO_; have hO_ := hO_.twoo; clear HO; have HO := Aside0.mk hO_; clear hO_))
                              go_roundg 0
                              case measure => omega
                              case rel => exact ⟨2, true, n1, z, true, rfl, ⟨by have := HI3.out; omega, by omega⟩, HS8, HO⟩
                          · obtain rfl : n = 0 := by have := HI3.out; omega
                            obtain rfl : m = 0 := by have := HI3.out; omega
                            obtain rfl : l = 1 := by have := HI3.out; omega
                            replace hcx : World.cell? _ ⟨g11, 1, none⟩ = some (.bool true) := hcx
                            replace hcy : World.cell? _ ⟨g12, 1, none⟩ = some (.bool true) := hcy
                            replace hcc : World.cell? _ ⟨g9, 0, none⟩ = some (.bool true) := hcc
                            rcases HK.out with K0 | ⟨K0, K1⟩ | ⟨K0, K1, K2⟩ | ⟨K0, K1, K2, K3⟩ | ⟨K0, K1, K2, K3⟩
                            · have e_ : two_new a0 true true false (n0, n1, z, o) = (n0, true, true, o) := by
                                have k0 := eq_of_beq K0
                                simp [two_new, two_c, two_o, k0]
                              have HS8 := Aside0.mk ((congrArg _ e_).symm.trans HS7.out)
                              clear e_ HS7
                              go_wp2_with (first | ((with_reducible refine gate_store (p := 83) rfl ?_); refine own_store HO.out rfl (ty := 4) (x := .tmp 83) (y := .const (.bool true)) (v := .bool true) (cs' := #[.bool n0, .bool true]) rfl (by rfl) (by rfl) .head (by kernel_rfl) (by rfl) (by first | decide | (simp; done)) (by rfl) ?_; intro wc hO_; clear HO; have HO := Aside0.mk hO_; clear hO_) | ((with_reducible refine gate_store (p := 118) rfl ?_); refine own_store HO.out rfl (ty := 4) (x := .tmp 118) (y := .const (.bool true)) (v := .bool true) (cs' := ((two_set true zl i).map Value.bool).toArray) (j := i.toNat) rfl ?hx rfl (.tail (.head)) (by kernel_rfl) (by rfl) (two_in HLs.out.1 HI.out.2 HI2.out) (two_cells _ _ _) ?_; (case hx => first | rfl | (go_simp; done) | (go_simp; rfl)); intro wc hO_; have hO_ := hO_.twoz; clear HO; have HO := Aside0.mk hO_; clear hO_))
                              go_roundg 1
                              case measure => omega
                              case rel => exact ⟨1, n0, true, true, o, rfl, ⟨by have := HI3.out; omega, by omega⟩, HS8, HO⟩
                            · have e_ : two_new a0 true true false (n0, n1, z, o) = (true, n1, true, o) := by
                                have k0 := beq_eq_false_iff_ne.mp K0
                                have k1 := eq_of_beq K1
                                simp [two_new, two_c, two_o, k0, k1]
                              have HS8 := Aside0.mk ((congrArg _ e_).symm.trans HS7.out)
                              clear e_ HS7
                              go_wp2_with (first | ((with_reducible refine gate_store (p := 96) rfl ?_); refine own_store HO.out rfl (ty := 4) (x := .tmp 96) (y := .const (.bool true)) (v := .bool true) (cs' := #[.bool true, .bool n1]) rfl (by rfl) (by rfl) .head (by kernel_rfl) (by rfl) (by first | decide | (simp; done)) (by rfl) ?_; intro wc hO_; clear HO; have HO := Aside0.mk hO_; clear hO_) | ((with_reducible refine gate_store (p := 118) rfl ?_); refine own_store HO.out rfl (ty := 4) (x := .tmp 118) (y := .const (.bool true)) (v := .bool true) (cs' := ((two_set true zl i).map Value.bool).toArray) (j := i.toNat) rfl ?hx rfl (.tail (.head)) (by kernel_rfl) (by rfl) (two_in HLs.out.1 HI.out.2 HI2.out) (two_cells _ _ _) ?_; (case hx => first | rfl | (go_simp; done) | (go_simp; rfl)); intro wc hO_; have hO_ := hO_.twoz; clear HO; have HO := Aside0.mk hO_; clear hO_))
                              go_roundg 1
                              case measure => omega
                              case rel => exact ⟨1, true, n1, true, o, rfl, ⟨by have := HI3.out; omega, by omega⟩, HS8, HO⟩
                            · have e_ : two_new a0 true true false (n0, n1, z, o) = (true, n1, z, true) := by
                                have k0 := beq_eq_false_iff_ne.mp K0
                                have k1 := beq_eq_false_iff_ne.mp K1
                                have k2 := eq_of_beq K2
                                simp [two_new, two_c, two_o, k0, k1, k2]
                              have HS8 := Aside0.mk ((congrArg _ e_).symm.trans HS7.out)
                              clear e_ HS7
                              go_wp2_with (first | ((with_reducible refine gate_store (p := 102) rfl ?_); refine own_store HO.out rfl (ty := 4) (x := .tmp 102) (y := .const (.bool true)) (v := .bool true) (cs' := #[.bool true, .bool n1]) rfl (by rfl) (by rfl) .head (by kernel_rfl) (by rfl) (by first | decide | (simp; done)) (by rfl) ?_; intro wc hO_; clear HO; have HO := Aside0.mk hO_; clear hO_) | ((with_reducible refine gate_store (p := 121) rfl ?_); refine own_store HO.out rfl (ty := 4) (x := .tmp 121) (y := .const (.bool true)) (v := .bool true) (cs' := ((two_set true ol i).map Value.bool).toArray) (j := i.toNat) rfl ?hx rfl (.tail (.tail (.head))) (by kernel_rfl) (by rfl) (two_in HLs.out.2 HI.out.2 HI2.out) (two_cells _ _ _) ?_; (case hx => first | rfl | (go_simp; done) | (go_simp; rfl)); intro wc hO_; have hO_ := hO_.twoo; clear HO; have HO := Aside0.mk hO_; clear hO_))
                              go_roundg 1
                              case measure => omega
                              case rel => exact ⟨1, true, n1, z, true, rfl, ⟨by have := HI3.out; omega, by omega⟩, HS8, HO⟩
                            · have e_ : two_new a0 true true false (n0, n1, z, o) = (true, n1, z, true) := by
                                have k0 := beq_eq_false_iff_ne.mp K0
                                have k1 := beq_eq_false_iff_ne.mp K1
                                have k2 := beq_eq_false_iff_ne.mp K2
                                have k3 := eq_of_beq K3
                                simp [two_new, two_c, two_o, k0, k1, k2, k3]
                              have HS8 := Aside0.mk ((congrArg _ e_).symm.trans HS7.out)
                              clear e_ HS7
                              go_wp2_with (first | ((with_reducible refine gate_store (p := 112) rfl ?_); refine own_store HO.out rfl (ty := 4) (x := .tmp 112) (y := .const (.bool true)) (v := .bool true) (cs' := #[.bool true, .bool n1]) rfl (by rfl) (by rfl) .head (by kernel_rfl) (by rfl) (by first | decide | (simp; done)) (by rfl) ?_; intro wc hO_; clear HO; have HO := Aside0.mk hO_; clear hO_) | ((with_reducible refine gate_store (p := 121) rfl ?_); refine own_store HO.out rfl (ty := 4) (x := .tmp 121) (y := .const (.bool true)) (v := .bool true) (cs' := ((two_set true ol i).map Value.bool).toArray) (j := i.toNat) rfl ?hx rfl (.tail (.tail (.head))) (by kernel_rfl) (by rfl) (two_in HLs.out.2 HI.out.2 HI2.out) (two_cells _ _ _) ?_; (case hx => first | rfl | (go_simp; done) | (go_simp; rfl)); intro wc hO_; have hO_ := hO_.twoo; clear HO; have HO := Aside0.mk hO_; clear hO_))
                              go_roundg 1
                              case measure => omega
                              case rel => exact ⟨1, true, n1, z, true, rfl, ⟨by have := HI3.out; omega, by omega⟩, HS8, HO⟩
                            · have e_ : two_new a0 true true false (n0, n1, z, o) = (true, n1, true, o) := by
                                have k0 := beq_eq_false_iff_ne.mp K0
                                have k1 := beq_eq_false_iff_ne.mp K1
                                have k2 := beq_eq_false_iff_ne.mp K2
                                have k3 := beq_eq_false_iff_ne.mp K3
                                simp [two_new, two_c, two_o, k0, k1, k2, k3]
                              have HS8 := Aside0.mk ((congrArg _ e_).symm.trans HS7.out)
                              clear e_ HS7
                              go_wp2_with (first | ((with_reducible refine gate_store (p := 73) rfl ?_); refine own_store HO.out rfl (ty := 4) (x := .tmp 73) (y := .const (.bool true)) (v := .bool true) (cs' := #[.bool true, .bool n1]) rfl (by rfl) (by rfl) .head (by kernel_rfl) (by rfl) (by first | decide | (simp; done)) (by rfl) ?_; intro wc hO_; clear HO; have HO := Aside0.mk hO_; clear hO_) | ((with_reducible refine gate_store (p := 118) rfl ?_); refine own_store HO.out rfl (ty := 4) (x := .tmp 118) (y := .const (.bool true)) (v := .bool true) (cs' := ((two_set true zl i).map Value.bool).toArray) (j := i.toNat) rfl ?hx rfl (.tail (.head)) (by kernel_rfl) (by rfl) (two_in HLs.out.1 HI.out.2 HI2.out) (two_cells _ _ _) ?_; (case hx => first | rfl | (go_simp; done) | (go_simp; rfl)); intro wc hO_; have hO_ := hO_.twoz; clear HO; have HO := Aside0.mk hO_; clear hO_))
                              go_roundg 1
                              case measure => omega
                              case rel => exact ⟨1, true, n1, true, o, rfl, ⟨by have := HI3.out; omega, by omega⟩, HS8, HO⟩
                          · obtain rfl : n = 0 := by have := HI3.out; omega
                            obtain rfl : m = 0 := by have := HI3.out; omega
                            obtain rfl : l = 0 := by have := HI3.out; omega
                            replace hcx : World.cell? _ ⟨g11, 1, none⟩ = some (.bool true) := hcx
                            replace hcy : World.cell? _ ⟨g12, 1, none⟩ = some (.bool true) := hcy
                            replace hcc : World.cell? _ ⟨g9, 1, none⟩ = some (.bool true) := hcc
                            rcases HK.out with K0 | ⟨K0, K1⟩ | ⟨K0, K1, K2⟩ | ⟨K0, K1, K2, K3⟩ | ⟨K0, K1, K2, K3⟩
                            · have e_ : two_new a0 true true true (n0, n1, z, o) = (n0, true, z, true) := by
                                have k0 := eq_of_beq K0
                                simp [two_new, two_c, two_o, k0]
                              have HS8 := Aside0.mk ((congrArg _ e_).symm.trans HS7.out)
                              clear e_ HS7
                              go_wp2_with (first | ((with_reducible refine gate_store (p := 83) rfl ?_); refine own_store HO.out rfl (ty := 4) (x := .tmp 83) (y := .const (.bool true)) (v := .bool true) (cs' := #[.bool n0, .bool true]) rfl (by rfl) (by rfl) .head (by kernel_rfl) (by rfl) (by first | decide | (simp; done)) (by rfl) ?_; intro wc hO_; clear HO; have HO := Aside0.mk hO_; clear hO_) | ((with_reducible refine gate_store (p := 121) rfl ?_); refine own_store HO.out rfl (ty := 4) (x := .tmp 121) (y := .const (.bool true)) (v := .bool true) (cs' := ((two_set true ol i).map Value.bool).toArray) (j := i.toNat) rfl ?hx rfl (.tail (.tail (.head))) (by kernel_rfl) (by rfl) (two_in HLs.out.2 HI.out.2 HI2.out) (two_cells _ _ _) ?_; (case hx => first | rfl | (go_simp; done) | (go_simp; rfl)); intro wc hO_; have hO_ := hO_.twoo; clear HO; have HO := Aside0.mk hO_; clear hO_))
                              go_roundg 0
                              case measure => omega
                              case rel => exact ⟨2, n0, true, z, true, rfl, ⟨by have := HI3.out; omega, by omega⟩, HS8, HO⟩
                            · have e_ : two_new a0 true true true (n0, n1, z, o) = (n0, true, z, true) := by
                                have k0 := beq_eq_false_iff_ne.mp K0
                                have k1 := eq_of_beq K1
                                simp [two_new, two_c, two_o, k0, k1]
                              have HS8 := Aside0.mk ((congrArg _ e_).symm.trans HS7.out)
                              clear e_ HS7
                              go_wp2_with (first | ((with_reducible refine gate_store (p := 95) rfl ?_); refine own_store HO.out rfl (ty := 4) (x := .tmp 95) (y := .const (.bool true)) (v := .bool true) (cs' := #[.bool n0, .bool true]) rfl (by rfl) (by rfl) .head (by kernel_rfl) (by rfl) (by first | decide | (simp; done)) (by rfl) ?_; intro wc hO_; clear HO; have HO := Aside0.mk hO_; clear hO_) | ((with_reducible refine gate_store (p := 121) rfl ?_); refine own_store HO.out rfl (ty := 4) (x := .tmp 121) (y := .const (.bool true)) (v := .bool true) (cs' := ((two_set true ol i).map Value.bool).toArray) (j := i.toNat) rfl ?hx rfl (.tail (.tail (.head))) (by kernel_rfl) (by rfl) (two_in HLs.out.2 HI.out.2 HI2.out) (two_cells _ _ _) ?_; (case hx => first | rfl | (go_simp; done) | (go_simp; rfl)); intro wc hO_; have hO_ := hO_.twoo; clear HO; have HO := Aside0.mk hO_; clear hO_))
                              go_roundg 0
                              case measure => omega
                              case rel => exact ⟨2, n0, true, z, true, rfl, ⟨by have := HI3.out; omega, by omega⟩, HS8, HO⟩
                            · have e_ : two_new a0 true true true (n0, n1, z, o) = (true, n1, z, true) := by
                                have k0 := beq_eq_false_iff_ne.mp K0
                                have k1 := beq_eq_false_iff_ne.mp K1
                                have k2 := eq_of_beq K2
                                simp [two_new, two_c, two_o, k0, k1, k2]
                              have HS8 := Aside0.mk ((congrArg _ e_).symm.trans HS7.out)
                              clear e_ HS7
                              go_wp2_with (first | ((with_reducible refine gate_store (p := 102) rfl ?_); refine own_store HO.out rfl (ty := 4) (x := .tmp 102) (y := .const (.bool true)) (v := .bool true) (cs' := #[.bool true, .bool n1]) rfl (by rfl) (by rfl) .head (by kernel_rfl) (by rfl) (by first | decide | (simp; done)) (by rfl) ?_; intro wc hO_; clear HO; have HO := Aside0.mk hO_; clear hO_) | ((with_reducible refine gate_store (p := 121) rfl ?_); refine own_store HO.out rfl (ty := 4) (x := .tmp 121) (y := .const (.bool true)) (v := .bool true) (cs' := ((two_set true ol i).map Value.bool).toArray) (j := i.toNat) rfl ?hx rfl (.tail (.tail (.head))) (by kernel_rfl) (by rfl) (two_in HLs.out.2 HI.out.2 HI2.out) (two_cells _ _ _) ?_; (case hx => first | rfl | (go_simp; done) | (go_simp; rfl)); intro wc hO_; have hO_ := hO_.twoo; clear HO; have HO := Aside0.mk hO_; clear hO_))
                              go_roundg 0
                              case measure => omega
                              case rel => exact ⟨2, true, n1, z, true, rfl, ⟨by have := HI3.out; omega, by omega⟩, HS8, HO⟩
                            · have e_ : two_new a0 true true true (n0, n1, z, o) = (true, n1, z, true) := by
                                have k0 := beq_eq_false_iff_ne.mp K0
                                have k1 := beq_eq_false_iff_ne.mp K1
                                have k2 := beq_eq_false_iff_ne.mp K2
                                have k3 := eq_of_beq K3
                                simp [two_new, two_c, two_o, k0, k1, k2, k3]
                              have HS8 := Aside0.mk ((congrArg _ e_).symm.trans HS7.out)
                              clear e_ HS7
                              go_wp2_with (first | ((with_reducible refine gate_store (p := 112) rfl ?_); refine own_store HO.out rfl (ty := 4) (x := .tmp 112) (y := .const (.bool true)) (v := .bool true) (cs' := #[.bool true, .bool n1]) rfl (by rfl) (by rfl) .head (by kernel_rfl) (by rfl) (by first | decide | (simp; done)) (by rfl) ?_; intro wc hO_; clear HO; have HO := Aside0.mk hO_; clear hO_) | ((with_reducible refine gate_store (p := 121) rfl ?_); refine own_store HO.out rfl (ty := 4) (x := .tmp 121) (y := .const (.bool true)) (v := .bool true) (cs' := ((two_set true ol i).map Value.bool).toArray) (j := i.toNat) rfl ?hx rfl (.tail (.tail (.head))) (by kernel_rfl) (by rfl) (two_in HLs.out.2 HI.out.2 HI2.out) (two_cells _ _ _) ?_; (case hx => first | rfl | (go_simp; done) | (go_simp; rfl)); intro wc hO_; have hO_ := hO_.twoo; clear HO; have HO := Aside0.mk hO_; clear hO_))
                              go_roundg 0
                              case measure => omega
                              case rel => exact ⟨2, true, n1, z, true, rfl, ⟨by have := HI3.out; omega, by omega⟩, HS8, HO⟩
                            · have e_ : two_new a0 true true true (n0, n1, z, o) = (true, n1, true, o) := by
                                have k0 := beq_eq_false_iff_ne.mp K0
                                have k1 := beq_eq_false_iff_ne.mp K1
                                have k2 := beq_eq_false_iff_ne.mp K2
                                have k3 := beq_eq_false_iff_ne.mp K3
                                simp [two_new, two_c, two_o, k0, k1, k2, k3]
                              have HS8 := Aside0.mk ((congrArg _ e_).symm.trans HS7.out)
                              clear e_ HS7
                              go_wp2_with (first | ((with_reducible refine gate_store (p := 73) rfl ?_); refine own_store HO.out rfl (ty := 4) (x := .tmp 73) (y := .const (.bool true)) (v := .bool true) (cs' := #[.bool true, .bool n1]) rfl (by rfl) (by rfl) .head (by kernel_rfl) (by rfl) (by first | decide | (simp; done)) (by rfl) ?_; intro wc hO_; clear HO; have HO := Aside0.mk hO_; clear hO_) | ((with_reducible refine gate_store (p := 118) rfl ?_); refine own_store HO.out rfl (ty := 4) (x := .tmp 118) (y := .const (.bool true)) (v := .bool true) (cs' := ((two_set true zl i).map Value.bool).toArray) (j := i.toNat) rfl ?hx rfl (.tail (.head)) (by kernel_rfl) (by rfl) (two_in HLs.out.1 HI.out.2 HI2.out) (two_cells _ _ _) ?_; (case hx => first | rfl | (go_simp; done) | (go_simp; rfl)); intro wc hO_; have hO_ := hO_.twoz; clear HO; have HO := Aside0.mk hO_; clear hO_))
                              go_roundg 0
                              case measure => omega
                              case rel => exact ⟨2, true, n1, true, o, rfl, ⟨by have := HI3.out; omega, by omega⟩, HS8, HO⟩


end Go.Proofs.Yteckjmejngieeaa.PTnumTwo
