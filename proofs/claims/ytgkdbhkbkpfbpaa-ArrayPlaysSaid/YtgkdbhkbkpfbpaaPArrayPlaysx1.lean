/- Functions of the program that some laws reach, as Lean functions, and proofs that the program's calls come to what they say: written by a program, for the texts that import it; each theorem bears its own conditions. -/
import Derived.Test.YtgkdbhkbkpfbpaaPArrayPlaysx0
namespace Go.Proofs.Ytgkdbhkbkpfbpaa.PArrayPlays
open Go.RowKit Go.Proofs.YtgkdbhkbkpfbpaaW.PrintWords Go.Proofs.YtgkdbhkbkpfbpaaW.PrintLast Go.Proofs.YtgkdbhkbkpfbpaaW.PrintMore
attribute [local go_sem] max2_int min2_int max_two min_two max_three min_three max_four min_four   -- for this text's walks alone
set_option linter.unusedVariables false
set_option linter.unusedSimpArgs false

/-! ### halberdlaw10_ArrayPlays: function 3 -/
open Go.Proofs.Hp Go.Proofs.Ev Go.Proofs.Ar
attribute [local go_sem] eql_slice_nil
set_option maxHeartbeats 8000000 in
set_option maxRecDepth 100000 in
theorem array_alive (w : World) : Calls Try.prog 13 #[] w fun e w' => e = .returned (.bool true) ∧ Below w.heap.size w w' := by
  have hui := Try.underlying3
  have hul := Try.underlying32
  have hu8 := Try.underlying5
  have hus := Try.underlying9
  have HO := Aside0.mk (Own.refl w)
  have HE : Aside0 (strOfNums (List.replicate 8 (0 : Int)) = (⟨#[0, 0, 0, 0, 0, 0, 0, 0]⟩ : ByteArray)) := ⟨rfl⟩
  go_enter Try.func13, Try.ntmps13
  go_wp2_with (first | ((with_reducible refine gate_callee (f := 14) rfl ?_); (with_reducible refine gate_dst (N := 6) rfl ?_); refine goesL_ (some 6) rfl rfl Try.func14 (by kernel_rfl) rfl #[.int .i64 4, .int .i64 2] rfl (by (try simp only [List.map_toArray, List.map_cons, List.map_nil]); first | done | rfl) ?_; (with_reducible refine (new_ok w _ _ 4 2 8 (by decide) (by decide) (by decide) (by decide) HO.out).mono ?_); rintro e wx ⟨ga, rfl, gb, hO_⟩; refine ⟨_, rfl, ?_⟩; clear HO; have HO := Aside0.mk hO_; clear hO_) | ((with_reducible refine gate_callee (f := 14) rfl ?_); (with_reducible refine gate_dst (N := 10) rfl ?_); refine goesL_ (some 10) rfl rfl Try.func14 (by kernel_rfl) rfl #[.int .i64 0, .int .i64 2] rfl (by (try simp only [List.map_toArray, List.map_cons, List.map_nil]); first | done | rfl) ?_; (with_reducible refine (new_bad 0 2 _ (by decide)).mono ?_); rintro e wx ⟨rfl, rfl⟩; refine ⟨_, rfl, ?_⟩; skip) | (go_at_call 22; refine (len_calls w _ [] ga gb 4 8 (List.replicate 8 (0 : Int)) 2 (by decide) (by decide) (by decide) HO.out).mono ?_; rintro e wk ⟨rfl, hO_⟩; clear HO; have HO := Aside0.mk hO_; clear hO_; dsimp only) | (go_at_call 23; refine (size_calls w _ [] ga gb 4 8 (List.replicate 8 (0 : Int)) HO.out).mono ?_; rintro e wk ⟨rfl, hO_⟩; clear HO; have HO := Aside0.mk hO_; clear hO_; dsimp only) | (go_at_call 18; refine (bytes_calls w _ [] ga gb 4 8 (List.replicate 8 (0 : Int)) (by decide) (by decide) HO.out).mono ?_; rintro e wk ⟨v2, rfl, R2, hR2, hO_⟩; have hcv := (RowOf.string (P := Try.prog) hul hu8 hus hR2 hO_).trans (congrArg (fun s => Result.ok (Value.string s) _) HE.out); clear hR2; clear HO; have HO := Aside0.mk hO_; clear hO_; dsimp only))
  go_ret
  exact ⟨rfl, HO.out.bel⟩
theorem _root_.Go.Proofs.Hp.Own.swap4 {w0 W : World} {S B R L : Hl} (h : Own w0 W (S ++ (B ++ (R ++ L)))) : Own w0 W (S ++ (R ++ (B ++ L))) := h.perm (List.Perm.append_left S (by rw [← List.append_assoc, ← List.append_assoc]; exact List.Perm.append_right _ List.perm_append_comm))
theorem _root_.Go.Proofs.Hp.Own.initial {w0 W : World} {B L : Hl} (h : Own w0 W (B ++ L)) : Own w0 W B :=
  ⟨h.bel, fun p hp => h.blk p (List.mem_append_left _ hp), fun p hp => h.fresh p (List.mem_append_left _ hp), by have := h.nd; rw [List.map_append] at this; exact (List.nodup_append.1 this).1⟩
theorem _root_.Go.Proofs.Hp.Own.last {w0 W : World} {B L : Hl} (h : Own w0 W (B ++ L)) : Own w0 W L :=
  ⟨h.bel, fun p hp => h.blk p (List.mem_append_right _ hp), fun p hp => h.fresh p (List.mem_append_right _ hp), by have := h.nd; rw [List.map_append] at this; exact (List.nodup_append.1 this).2.1⟩
theorem old_load {P : Program} {o : Oper} {a : Act} {W : World} {ty : TypeId} {x : Operand} {d : TypeDesc} (ho : o.op = .load ty x) {ad : Addr} {v : Value} (hx : a.eval x = .pointer (some ad)) (hu : P.underlying ty = some d) (hd : (match d with | .struct _ | .array _ _ => true | _ => false) = false) (hc : W.cell? ad = some v) : (execOp a.eval o).run P W = .ok (.value v) W := by
  unfold execOp
  rw [ho]
  simp only [hx, Instr.loadAt, Instr.sureAddr, Sem.run_bind, Sem.run_pure, Result.andThen_ok]
  unfold loadVar
  simp [Sem.run_bind, run_isAgg_plain hu hd, Result.andThen, hc]
/-- What a copy made in between is, and what its bytes were. -/
def CopyOf (sz : Int) (NN : Nat) (Y : Hl) (v12 v13 : Value) : Prop :=
  (v12 = .pointer none ∧ Y = [] ∧ ∃ s, v13 = .string s) ∨ (∃ gc A2 c2 R2 B0, v12 = .pointer (some ⟨gc, 0, none⟩) ∧ v13 = .string (strOfNums B0) ∧ Y = (gc, .cells #[.int .i64 sz, .slice A2 NN c2] 126 (0, 0)) :: R2 ∧ RowOf 5 1 R2 (.slice A2 NN c2) NN (B0.map (Value.int .u8)))
theorem flat_len : ∀ (D : List (List Int)) (Z : Nat), (∀ d ∈ D, d.length = Z) → D.flatten.length = D.length * Z
  | [], Z, _ => by simp
  | d :: D, Z, h => by
    rw [List.flatten_cons, List.length_append, flat_len D Z (fun x hx => h x (List.mem_cons_of_mem _ hx)), h d (List.mem_cons_self ..), List.length_cons, Nat.add_mul, Nat.one_mul, Nat.add_comm]
theorem flat_set : ∀ (D : List (List Int)) (Z : Nat), (∀ d ∈ D, d.length = Z) → ∀ (k j : Nat) (x : Int), k < D.length → j < Z → (D.set k ((D.getD k []).set j x)).flatten = D.flatten.set (k * Z + j) x
  | [], _, _, k, _, _, hk, _ => absurd hk (Nat.not_lt_zero _)
  | d :: D, Z, h, 0, j, x, _, hj => by
    have hd := h d (List.mem_cons_self ..)
    simp only [List.set_cons_zero, List.flatten_cons, List.getD_cons_zero, Nat.zero_mul, Nat.zero_add]
    rw [List.set_append, if_pos (by omega)]
  | d :: D, Z, h, k + 1, j, x, hk, hj => by
    have hd := h d (List.mem_cons_self ..)
    have ih := flat_set D Z (fun y hy => h y (List.mem_cons_of_mem _ hy)) k j x (by simpa using hk) hj
    simp only [List.set_cons_succ, List.flatten_cons, List.getD_cons_succ]
    rw [ih, List.set_append, if_neg (by rw [hd, Nat.add_mul]; omega)]
    congr 2
    rw [hd, Nat.add_mul]; omega
theorem wrote_ok {D : List (List Int)} {Z N : Nat} (k at_ x : Int) (h : D.length = N ∧ ∀ d ∈ D, d.length = Z) : (wrote D Z k at_ x).length = N ∧ ∀ d ∈ wrote D Z k at_ x, d.length = Z := by
  unfold wrote
  split
  · rename_i hc
    refine ⟨by simpa using h.1, fun d hd => ?_⟩
    rcases List.mem_or_eq_of_mem_set hd with hd | rfl
    · exact h.2 d hd
    · have hk : k.toNat < D.length := by omega
      rw [List.length_set]
      have e : D.getD k.toNat [] = D[k.toNat] := by simp [List.getD_eq_getElem?_getD, List.getElem?_eq_getElem hk]
      rw [e]
      exact h.2 _ (List.getElem_mem hk)
  · exact h
section
variable {P : Program} {ops : Array Oper} {rest : List Oper} {o : Oper} {a : Act} {Q : Exit → Act → World → Prop} {w0 W : World} {L : Hl}
/-- What is put behind a slice that has no room to spare is nowhere. -/
theorem own_append_away (HO : Own w0 W L) (hgd : o.guard = none) {s x : Operand} {t : TypeId} (ho : o.op = .call { callee := .builtin .append, args := #[s, x], argTypes := #[t, t] })
    {e : TypeId} {z : Value} {size bytes : Nat} (ht : P.underlying t = some (.slice e)) (hin : (P.info? e).map (fun i => (i.zero, i.size, i.bytes)) = some (some z, size, bytes)) (hzs : z.cells.size = size) (hsz : 0 < size)
    {b : Addr} {n : Nat} {olds : List Value} (hv : a.eval s = .slice (some b) n n) (hol : olds.length = n * size) (hold : ∀ j u, olds[j]? = some u → W.cell? (b.add j) = some u) {ad : Addr} {m c : Nat} {news : List Value} (hx : a.eval x = .slice (some ad) m c) (hnl : news.length = m * size) (hnews : ∀ j u, news[j]? = some u → W.cell? (ad.add j) = some u)
    (hm : 0 < m) (h63 : n + m ≤ maxLen) (hbytes : (n + m) * bytes ≤ 140737488355328) (h : ∀ v' w1, Own w0 w1 L → wpList P ops Q rest (a.put o.dst v') w1) : wpList P ops Q (o :: rest) a W := by
  obtain ⟨i, hi, hz, hsi, hby⟩ := info_parts hin
  obtain ⟨v', w', hrun, _, hg⟩ := run_append_arg_grows (P := P) W t o.type e i z size bytes ht hi hz hsi hby hzs hsz b n n olds hol hold ad m c news hnl hnews (by omega) h63 hbytes
  have hbel : Below W.heap.size W w' := ⟨hg.os, hg.tape, hg.output, hg.size, fun k hk => hg.block k hk (by simp)⟩
  refine Kd.event_run hgd (w1 := w') (v := v') ?_ (h v' w' (HO.below hbel))
  unfold execOp
  rw [ho]
  simp [resolve, invoke, Deferred.ofValue, builtin, hv, hx, hrun, Sem.run_bind, Result.andThen]
end
theorem _root_.Go.Proofs.Hp.Own.copied {w0 W : World} {x a b g : Nat × Obj} {R X Y : Hl} (h : Own w0 W (x :: a :: b :: (R ++ (g :: (X ++ (Y ++ [])))))) : Own w0 W (a :: b :: g :: (X ++ ((x :: R) ++ []))) := by
  have h1 : Own w0 W ([a, b] ++ ([x] ++ (R ++ (g :: (X ++ (Y ++ [])))))) := Own.swap3 (B := [x]) (R := [a, b]) (L := R ++ (g :: (X ++ (Y ++ [])))) h
  have h2 : Own w0 W ([a, b] ++ ((x :: R) ++ ((g :: X) ++ Y))) := by simpa using h1
  have h3 := Own.swap4 h2
  have h4 : Own w0 W ((a :: b :: g :: (X ++ ((x :: R) ++ []))) ++ Y) := by simpa using h3
  exact h4.initial
theorem _root_.Go.Proofs.Hp.Own.toW {w0 W : World} {a b g : Nat × Obj} {X T : Hl} (h : Own w0 W (a :: b :: g :: (X ++ T))) : Own w0 W (g :: (X ++ (a :: b :: T))) := Own.swap3 (B := [a, b]) (R := g :: X) (L := T) h
theorem _root_.Go.Proofs.Hp.Own.fromW {w0 W : World} {a b g : Nat × Obj} {X T : Hl} (h : Own w0 W (g :: (X ++ (a :: b :: T)))) : Own w0 W (a :: b :: g :: (X ++ T)) := Own.swap3 (B := g :: X) (R := [a, b]) (L := T) h
theorem _root_.Go.Proofs.Hp.Own.intail {w0 W : World} {a b g : Nat × Obj} {R X T : Hl} (h : Own w0 W (R ++ (a :: b :: g :: (X ++ T)))) : Own w0 W (a :: b :: g :: (X ++ (R ++ T))) := Own.swap3 (B := R) (R := a :: b :: g :: X) (L := T) h
theorem _root_.Go.Proofs.Hp.Own.fromW2 {w0 W : World} {a b g : Nat × Obj} {R X T : Hl} (h : Own w0 W (g :: (X ++ (R ++ (a :: b :: T))))) : Own w0 W (a :: b :: g :: (X ++ (R ++ T))) :=
  Own.fromW (Own.swap4 (S := g :: X) (B := R) (R := [a, b]) (L := T) h)
theorem _root_.Go.Proofs.Hp.Own.droptail {w0 W : World} {S R T : Hl} (h : Own w0 W (S ++ (R ++ T))) : Own w0 W (S ++ T) := (Own.swap3 h).last
theorem _root_.Go.Proofs.Hp.Own.rearr3 {w0 W : World} {a : Nat × Obj} {R R' L : Hl} (h : Own w0 W (a :: (R ++ (R' ++ L)))) : Own w0 W (R' ++ (R ++ (a :: L))) := by
  refine h.perm ?_
  refine List.Perm.trans ?_ (List.Perm.append_left R' List.perm_middle.symm)
  refine List.Perm.trans (List.Perm.cons a ?_) List.perm_middle.symm
  rw [← List.append_assoc, ← List.append_assoc]
  exact List.Perm.append_right _ List.perm_append_comm
theorem _root_.Go.Proofs.Hp.Own.behind {w0 W : World} {a b c : Nat × Obj} {X L : Hl} (h : Own w0 W (a :: b :: c :: (X ++ L))) : Own w0 W L := h.drop.drop.drop.last
theorem away_cells {W : World} {gb k Z : Nat} {B : List Int} {t : TypeId} (hb : W.heap[gb]? = some (.cells (u8s B) t (0, 0))) {j : Nat} {u : Value} (hj : (((B.drop k).take Z).map (Value.int .u8))[j]? = some u) : W.cell? ((⟨gb, k, none⟩ : Addr).add j) = some u := by
  rw [Addr.add_lit, blk_cell hb]
  simp only [List.getElem?_map, List.getElem?_take, List.getElem?_drop, Option.map_eq_some_iff] at hj
  obtain ⟨x, hx, rfl⟩ := hj
  split at hx
  · simp [u8s, hx]
  · cases hx
set_option maxHeartbeats 8000000 in
set_option maxRecDepth 100000 in
theorem array_plays_ok (Z N NN : Nat) (A2 : Option Addr) (c2 : Nat) (l2 : List S37) (a3 : Int) (w : World) (hr2 : Kd.C k37 w A2 l2.length l2) (hc2 : l2.length ≤ c2) (hz : 1 ≤ (Z : Int) ∧ (Z : Int) ≤ 32) (hn : 1 ≤ (N : Int) ∧ (N : Int) ≤ 16) (hs : (NN : Int) = (Z : Int) * (N : Int)) (hm : NN ≤ 512) (hs2 : NN = N * Z) :
    Calls Try.prog 3 #[.int .i64 (Z : Int), .int .i64 (N : Int), .slice A2 l2.length c2, .int .u8 a3] w fun e w' => e = .returned (.bool true) ∧ Below w.heap.size w w' := by
  have hui := Try.underlying3
  have hul := Try.underlying32
  have hu8 := Try.underlying5
  have hus := Try.underlying9
  have HZ := Aside0.mk hz
  have HN1 := Aside0.mk hn
  have HN : Aside0 ((0 ≤ (N : Int) ∧ (N : Int) ≤ 16) ∧ True) := ⟨⟨by omega, hn.2⟩, trivial⟩
  have HZn : Aside0 (Z ≤ 32) := ⟨by omega⟩
  have HNn : Aside0 (N ≤ 16) := ⟨by omega⟩
  have HS := Aside0.mk hs
  have HM := Aside0.mk hm
  have HF : Aside0 (u8s (List.replicate N (List.replicate Z 0)).flatten = u8s (List.replicate NN 0)) := ⟨by rw [hs2, List.flatten_replicate_replicate]⟩
  have HS2 := Aside0.mk hs2
  have HC2 := Aside0.mk hr2
  have HCc := Aside0.mk hc2
  have HO := Aside0.mk (Own.refl w)
  clear hz hn hs hm hr2 hc2 hs2
  go_enter Try.func3, Try.ntmps3
  go_wp2_with (first | ((with_reducible refine gate_callee (f := 13) rfl ?_); (with_reducible refine gate_dst (N := 17) rfl ?_); refine goesL_ (some 17) rfl rfl Try.func13 (by kernel_rfl) rfl #[] rfl (by (try simp only [List.map_toArray, List.map_cons, List.map_nil]); first | done | rfl) ?_; (with_reducible refine (array_alive _).mono ?_); rintro e wx ⟨rfl, hb⟩; refine ⟨_, rfl, ?_⟩; have hO_ := HO.out.below hb; clear hb; clear HO; have HO := Aside0.mk hO_; clear hO_) | ((with_reducible refine gate_callee (f := 14) rfl ?_); (with_reducible refine gate_dst (N := 22) rfl ?_); refine goesL_ (some 22) rfl rfl Try.func14 (by kernel_rfl) rfl #[.int .i64 (Z : Int), .int .i64 (N : Int)] rfl (by (try simp only [List.map_toArray, List.map_cons, List.map_nil]); first | done | rfl) ?_; (with_reducible refine (new_ok w _ [] (Z : Int) (N : Int) NN HZ.out HN1.out HS.out HM.out HO.out).mono ?_); rintro e wx ⟨ga, rfl, gb, hO_⟩; refine ⟨_, rfl, ?_⟩; clear HO; have HO := Aside0.mk hO_; clear hO_) | ((with_reducible refine gate_callee (f := 15) rfl ?_); (with_reducible refine gate_dst (N := 27) rfl ?_); refine goesL_ (some 27) rfl rfl Try.func15 (by kernel_rfl) rfl #[.int .i64 (Z : Int), .int .i64 (N : Int)] rfl (by (try simp only [List.map_toArray, List.map_cons, List.map_nil]); first | done | rfl) ?_; (with_reducible refine (may_yes (Z : Int) (N : Int) _ HZ.out HN1.out).mono ?_); rintro e wx ⟨rfl, rfl⟩; refine ⟨_, rfl, ?_⟩; skip) | ((with_reducible refine gate_callee (f := 16) rfl ?_); (with_reducible refine gate_dst (N := 43) rfl ?_); refine goesL_ (some 43) rfl rfl Try.func16 (by kernel_rfl) rfl #[.int .i64 (Z : Int), .int .i64 (N : Int)] rfl (by (try simp only [List.map_toArray, List.map_cons, List.map_nil]); first | done | rfl) ?_; (with_reducible refine (rnew_calls w _ _ (Z : Int) (N : Int) Z N rfl HZn.out rfl HNn.out HO.out).mono ?_); rintro e wx ⟨gw, rfl, A, c, X, hX, hO_⟩; refine ⟨_, rfl, ?_⟩; have HX0 := Aside0.mk hX; clear hX; (have hO_ : Own w wx ((gw, .cells #[.int .i64 (Z : Int), .slice A N c] 129 (0, 0)) :: (X ++ ((ga, .cells #[.int .i64 (Z : Int), .slice (some ⟨gb, 0, none⟩) NN NN] 126 (0, 0)) :: (gb, .cells (u8s (List.replicate N (List.replicate Z 0)).flatten) 5 (0, 0)) :: []))) := by rw [HF.out]; exact hO_); (have h0_ := hO_); (have h1_ : Own w wx (((gw, .cells #[.int .i64 (Z : Int), .slice A N c] 129 (0, 0)) :: X) ++ ([(ga, .cells #[.int .i64 (Z : Int), .slice (some ⟨gb, 0, none⟩) NN NN] 126 (0, 0)), (gb, .cells (u8s (List.replicate N (List.replicate Z 0)).flatten) 5 (0, 0))] ++ ([] : Hl))) := by ((try simp only [List.append_assoc, List.cons_append, List.nil_append, List.append_nil] at h0_); (try simp only [List.append_assoc, List.cons_append, List.nil_append, List.append_nil]); exact h0_)); (have h2_ := Own.swap3 (w0 := w) (B := ((gw, .cells #[.int .i64 (Z : Int), .slice A N c] 129 (0, 0)) :: X)) (R := [(ga, .cells #[.int .i64 (Z : Int), .slice (some ⟨gb, 0, none⟩) NN NN] 126 (0, 0)), (gb, .cells (u8s (List.replicate N (List.replicate Z 0)).flatten) 5 (0, 0))]) (L := ([] : Hl)) h1_); (have hO_ : Own w wx ((ga, .cells #[.int .i64 (Z : Int), .slice (some ⟨gb, 0, none⟩) NN NN] 126 (0, 0)) :: (gb, .cells (u8s (List.replicate N (List.replicate Z 0)).flatten) 5 (0, 0)) :: (gw, .cells #[.int .i64 (Z : Int), .slice A N c] 129 (0, 0)) :: (X ++ ([] ++ []))) := by ((try simp only [List.append_assoc, List.cons_append, List.nil_append, List.append_nil] at h2_); (try simp only [List.append_assoc, List.cons_append, List.nil_append, List.append_nil]); exact h2_)); clear h0_ h1_ h2_; clear HO; have HO := Aside0.mk hO_; clear hO_))
  go_loopg [12, 13, 14] 60 (fun gk v12 v13 v14 w' => ∃ (i : Nat) (D : List (List Int)) (X Y : Hl), v14 = .int .i64 (i : Int) ∧ Aside0 (i + gk = 60) ∧ Aside0 (D.length = N ∧ ∀ d ∈ D, d.length = Z) ∧ Aside0 (RefA X A c Z D) ∧ Aside0 (CopyOf (Z : Int) NN Y v12 v13) ∧ Aside0 (Own w w' ((ga, .cells #[.int .i64 (Z : Int), .slice (some ⟨gb, 0, none⟩) NN NN] 126 (0, 0)) :: (gb, .cells (u8s (D).flatten) 5 (0, 0)) :: (gw, .cells #[.int .i64 (Z : Int), .slice A N c] 129 (0, 0)) :: (X ++ (Y ++ [])))))
  case atStart =>
    refine ⟨0, List.replicate N (List.replicate Z 0), X, [], rfl, ⟨rfl⟩, ⟨by simp, fun d hd => by rw [(List.mem_replicate.1 hd).2]; simp⟩, HX0, ⟨.inl ⟨rfl, rfl, _, rfl⟩⟩, HO⟩
  case round =>
    clear HO HX0
    obtain ⟨i, D, X, Y, rfl, HI, HD, HX0, HC, HO⟩ := hrel
    have c2 : decide ((i : Int) < 60) = decide (0 < gk) := by have := HI.out; by_cases h : 0 < gk; (rw [decide_eq_true h]; exact decide_eq_true (by omega)); (rw [decide_eq_false h]; exact decide_eq_false (by omega))
    have c2n : decide (i < 60) = decide (0 < gk) := by have := HI.out; by_cases h : 0 < gk; (rw [decide_eq_true h]; exact decide_eq_true (by omega)); (rw [decide_eq_false h]; exact decide_eq_false (by omega))
    by_cases hl : i < l2.length
    · have c1 : decide ((i : Int) < (l2.length : Int)) = true := decide_eq_true (by omega)
      have c1n : decide (i < l2.length) = true := decide_eq_true hl
      cases gk with
      | zero =>
        clear hl
        rcases HC.out with ⟨rfl, rfl, s, rfl⟩ | ⟨gc, A2, c3, R2, B0, rfl, rfl, rfl, hR2⟩
        · go_wp2_with (first | ((with_reducible refine gate_callee (f := 22) rfl ?_); (with_reducible refine gate_dst (N := 167) rfl ?_); refine goesL_ (some 167) rfl rfl Try.func22 (by kernel_rfl) rfl #[.pointer (some ⟨ga, 0, none⟩)] rfl (by (try simp only [List.map_toArray, List.map_cons, List.map_nil]); first | done | rfl) ?_; (with_reducible refine (len_calls w _ ((gw, .cells #[.int .i64 (Z : Int), .slice A N c] 129 (0, 0)) :: (X ++ ([] ++ []))) ga gb (Z : Int) NN D.flatten (N : Int) HZ.out.1 HN.out.1 HS.out HO.out).mono ?_); rintro e wx ⟨rfl, hO_⟩; refine ⟨_, rfl, ?_⟩; clear HO; have HO := Aside0.mk hO_; clear hO_) | (go_at_call 23; refine (size_calls w _ ((gw, .cells #[.int .i64 (Z : Int), .slice A N c] 129 (0, 0)) :: (X ++ ([] ++ []))) ga gb (Z : Int) NN D.flatten HO.out).mono ?_; rintro e wk ⟨rfl, hO_⟩; clear HO; have HO := Aside0.mk hO_; clear hO_; dsimp only))
          go_ret
          exact ⟨rfl, HO.out.bel⟩
        · have HR2 := Aside0.mk hR2
          clear hR2
          go_wp2_with (first | ((with_reducible refine gate_callee (f := 22) rfl ?_); (with_reducible refine gate_dst (N := 167) rfl ?_); refine goesL_ (some 167) rfl rfl Try.func22 (by kernel_rfl) rfl #[.pointer (some ⟨ga, 0, none⟩)] rfl (by (try simp only [List.map_toArray, List.map_cons, List.map_nil]); first | done | rfl) ?_; (with_reducible refine (len_calls w _ ((gw, .cells #[.int .i64 (Z : Int), .slice A N c] 129 (0, 0)) :: (X ++ (((gc, .cells #[.int .i64 (Z : Int), .slice A2 NN c3] 126 (0, 0)) :: R2) ++ []))) ga gb (Z : Int) NN D.flatten (N : Int) HZ.out.1 HN.out.1 HS.out HO.out).mono ?_); rintro e wx ⟨rfl, hO_⟩; refine ⟨_, rfl, ?_⟩; clear HO; have HO := Aside0.mk hO_; clear hO_) | (go_at_call 23; refine (size_calls w _ ((gw, .cells #[.int .i64 (Z : Int), .slice A N c] 129 (0, 0)) :: (X ++ (((gc, .cells #[.int .i64 (Z : Int), .slice A2 NN c3] 126 (0, 0)) :: R2) ++ []))) ga gb (Z : Int) NN D.flatten HO.out).mono ?_; rintro e wk ⟨rfl, hO_⟩; clear HO; have HO := Aside0.mk hO_; clear hO_; have hO_ : Own w wk ((gc, .cells #[.int .i64 (Z : Int), .slice A2 NN c3] 126 (0, 0)) :: (R2 ++ [])) := Own.behind HO.out; clear HO; have HO := Aside0.mk hO_; clear hO_; dsimp only) | (go_at_call 18; refine (bytes_row w _ [] R2 gc (Z : Int) (.slice A2 NN c3) NN B0 HR2.out HM.out HO.out).mono ?_; rintro e wk ⟨v3, rfl, R3, hR3, hO_⟩; have hcv := RowOf.string (P := Try.prog) (L := R2 ++ ((gc, .cells #[.int .i64 (Z : Int), .slice A2 NN c3] 126 (0, 0)) :: [])) hul hu8 hus hR3 (Own.rearr3 hO_); have hO_ : Own w wk [] := hO_.dropAll; clear hR3; clear HO; have HO := Aside0.mk hO_; clear hO_; dsimp only))
          go_ret
          exact ⟨rfl, HO.out.bel⟩
      | succ gk =>
        obtain ⟨ad, e2, hy0, hy1, hy2⟩ := at_T37 HC2.out (i : Int) (by omega) (by omega)
        cases e2
        simp only [Int.toNat_natCast] at hy0 hy1 hy2
        generalize rd_T37 l2 (i : Int) = y at hy0 hy1 hy2
        obtain ⟨kx, ax, cx⟩ := y
        dsimp only at hy0 hy1 hy2
        have HX := Aside0.mk (And.intro hy0 (And.intro hy1 hy2))
        clear hy0 hy1 hy2
        have hx0 := (HO.out.bel.cell (World.block_lt_of_cell? w _ HX.out.1)).trans HX.out.1; have hx1 := (HO.out.bel.cell (World.block_lt_of_cell? w _ HX.out.2.1)).trans HX.out.2.1; have hx2 := (HO.out.bel.cell (World.block_lt_of_cell? w _ HX.out.2.2)).trans HX.out.2.2
        have p1 := eq_true (show 0 ≤ (i : Int) by omega)
        have q1 := eq_true (show (i : Int) < (l2.length : Int) by omega)
        have q1n := eq_true hl
        obtain ⟨j, hj⟩ : ∃ j : Int, IntKind.i64.wrap (Int.tmod a3 40) = j := ⟨_, rfl⟩
        have hj2 : wrap64 (Int.tmod a3 40) = j := (i64_w _).symm.trans hj
        have hiw : IntKind.i64.wrap ((i : Int) + 1) = ((i + 1 : Nat) : Int) := (IntWalk.i64_in _ (by have := HI.out; omega)).trans (by omega)
        have hiw2 : wrap64 ((i : Int) + 1) = ((i + 1 : Nat) : Int) := (i64_w _).symm.trans hiw
        have HB : Aside0 (D.flatten.length = NN) := ⟨by rw [flat_len D Z HD.out.2, HD.out.1, HS2.out]⟩
        have HDw := Aside0.mk (wrote_ok kx ax cx HD.out)
        by_cases hcp : ((i : Int) == j) = true
        · have c3 : ((i : Int) == j) = true := hcp
          clear hcp
          by_cases hk : 0 ≤ kx ∧ kx < (N : Int)
          · obtain ⟨k0, rfl⟩ : ∃ k0 : Nat, kx = (k0 : Int) := ⟨kx.toNat, by omega⟩
            have hkN : k0 < N := by omega
            have HK : Aside0 (0 ≤ (k0 : Int) ∧ (k0 : Int) < (N : Int)) := ⟨hk⟩
            have HKK : Aside0 (((k0 * Z : Nat) : Int) = (k0 : Int) * (Z : Int)) := ⟨by simp⟩
            have hkl : k0 * Z + Z ≤ NN := by have h1 : (k0 + 1) * Z ≤ N * Z := Nat.mul_le_mul_right Z hkN; rw [Nat.add_mul, Nat.one_mul] at h1; rw [HS2.out]; exact h1
            have HKL := Aside0.mk hkl
            have c6 : decide ((k0 : Int) < (N : Int)) = true := decide_eq_true (by omega)
            have c6n : decide (k0 < N) = true := decide_eq_true hkN
            have c5 : decide (0 ≤ (k0 : Int)) = true := decide_eq_true (by omega)
            by_cases ha : 0 ≤ ax ∧ ax < (Z : Int)
            · obtain ⟨a0, rfl⟩ : ∃ a0 : Nat, ax = (a0 : Int) := ⟨ax.toNat, by omega⟩
              have haZ : a0 < Z := by omega
              have hwr : wrote D Z (k0 : Int) (a0 : Int) cx = D.set k0 ((D.getD k0 []).set a0 cx) := if_pos (by have := HD.out.1; omega)
              have hfl : (wrote D Z (k0 : Int) (a0 : Int) cx).flatten = D.flatten.set (k0 * Z + a0) cx := by rw [hwr]; exact flat_set D Z HD.out.2 k0 a0 cx (by have := HD.out.1; omega) haZ
              have HJ : Aside0 (k0 * Z + a0 < (u8s D.flatten).size) := ⟨by rw [u8s_size, HB.out]; omega⟩
              have HCS : Aside0 ((u8s D.flatten).setIfInBounds (k0 * Z + a0) (.int .u8 cx) = u8s (wrote D Z (k0 : Int) (a0 : Int) cx).flatten) := ⟨by rw [u8s_set, hfl]⟩
              have HOL : Aside0 (((((wrote D Z (k0 : Int) (a0 : Int) cx).flatten.drop (k0 * Z)).take Z).map (Value.int .u8)).length = Z * 1) := ⟨by rw [List.length_map, List.length_take, List.length_drop, hfl, List.length_set, HB.out]; omega⟩
              have c7 : decide (0 ≤ (a0 : Int)) = true := decide_eq_true (by omega)
              have c8 : decide ((a0 : Int) < (Z : Int)) = true := decide_eq_true (by omega)
              have c8n : decide (a0 < Z) = true := decide_eq_true haZ
              have p2 := eq_true (show 0 ≤ (a0 : Int) by omega)
              have q2 := eq_true (show (a0 : Int) < (Z : Int) by omega)
              have q2n := eq_true haZ
              clear hk hkN hkl ha haZ hwr hfl
              go_wp2_with (first | ((with_reducible refine gate_callee (f := 17) rfl ?_); (with_reducible refine gate_dst (N := 60) rfl ?_); refine goesL_ (some 60) rfl rfl Try.func17 (by kernel_rfl) rfl #[.pointer (some ⟨ga, 0, none⟩)] rfl (by (try simp only [List.map_toArray, List.map_cons, List.map_nil]); first | done | rfl) ?_; (with_reducible refine (copy_calls w _ ((gw, .cells #[.int .i64 (Z : Int), .slice A N c] 129 (0, 0)) :: (X ++ (Y ++ []))) ga gb (Z : Int) NN D.flatten HB.out HM.out HO.out).mono ?_); rintro e wx ⟨gc, rfl, A3, c3, R2, hR2, hO_⟩; refine ⟨_, rfl, ?_⟩; have HR2 := Aside0.mk hR2; clear hR2; have hO_ := hO_.copied; clear HO; have HO := Aside0.mk hO_; clear hO_; (try clear hx0 hx1 hx2); have hx0 := (HO.out.bel.cell (World.block_lt_of_cell? w _ HX.out.1)).trans HX.out.1; have hx1 := (HO.out.bel.cell (World.block_lt_of_cell? w _ HX.out.2.1)).trans HX.out.2.1; have hx2 := (HO.out.bel.cell (World.block_lt_of_cell? w _ HX.out.2.2)).trans HX.out.2.2) | ((with_reducible refine gate_callee (f := 18) rfl ?_); (with_reducible refine gate_dst (N := 62) rfl ?_); refine goesL_ (some 62) rfl rfl Try.func18 (by kernel_rfl) rfl #[.pointer (some ⟨ga, 0, none⟩)] rfl (by (try simp only [List.map_toArray, List.map_cons, List.map_nil]); first | done | rfl) ?_; (with_reducible refine (bytes_calls w _ ((gw, .cells #[.int .i64 (Z : Int), .slice A N c] 129 (0, 0)) :: (X ++ (((gc, .cells #[.int .i64 (Z : Int), .slice A3 NN c3] 126 (0, 0)) :: R2) ++ []))) ga gb (Z : Int) NN D.flatten HB.out HM.out HO.out).mono ?_); rintro e wx ⟨v4, rfl, R4, hR4, hO_⟩; refine ⟨_, rfl, ?_⟩; have HR4 := Aside0.mk hR4; clear hR4; clear HO; have HO := Aside0.mk hO_; clear hO_; (try clear hx0 hx1 hx2); have hx0 := (HO.out.bel.cell (World.block_lt_of_cell? w _ HX.out.1)).trans HX.out.1; have hx1 := (HO.out.bel.cell (World.block_lt_of_cell? w _ HX.out.2.1)).trans HX.out.2.1; have hx2 := (HO.out.bel.cell (World.block_lt_of_cell? w _ HX.out.2.2)).trans HX.out.2.2) | ((with_reducible refine gate_dst (N := 63) rfl ?_); refine conv_run rfl rfl (by rfl) (RowOf.string (P := Try.prog) hul hu8 hus HR4.out HO.out) ?_; have hO_ := Own.last (B := R4) HO.out; clear HO; have HO := Aside0.mk hO_; clear hO_; (try clear hx0 hx1 hx2); have hx0 := (HO.out.bel.cell (World.block_lt_of_cell? w _ HX.out.1)).trans HX.out.1; have hx1 := (HO.out.bel.cell (World.block_lt_of_cell? w _ HX.out.2.1)).trans HX.out.2.1; have hx2 := (HO.out.bel.cell (World.block_lt_of_cell? w _ HX.out.2.2)).trans HX.out.2.2) | ((with_reducible refine gate_callee (f := 19) rfl ?_); (with_reducible refine gate_dst (N := 71) rfl ?_); refine goesL_ (some 71) rfl rfl Try.func19 (by kernel_rfl) rfl #[.pointer (some ⟨ga, 0, none⟩), .int .i64 (k0 : Int)] rfl (by (try simp only [List.map_toArray, List.map_cons, List.map_nil]); first | done | rfl) ?_; (with_reducible refine (slot_ok w _ ((gw, .cells #[.int .i64 (Z : Int), .slice A N c] 129 (0, 0)) :: (X ++ (((gc, .cells #[.int .i64 (Z : Int), .slice A3 NN c3] 126 (0, 0)) :: R2) ++ []))) ga gb (Z : Int) NN D.flatten (k0 : Int) (N : Int) HZ.out HN.out.1 HS.out (k0 * Z) Z HK.out HKK.out rfl HKL.out HM.out HO.out).mono ?_); rintro e wx ⟨rfl, hO_⟩; refine ⟨_, rfl, ?_⟩; clear HO; have HO := Aside0.mk hO_; clear hO_; (try clear hx0 hx1 hx2); have hx0 := (HO.out.bel.cell (World.block_lt_of_cell? w _ HX.out.1)).trans HX.out.1; have hx1 := (HO.out.bel.cell (World.block_lt_of_cell? w _ HX.out.2.1)).trans HX.out.2.1; have hx2 := (HO.out.bel.cell (World.block_lt_of_cell? w _ HX.out.2.2)).trans HX.out.2.2))
              refine start_ (n := 13) (S := fun W => Own w W ([])) (ds := [12]) #[false, false, false, false, false, false, false, false, false, false, false, false, false] (by kernel_rfl) rfl rfl (Own.drew (HO.out.picks (.nil))) (fun hHeld => ?_)
              have HO_ := Aside0.mk HO.out.drew
              clear HO
              have HO := HO_
              clear HO_
              generalize World.drew _ = wr at HO hHeld ⊢
              refine Hp.pu_ 0 127 (Hp.up 13 1) ?_
              refine Hp.pu_ 1 128 (Hp.up 13 2) ?_
              refine Hp.pu_ 2 129 (Hp.up 13 3) ?_
              refine Hp.pu_ 3 130 (Hp.up 13 4) ?_
              refine Hp.pu_ 4 131 (Hp.up 13 5) ?_
              refine take_ (i := 5) (N := some 132) (v := .int .i64 (a0 : Int)) (a' := ?_) (Hp.up 13 6) rfl rfl (by kernel_rfl) (fun _ _ _ h => h) (Or.inl ⟨by rfl, fun w' hS => old_load rfl (by rfl) hui rfl ((hS.bel.cell (World.block_lt_of_cell? w _ HX.out.2.1)).trans HX.out.2.1)⟩) hHeld ?_ ?_
              rotate_left
              · simp only [Act.put, List.setIfInBounds_toArray, List.set_cons_zero, List.set_cons_succ, i64_w, i32_w]
                rfl
              refine Hp.pu_ 6 133 (Hp.up 13 7) ?_
              refine Hp.pu_ 7 134 (Hp.up 13 8) ?_
              refine Hp.pu_ 8 135 (Hp.up 13 9) ?_
              refine Hp.pu_ 9 136 (Hp.up 13 10) ?_
              refine take_ (i := 10) (N := some 137) (v := .int .u8 cx) (a' := ?_) (Hp.up 13 11) rfl rfl (by kernel_rfl) (fun _ _ _ h => h) (Or.inl ⟨by rfl, fun w' hS => old_load rfl (by rfl) hu8 rfl ((hS.bel.cell (World.block_lt_of_cell? w _ HX.out.2.2)).trans HX.out.2.2)⟩) hHeld ?_ ?_
              rotate_left
              · simp only [Act.put, List.setIfInBounds_toArray, List.set_cons_zero, List.set_cons_succ, i64_w, i32_w]
                rfl
              refine Hp.pu_ 11 138 (Hp.up 13 12) ?_
              refine last_ (i := 12) (N := none) (Hp.up 13 13) rfl rfl (by kernel_rfl) (by decide) (fun K hK => ?_)
              refine own_store_k HO.out (by rfl) rfl (ty := 5) (x := .tmp 138) (y := .tmp 137) (v := .int .u8 cx) (cs' := u8s (wrote D Z (k0 : Int) (a0 : Int) cx).flatten) rfl (by rfl) (by rfl) (.tail .head) (by kernel_rfl) (by rfl) HJ.out HCS.out ?_
              intro wc hO_
              have hO_ := hO_.twof
              clear HO; have HO := Aside0.mk hO_; clear hO_; (try clear hx0 hx1 hx2); have hx0 := (HO.out.bel.cell (World.block_lt_of_cell? w _ HX.out.1)).trans HX.out.1; have hx1 := (HO.out.bel.cell (World.block_lt_of_cell? w _ HX.out.2.1)).trans HX.out.2.1; have hx2 := (HO.out.bel.cell (World.block_lt_of_cell? w _ HX.out.2.2)).trans HX.out.2.2
              refine hK.out _ _ ?_
              clear hK K
              refine done_ (by kernel_rfl) ?_
              clear hHeld
              go_wp2_with (first | ((with_reducible refine gate_dst (N := 140) rfl ?_); refine own_lit HO.out ?hg (N := 140) ?hd (cs := #[.int .u8 77]) (t := 5) (n := 1) (m := 1) ?hr ?_; (case hd => rfl); (case hg => rfl); (case hr => first | (go_simp; done) | (go_simp; rfl) | kernel_rfl); intro g140 w140 hO_; clear HO; have HO := Aside0.mk hO_; clear hO_) | ((with_reducible refine gate_dst (N := 141) rfl ?_); refine own_append_away (z := .int .u8 0) (size := 1) (bytes := 1) (b := ⟨gb, k0 * Z, none⟩) (n := Z) HO.out rfl rfl hul (by kernel_rfl) rfl (by decide) (olds := (((wrote D Z (k0 : Int) (a0 : Int) cx).flatten.drop (k0 * Z)).take Z).map (Value.int .u8)) (by rfl) HOL.out (fun j u hj => away_cells (HO.out.get (by (repeat (first | exact .head | apply Ext.tail)))) hj) (ad := ⟨g140, 0, none⟩) (m := 1) (c := 1) (news := [.int .u8 77]) (by rfl) rfl (fun j u hj => by rw [Addr.add_lit]; exact HO.out.range .head 0 [.int .u8 77] rfl j u hj) (by decide) (by have := HZn.out; show Z + 1 ≤ 9223372036854775807; omega) (by have := HZn.out; omega) ?_; intro v9 wc hO_; have hO_ := hO_.drop; clear HO; have HO := Aside0.mk hO_; clear hO_; (try clear hx0 hx1 hx2); have hx0 := (HO.out.bel.cell (World.block_lt_of_cell? w _ HX.out.1)).trans HX.out.1; have hx1 := (HO.out.bel.cell (World.block_lt_of_cell? w _ HX.out.2.1)).trans HX.out.2.1; have hx2 := (HO.out.bel.cell (World.block_lt_of_cell? w _ HX.out.2.2)).trans HX.out.2.2))
              refine start_ (n := 17) (S := fun W => Own w W ([])) (ds := [16]) #[false, false, false, false, false, false, false, false, false, false, false, false, false, false, false, false, false] (by kernel_rfl) rfl rfl (Own.drew (HO.out.picks (.nil))) (fun hHeld => ?_)
              have HO_ := Aside0.mk HO.out.drew
              clear HO
              have HO := HO_
              clear HO_
              generalize World.drew _ = wr at HO hHeld ⊢
              refine Hp.pu_ 0 142 (Hp.up 17 1) ?_
              refine Hp.pu_ 1 143 (Hp.up 17 2) ?_
              refine Hp.pu_ 2 144 (Hp.up 17 3) ?_
              refine Hp.pu_ 3 145 (Hp.up 17 4) ?_
              refine Hp.pu_ 4 146 (Hp.up 17 5) ?_
              refine take_ (i := 5) (N := some 147) (v := .int .i64 (k0 : Int)) (a' := ?_) (Hp.up 17 6) rfl rfl (by kernel_rfl) (fun _ _ _ h => h) (Or.inl ⟨by rfl, fun w' hS => old_load rfl (by rfl) hui rfl ((hS.bel.cell (World.block_lt_of_cell? w _ HX.out.1)).trans HX.out.1)⟩) hHeld ?_ ?_
              rotate_left
              · simp only [Act.put, List.setIfInBounds_toArray, List.set_cons_zero, List.set_cons_succ, i64_w, i32_w]
                rfl
              refine Hp.pu_ 6 148 (Hp.up 17 7) ?_
              refine Hp.pu_ 7 149 (Hp.up 17 8) ?_
              refine Hp.pu_ 8 150 (Hp.up 17 9) ?_
              refine Hp.pu_ 9 151 (Hp.up 17 10) ?_
              refine take_ (i := 10) (N := some 152) (v := .int .i64 (a0 : Int)) (a' := ?_) (Hp.up 17 11) rfl rfl (by kernel_rfl) (fun _ _ _ h => h) (Or.inl ⟨by rfl, fun w' hS => old_load rfl (by rfl) hui rfl ((hS.bel.cell (World.block_lt_of_cell? w _ HX.out.2.1)).trans HX.out.2.1)⟩) hHeld ?_ ?_
              rotate_left
              · simp only [Act.put, List.setIfInBounds_toArray, List.set_cons_zero, List.set_cons_succ, i64_w, i32_w]
                rfl
              refine Hp.pu_ 11 153 (Hp.up 17 12) ?_
              refine Hp.pu_ 12 154 (Hp.up 17 13) ?_
              refine Hp.pu_ 13 155 (Hp.up 17 14) ?_
              refine Hp.pu_ 14 156 (Hp.up 17 15) ?_
              refine take_ (i := 15) (N := some 157) (v := .int .u8 cx) (a' := ?_) (Hp.up 17 16) rfl rfl (by kernel_rfl) (fun _ _ _ h => h) (Or.inl ⟨by rfl, fun w' hS => old_load rfl (by rfl) hu8 rfl ((hS.bel.cell (World.block_lt_of_cell? w _ HX.out.2.2)).trans HX.out.2.2)⟩) hHeld ?_ ?_
              rotate_left
              · simp only [Act.put, List.setIfInBounds_toArray, List.set_cons_zero, List.set_cons_succ, i64_w, i32_w]
                rfl
              refine last_ (i := 16) (N := some 158) (Hp.up 17 17) rfl rfl (by kernel_rfl) (by decide) (fun K hK => ?_)
              refine goes_ Try.func20 (by kernel_rfl) rfl #[.pointer (some ⟨gw, 0, none⟩), .int .i64 (k0 : Int), .int .i64 (a0 : Int), .int .u8 cx] (by rfl) rfl rfl (by (try simp only [List.map_toArray, List.map_cons, List.map_nil]); first | done | rfl) ?_
              refine (write_calls w _ _ X gw (Z : Int) Z N A c D cx (k0 : Int) (a0 : Int) HNn.out HZn.out rfl HD.out.1 HX0.out HO.out.toW).mono ?_
              rintro e wx ⟨rfl, X2, hX2, hO_⟩
              refine ⟨_, rfl, ?_⟩
              have HX2 := Aside0.mk hX2
              clear hX2
              have hO_ := hO_.fromW
              clear HO; have HO := Aside0.mk hO_; clear hO_
              refine hK.out _ _ ?_
              clear hK K
              refine norm_ (a' := ?_) ?_ ?_
              rotate_left
              · show Act.put _ (some 158) _ = _
                simp only [Act.put, List.setIfInBounds_toArray, List.set_cons_zero, List.set_cons_succ, i64_w, i32_w]
                rfl
              refine done_ (by kernel_rfl) ?_
              clear hHeld
              obtain ⟨D1, hD1⟩ : ∃ D1, (wrote D Z (k0 : Int) (a0 : Int) cx) = D1 := ⟨_, rfl⟩
              rw [hD1] at HO HX2 HDw
              have HB1 : Aside0 (D1.flatten.length = NN) := ⟨by rw [flat_len D1 Z HDw.out.2, HDw.out.1, HS2.out]⟩
              clear hD1
              try clear hx0 hx1 hx2
              try go_wp2
              refine start_ (n := 7) (S := fun W => Own w W ([] : Hl)) (ds := []) #[false, false, false, false, false, false, false] (by kernel_rfl) rfl rfl (Own.drew (HO.out.dropAll)) (fun hHeld => ?_)
              have HO_ := Aside0.mk HO.out.drew
              clear HO
              have HO := HO_
              clear HO_
              generalize World.drew _ = wr at HO hHeld ⊢
              refine Hp.pu_ 0 159 (Hp.up 7 1) ?_
              refine Hp.pu_ 3 162 #[true, false, false, true, false, false, false] ?_
              refine join_ (σ := Value × Value) 1 (Hp.up 7 6) (fun s_ => [(160, s_.1), (161, .string (strOfNums D1.flatten)), (163, s_.2), (164, .string (strOfNums D1.flatten))]) (fun s_ w' => Own w w' ((ga, .cells #[.int .i64 (Z : Int), .slice (some ⟨gb, 0, none⟩) NN NN] 126 (0, 0)) :: (gb, .cells (u8s (D1).flatten) 5 (0, 0)) :: (gw, .cells #[.int .i64 (Z : Int), .slice A N c] 129 (0, 0)) :: (X2 ++ (((gc, .cells #[.int .i64 (Z : Int), .slice A3 NN c3] 126 (0, 0)) :: R2) ++ [])))) ?_ ?_
              rotate_left
              · intro hCont
                refine one_ (i := 1) (N := some 160) #[true, true, false, true, false, false, false] rfl rfl (by kernel_rfl) (by decide) (fun K hK => ?_)
                refine goes_ Try.func18 (by kernel_rfl) rfl #[.pointer (some ⟨ga, 0, none⟩)] (by rfl) rfl rfl (by (try simp only [List.map_toArray, List.map_cons, List.map_nil]); first | done | rfl) ?_
                refine (bytes_calls w _ ((gw, .cells #[.int .i64 (Z : Int), .slice A N c] 129 (0, 0)) :: (X2 ++ (((gc, .cells #[.int .i64 (Z : Int), .slice A3 NN c3] 126 (0, 0)) :: R2) ++ []))) ga gb (Z : Int) NN D1.flatten HB1.out HM.out HO.out).mono ?_
                rintro e wx ⟨v5, rfl, R5, hR5, hO_⟩
                refine ⟨_, rfl, ?_⟩
                have HR5 := Aside0.mk hR5
                clear hR5
                have hO_ := hO_.intail
                clear HO; have HO := Aside0.mk hO_; clear hO_
                refine hK.out _ _ (HO.out.dropAll) (fun hHeld => ?_)
                clear hK K
                refine norm_ (a' := ?_) ?_ ?_
                rotate_left
                · show Act.put _ (some 160) _ = _
                  simp only [Act.put, List.setIfInBounds_toArray, List.set_cons_zero, List.set_cons_succ, i64_w, i32_w]
                  rfl
                refine two_ (i := 2) (j := 4) (Ni := some 161) (Nj := some 163) (Hp.up 7 4) #[true, true, false, true, true, false, false] rfl rfl rfl rfl (by kernel_rfl) (by decide) (by decide) (fun K hK => ?_) (fun K hK => ?_)
                · skip
                  refine event_step (by rfl) (exec_conv rfl (by rfl) (RowOf.string (P := Try.prog) hul hu8 hus HR5.out (Own.swap3 (B := ((ga, .cells #[.int .i64 (Z : Int), .slice (some ⟨gb, 0, none⟩) NN NN] 126 (0, 0)) :: (gb, .cells (u8s (D1).flatten) 5 (0, 0)) :: (gw, .cells #[.int .i64 (Z : Int), .slice A N c] 129 (0, 0)) :: X2)) (R := R5) HO.out))) ?_
                  refine hK.out _ _ (HO.out.dropAll) (fun hHeld => ?_)
                  clear hK K
                  refine norm_ (a' := ?_) ?_ ?_
                  rotate_left
                  · show Act.put _ (some 161) _ = _
                    simp only [Act.put, List.setIfInBounds_toArray, List.set_cons_zero, List.set_cons_succ, i64_w, i32_w]
                    rfl
                  refine one_ (i := 4) (N := some 163) (Hp.up 7 5) rfl rfl (by kernel_rfl) (by decide) (fun K hK => ?_)
                  refine goes_ Try.func21 (by kernel_rfl) rfl #[.pointer (some ⟨gw, 0, none⟩)] (by rfl) rfl rfl (by (try simp only [List.map_toArray, List.map_cons, List.map_nil]); first | done | rfl) ?_
                  refine (rbytes_calls w _ ((ga, .cells #[.int .i64 (Z : Int), .slice (some ⟨gb, 0, none⟩) NN NN] 126 (0, 0)) :: (gb, .cells (u8s (D1).flatten) 5 (0, 0)) :: (R5 ++ (((gc, .cells #[.int .i64 (Z : Int), .slice A3 NN c3] 126 (0, 0)) :: R2) ++ []))) X2 gw (Z : Int) Z N A c D1 HNn.out HZn.out rfl HDw.out.1 HX2.out HO.out.toW).mono ?_
                  rintro e wx ⟨v6, rfl, R6, hR6, hO_⟩
                  refine ⟨_, rfl, ?_⟩
                  have HR6 := Aside0.mk hR6
                  clear hR6
                  have hO_ := hO_.fromW2
                  clear HO; have HO := Aside0.mk hO_; clear hO_
                  refine hK.out _ _ (HO.out.dropAll) (fun hHeld => ?_)
                  clear hK K
                  refine norm_ (a' := ?_) ?_ ?_
                  rotate_left
                  · show Act.put _ (some 163) _ = _
                    simp only [Act.put, List.setIfInBounds_toArray, List.set_cons_zero, List.set_cons_succ, i64_w, i32_w]
                    rfl
                  refine one_ (i := 5) (N := some 164) (Hp.up 7 6) rfl rfl (by kernel_rfl) (by decide) (fun K hK => ?_)
                  refine event_step (by rfl) (exec_conv rfl (by rfl) (RowOf.string (P := Try.prog) hul hu8 hus HR6.out (Own.swap3 (B := ((ga, .cells #[.int .i64 (Z : Int), .slice (some ⟨gb, 0, none⟩) NN NN] 126 (0, 0)) :: (gb, .cells (u8s (D1).flatten) 5 (0, 0)) :: (gw, .cells #[.int .i64 (Z : Int), .slice A N c] 129 (0, 0)) :: X2)) (R := R6) HO.out))) ?_
                  refine hK.out _ _ (HO.out.dropAll) (fun hHeld => ?_)
                  clear hK K
                  refine norm_ (a' := ?_) ?_ ?_
                  rotate_left
                  · show Act.put _ (some 164) _ = _
                    simp only [Act.put, List.setIfInBounds_toArray, List.set_cons_zero, List.set_cons_succ, i64_w, i32_w]
                    rfl
                  exact norm_ (by simp only [putAll, Act.put, List.setIfInBounds_toArray, List.set_cons_zero, List.set_cons_succ]) (hCont (v5, v6) _ (Own.droptail (S := ((ga, .cells #[.int .i64 (Z : Int), .slice (some ⟨gb, 0, none⟩) NN NN] 126 (0, 0)) :: (gb, .cells (u8s (D1).flatten) 5 (0, 0)) :: (gw, .cells #[.int .i64 (Z : Int), .slice A N c] 129 (0, 0)) :: X2)) (Own.droptail (S := ((ga, .cells #[.int .i64 (Z : Int), .slice (some ⟨gb, 0, none⟩) NN NN] 126 (0, 0)) :: (gb, .cells (u8s (D1).flatten) 5 (0, 0)) :: (gw, .cells #[.int .i64 (Z : Int), .slice A N c] 129 (0, 0)) :: X2)) HO.out)))
                · skip
                  refine goes_ Try.func21 (by kernel_rfl) rfl #[.pointer (some ⟨gw, 0, none⟩)] (by rfl) rfl rfl (by (try simp only [List.map_toArray, List.map_cons, List.map_nil]); first | done | rfl) ?_
                  refine (rbytes_calls w _ ((ga, .cells #[.int .i64 (Z : Int), .slice (some ⟨gb, 0, none⟩) NN NN] 126 (0, 0)) :: (gb, .cells (u8s (D1).flatten) 5 (0, 0)) :: (R5 ++ (((gc, .cells #[.int .i64 (Z : Int), .slice A3 NN c3] 126 (0, 0)) :: R2) ++ []))) X2 gw (Z : Int) Z N A c D1 HNn.out HZn.out rfl HDw.out.1 HX2.out HO.out.toW).mono ?_
                  rintro e wx ⟨v6, rfl, R6, hR6, hO_⟩
                  refine ⟨_, rfl, ?_⟩
                  have HR6 := Aside0.mk hR6
                  clear hR6
                  have hO_ := hO_.fromW2
                  clear HO; have HO := Aside0.mk hO_; clear hO_
                  refine hK.out _ _ (HO.out.dropAll) (fun hHeld => ?_)
                  clear hK K
                  refine norm_ (a' := ?_) ?_ ?_
                  rotate_left
                  · show Act.put _ (some 163) _ = _
                    simp only [Act.put, List.setIfInBounds_toArray, List.set_cons_zero, List.set_cons_succ, i64_w, i32_w]
                    rfl
                  refine two_ (i := 2) (j := 5) (Ni := some 161) (Nj := some 164) (Hp.up 7 5) #[true, true, false, true, true, true, false] rfl rfl rfl rfl (by kernel_rfl) (by decide) (by decide) (fun K hK => ?_) (fun K hK => ?_)
                  · skip
                    refine event_step (by rfl) (exec_conv rfl (by rfl) (RowOf.string (P := Try.prog) hul hu8 hus HR5.out (Own.swap3 (B := ((ga, .cells #[.int .i64 (Z : Int), .slice (some ⟨gb, 0, none⟩) NN NN] 126 (0, 0)) :: (gb, .cells (u8s (D1).flatten) 5 (0, 0)) :: (gw, .cells #[.int .i64 (Z : Int), .slice A N c] 129 (0, 0)) :: X2)) (R := R5) (Own.swap4 (S := ((ga, .cells #[.int .i64 (Z : Int), .slice (some ⟨gb, 0, none⟩) NN NN] 126 (0, 0)) :: (gb, .cells (u8s (D1).flatten) 5 (0, 0)) :: (gw, .cells #[.int .i64 (Z : Int), .slice A N c] 129 (0, 0)) :: X2)) (B := R6) (R := R5) HO.out)))) ?_
                    refine hK.out _ _ (HO.out.dropAll) (fun hHeld => ?_)
                    clear hK K
                    refine norm_ (a' := ?_) ?_ ?_
                    rotate_left
                    · show Act.put _ (some 161) _ = _
                      simp only [Act.put, List.setIfInBounds_toArray, List.set_cons_zero, List.set_cons_succ, i64_w, i32_w]
                      rfl
                    refine one_ (i := 5) (N := some 164) (Hp.up 7 6) rfl rfl (by kernel_rfl) (by decide) (fun K hK => ?_)
                    refine event_step (by rfl) (exec_conv rfl (by rfl) (RowOf.string (P := Try.prog) hul hu8 hus HR6.out (Own.swap3 (B := ((ga, .cells #[.int .i64 (Z : Int), .slice (some ⟨gb, 0, none⟩) NN NN] 126 (0, 0)) :: (gb, .cells (u8s (D1).flatten) 5 (0, 0)) :: (gw, .cells #[.int .i64 (Z : Int), .slice A N c] 129 (0, 0)) :: X2)) (R := R6) HO.out))) ?_
                    refine hK.out _ _ (HO.out.dropAll) (fun hHeld => ?_)
                    clear hK K
                    refine norm_ (a' := ?_) ?_ ?_
                    rotate_left
                    · show Act.put _ (some 164) _ = _
                      simp only [Act.put, List.setIfInBounds_toArray, List.set_cons_zero, List.set_cons_succ, i64_w, i32_w]
                      rfl
                    exact norm_ (by simp only [putAll, Act.put, List.setIfInBounds_toArray, List.set_cons_zero, List.set_cons_succ]) (hCont (v5, v6) _ (Own.droptail (S := ((ga, .cells #[.int .i64 (Z : Int), .slice (some ⟨gb, 0, none⟩) NN NN] 126 (0, 0)) :: (gb, .cells (u8s (D1).flatten) 5 (0, 0)) :: (gw, .cells #[.int .i64 (Z : Int), .slice A N c] 129 (0, 0)) :: X2)) (Own.droptail (S := ((ga, .cells #[.int .i64 (Z : Int), .slice (some ⟨gb, 0, none⟩) NN NN] 126 (0, 0)) :: (gb, .cells (u8s (D1).flatten) 5 (0, 0)) :: (gw, .cells #[.int .i64 (Z : Int), .slice A N c] 129 (0, 0)) :: X2)) HO.out)))
                  · skip
                    refine event_step (by rfl) (exec_conv rfl (by rfl) (RowOf.string (P := Try.prog) hul hu8 hus HR6.out (Own.swap3 (B := ((ga, .cells #[.int .i64 (Z : Int), .slice (some ⟨gb, 0, none⟩) NN NN] 126 (0, 0)) :: (gb, .cells (u8s (D1).flatten) 5 (0, 0)) :: (gw, .cells #[.int .i64 (Z : Int), .slice A N c] 129 (0, 0)) :: X2)) (R := R6) HO.out))) ?_
                    refine hK.out _ _ (HO.out.dropAll) (fun hHeld => ?_)
                    clear hK K
                    refine norm_ (a' := ?_) ?_ ?_
                    rotate_left
                    · show Act.put _ (some 164) _ = _
                      simp only [Act.put, List.setIfInBounds_toArray, List.set_cons_zero, List.set_cons_succ, i64_w, i32_w]
                      rfl
                    refine one_ (i := 2) (N := some 161) (Hp.up 7 6) rfl rfl (by kernel_rfl) (by decide) (fun K hK => ?_)
                    refine event_step (by rfl) (exec_conv rfl (by rfl) (RowOf.string (P := Try.prog) hul hu8 hus HR5.out (Own.swap3 (B := ((ga, .cells #[.int .i64 (Z : Int), .slice (some ⟨gb, 0, none⟩) NN NN] 126 (0, 0)) :: (gb, .cells (u8s (D1).flatten) 5 (0, 0)) :: (gw, .cells #[.int .i64 (Z : Int), .slice A N c] 129 (0, 0)) :: X2)) (R := R5) (Own.swap4 (S := ((ga, .cells #[.int .i64 (Z : Int), .slice (some ⟨gb, 0, none⟩) NN NN] 126 (0, 0)) :: (gb, .cells (u8s (D1).flatten) 5 (0, 0)) :: (gw, .cells #[.int .i64 (Z : Int), .slice A N c] 129 (0, 0)) :: X2)) (B := R6) (R := R5) HO.out)))) ?_
                    refine hK.out _ _ (HO.out.dropAll) (fun hHeld => ?_)
                    clear hK K
                    refine norm_ (a' := ?_) ?_ ?_
                    rotate_left
                    · show Act.put _ (some 161) _ = _
                      simp only [Act.put, List.setIfInBounds_toArray, List.set_cons_zero, List.set_cons_succ, i64_w, i32_w]
                      rfl
                    exact norm_ (by simp only [putAll, Act.put, List.setIfInBounds_toArray, List.set_cons_zero, List.set_cons_succ]) (hCont (v5, v6) _ (Own.droptail (S := ((ga, .cells #[.int .i64 (Z : Int), .slice (some ⟨gb, 0, none⟩) NN NN] 126 (0, 0)) :: (gb, .cells (u8s (D1).flatten) 5 (0, 0)) :: (gw, .cells #[.int .i64 (Z : Int), .slice A N c] 129 (0, 0)) :: X2)) (Own.droptail (S := ((ga, .cells #[.int .i64 (Z : Int), .slice (some ⟨gb, 0, none⟩) NN NN] 126 (0, 0)) :: (gb, .cells (u8s (D1).flatten) 5 (0, 0)) :: (gw, .cells #[.int .i64 (Z : Int), .slice A N c] 129 (0, 0)) :: X2)) HO.out)))
              rintro ⟨v5, v6⟩ wj hO_
              clear HO
              have HO := Aside0.mk hO_
              have hHeld := HO.out.dropAll
              clear hO_
              refine norm_ (a' := ?_) ?_ ?_
              rotate_left
              · simp only [putAll, Act.put, List.setIfInBounds_toArray, List.set_cons_zero, List.set_cons_succ]
                rfl
              refine Hp.pu_ 6 165 (Hp.up 7 7) ?_
              refine done_ (by kernel_rfl) ?_
              clear hHeld
              go_wp2
              go_roundg gk
              case measure => omega
              case rel => exact ⟨i + 1, D1, X2, ((gc, .cells #[.int .i64 (Z : Int), .slice A3 NN c3] 126 (0, 0)) :: R2), rfl, ⟨by have := HI.out; omega⟩, HDw, HX2, ⟨.inr ⟨gc, A3, c3, R2, D.flatten, rfl, rfl, rfl, HR2.out⟩⟩, HO⟩
            · have HW : Aside0 (wrote D Z (k0 : Int) ax cx = D) := ⟨if_neg (by omega)⟩
              have HOL : Aside0 ((((D.flatten.drop (k0 * Z)).take Z).map (Value.int .u8)).length = Z * 1) := ⟨by rw [List.length_map, List.length_take, List.length_drop, HB.out]; omega⟩
              by_cases ha0 : 0 ≤ ax
              · have c7 : decide (0 ≤ ax) = true := decide_eq_true ha0
                have c8 : decide (ax < (Z : Int)) = false := decide_eq_false (by omega)
                clear hk hkN hkl ha ha0
                go_wp2_with (first | ((with_reducible refine gate_callee (f := 17) rfl ?_); (with_reducible refine gate_dst (N := 60) rfl ?_); refine goesL_ (some 60) rfl rfl Try.func17 (by kernel_rfl) rfl #[.pointer (some ⟨ga, 0, none⟩)] rfl (by (try simp only [List.map_toArray, List.map_cons, List.map_nil]); first | done | rfl) ?_; (with_reducible refine (copy_calls w _ ((gw, .cells #[.int .i64 (Z : Int), .slice A N c] 129 (0, 0)) :: (X ++ (Y ++ []))) ga gb (Z : Int) NN D.flatten HB.out HM.out HO.out).mono ?_); rintro e wx ⟨gc, rfl, A3, c3, R2, hR2, hO_⟩; refine ⟨_, rfl, ?_⟩; have HR2 := Aside0.mk hR2; clear hR2; have hO_ := hO_.copied; clear HO; have HO := Aside0.mk hO_; clear hO_; (try clear hx0 hx1 hx2); have hx0 := (HO.out.bel.cell (World.block_lt_of_cell? w _ HX.out.1)).trans HX.out.1; have hx1 := (HO.out.bel.cell (World.block_lt_of_cell? w _ HX.out.2.1)).trans HX.out.2.1; have hx2 := (HO.out.bel.cell (World.block_lt_of_cell? w _ HX.out.2.2)).trans HX.out.2.2) | ((with_reducible refine gate_callee (f := 18) rfl ?_); (with_reducible refine gate_dst (N := 62) rfl ?_); refine goesL_ (some 62) rfl rfl Try.func18 (by kernel_rfl) rfl #[.pointer (some ⟨ga, 0, none⟩)] rfl (by (try simp only [List.map_toArray, List.map_cons, List.map_nil]); first | done | rfl) ?_; (with_reducible refine (bytes_calls w _ ((gw, .cells #[.int .i64 (Z : Int), .slice A N c] 129 (0, 0)) :: (X ++ (((gc, .cells #[.int .i64 (Z : Int), .slice A3 NN c3] 126 (0, 0)) :: R2) ++ []))) ga gb (Z : Int) NN D.flatten HB.out HM.out HO.out).mono ?_); rintro e wx ⟨v4, rfl, R4, hR4, hO_⟩; refine ⟨_, rfl, ?_⟩; have HR4 := Aside0.mk hR4; clear hR4; clear HO; have HO := Aside0.mk hO_; clear hO_; (try clear hx0 hx1 hx2); have hx0 := (HO.out.bel.cell (World.block_lt_of_cell? w _ HX.out.1)).trans HX.out.1; have hx1 := (HO.out.bel.cell (World.block_lt_of_cell? w _ HX.out.2.1)).trans HX.out.2.1; have hx2 := (HO.out.bel.cell (World.block_lt_of_cell? w _ HX.out.2.2)).trans HX.out.2.2) | ((with_reducible refine gate_dst (N := 63) rfl ?_); refine conv_run rfl rfl (by rfl) (RowOf.string (P := Try.prog) hul hu8 hus HR4.out HO.out) ?_; have hO_ := Own.last (B := R4) HO.out; clear HO; have HO := Aside0.mk hO_; clear hO_; (try clear hx0 hx1 hx2); have hx0 := (HO.out.bel.cell (World.block_lt_of_cell? w _ HX.out.1)).trans HX.out.1; have hx1 := (HO.out.bel.cell (World.block_lt_of_cell? w _ HX.out.2.1)).trans HX.out.2.1; have hx2 := (HO.out.bel.cell (World.block_lt_of_cell? w _ HX.out.2.2)).trans HX.out.2.2) | ((with_reducible refine gate_callee (f := 19) rfl ?_); (with_reducible refine gate_dst (N := 71) rfl ?_); refine goesL_ (some 71) rfl rfl Try.func19 (by kernel_rfl) rfl #[.pointer (some ⟨ga, 0, none⟩), .int .i64 (k0 : Int)] rfl (by (try simp only [List.map_toArray, List.map_cons, List.map_nil]); first | done | rfl) ?_; (with_reducible refine (slot_ok w _ ((gw, .cells #[.int .i64 (Z : Int), .slice A N c] 129 (0, 0)) :: (X ++ (((gc, .cells #[.int .i64 (Z : Int), .slice A3 NN c3] 126 (0, 0)) :: R2) ++ []))) ga gb (Z : Int) NN D.flatten (k0 : Int) (N : Int) HZ.out HN.out.1 HS.out (k0 * Z) Z HK.out HKK.out rfl HKL.out HM.out HO.out).mono ?_); rintro e wx ⟨rfl, hO_⟩; refine ⟨_, rfl, ?_⟩; clear HO; have HO := Aside0.mk hO_; clear hO_; (try clear hx0 hx1 hx2); have hx0 := (HO.out.bel.cell (World.block_lt_of_cell? w _ HX.out.1)).trans HX.out.1; have hx1 := (HO.out.bel.cell (World.block_lt_of_cell? w _ HX.out.2.1)).trans HX.out.2.1; have hx2 := (HO.out.bel.cell (World.block_lt_of_cell? w _ HX.out.2.2)).trans HX.out.2.2) | ((with_reducible refine gate_dst (N := 140) rfl ?_); refine own_lit HO.out ?hg (N := 140) ?hd (cs := #[.int .u8 77]) (t := 5) (n := 1) (m := 1) ?hr ?_; (case hd => rfl); (case hg => rfl); (case hr => first | (go_simp; done) | (go_simp; rfl) | kernel_rfl); intro g140 w140 hO_; clear HO; have HO := Aside0.mk hO_; clear hO_) | ((with_reducible refine gate_dst (N := 141) rfl ?_); refine own_append_away (z := .int .u8 0) (size := 1) (bytes := 1) (b := ⟨gb, k0 * Z, none⟩) (n := Z) HO.out rfl rfl hul (by kernel_rfl) rfl (by decide) (olds := ((D.flatten.drop (k0 * Z)).take Z).map (Value.int .u8)) (by rfl) HOL.out (fun j u hj => away_cells (HO.out.get (by (repeat (first | exact .head | apply Ext.tail)))) hj) (ad := ⟨g140, 0, none⟩) (m := 1) (c := 1) (news := [.int .u8 77]) (by rfl) rfl (fun j u hj => by rw [Addr.add_lit]; exact HO.out.range .head 0 [.int .u8 77] rfl j u hj) (by decide) (by have := HZn.out; show Z + 1 ≤ 9223372036854775807; omega) (by have := HZn.out; omega) ?_; intro v9 wc hO_; have hO_ := hO_.drop; clear HO; have HO := Aside0.mk hO_; clear hO_; (try clear hx0 hx1 hx2); have hx0 := (HO.out.bel.cell (World.block_lt_of_cell? w _ HX.out.1)).trans HX.out.1; have hx1 := (HO.out.bel.cell (World.block_lt_of_cell? w _ HX.out.2.1)).trans HX.out.2.1; have hx2 := (HO.out.bel.cell (World.block_lt_of_cell? w _ HX.out.2.2)).trans HX.out.2.2))
                have hO_ := HO.out
                rw [← HW.out] at hO_
                clear HO; have HO := Aside0.mk hO_; clear hO_; (try clear hx0 hx1 hx2); have hx0 := (HO.out.bel.cell (World.block_lt_of_cell? w _ HX.out.1)).trans HX.out.1; have hx1 := (HO.out.bel.cell (World.block_lt_of_cell? w _ HX.out.2.1)).trans HX.out.2.1; have hx2 := (HO.out.bel.cell (World.block_lt_of_cell? w _ HX.out.2.2)).trans HX.out.2.2
                refine start_ (n := 17) (S := fun W => Own w W ([])) (ds := [16]) #[false, false, false, false, false, false, false, false, false, false, false, false, false, false, false, false, false] (by kernel_rfl) rfl rfl (Own.drew (HO.out.picks (.nil))) (fun hHeld => ?_)
                have HO_ := Aside0.mk HO.out.drew
                clear HO
                have HO := HO_
                clear HO_
                generalize World.drew _ = wr at HO hHeld ⊢
                refine Hp.pu_ 0 142 (Hp.up 17 1) ?_
                refine Hp.pu_ 1 143 (Hp.up 17 2) ?_
                refine Hp.pu_ 2 144 (Hp.up 17 3) ?_
                refine Hp.pu_ 3 145 (Hp.up 17 4) ?_
                refine Hp.pu_ 4 146 (Hp.up 17 5) ?_
                refine take_ (i := 5) (N := some 147) (v := .int .i64 (k0 : Int)) (a' := ?_) (Hp.up 17 6) rfl rfl (by kernel_rfl) (fun _ _ _ h => h) (Or.inl ⟨by rfl, fun w' hS => old_load rfl (by rfl) hui rfl ((hS.bel.cell (World.block_lt_of_cell? w _ HX.out.1)).trans HX.out.1)⟩) hHeld ?_ ?_
                rotate_left
                · simp only [Act.put, List.setIfInBounds_toArray, List.set_cons_zero, List.set_cons_succ, i64_w, i32_w]
                  rfl
                refine Hp.pu_ 6 148 (Hp.up 17 7) ?_
                refine Hp.pu_ 7 149 (Hp.up 17 8) ?_
                refine Hp.pu_ 8 150 (Hp.up 17 9) ?_
                refine Hp.pu_ 9 151 (Hp.up 17 10) ?_
                refine take_ (i := 10) (N := some 152) (v := .int .i64 ax) (a' := ?_) (Hp.up 17 11) rfl rfl (by kernel_rfl) (fun _ _ _ h => h) (Or.inl ⟨by rfl, fun w' hS => old_load rfl (by rfl) hui rfl ((hS.bel.cell (World.block_lt_of_cell? w _ HX.out.2.1)).trans HX.out.2.1)⟩) hHeld ?_ ?_
                rotate_left
                · simp only [Act.put, List.setIfInBounds_toArray, List.set_cons_zero, List.set_cons_succ, i64_w, i32_w]
                  rfl
                refine Hp.pu_ 11 153 (Hp.up 17 12) ?_
                refine Hp.pu_ 12 154 (Hp.up 17 13) ?_
                refine Hp.pu_ 13 155 (Hp.up 17 14) ?_
                refine Hp.pu_ 14 156 (Hp.up 17 15) ?_
                refine take_ (i := 15) (N := some 157) (v := .int .u8 cx) (a' := ?_) (Hp.up 17 16) rfl rfl (by kernel_rfl) (fun _ _ _ h => h) (Or.inl ⟨by rfl, fun w' hS => old_load rfl (by rfl) hu8 rfl ((hS.bel.cell (World.block_lt_of_cell? w _ HX.out.2.2)).trans HX.out.2.2)⟩) hHeld ?_ ?_
                rotate_left
                · simp only [Act.put, List.setIfInBounds_toArray, List.set_cons_zero, List.set_cons_succ, i64_w, i32_w]
                  rfl
                refine last_ (i := 16) (N := some 158) (Hp.up 17 17) rfl rfl (by kernel_rfl) (by decide) (fun K hK => ?_)
                refine goes_ Try.func20 (by kernel_rfl) rfl #[.pointer (some ⟨gw, 0, none⟩), .int .i64 (k0 : Int), .int .i64 ax, .int .u8 cx] (by rfl) rfl rfl (by (try simp only [List.map_toArray, List.map_cons, List.map_nil]); first | done | rfl) ?_
                refine (write_calls w _ _ X gw (Z : Int) Z N A c D cx (k0 : Int) ax HNn.out HZn.out rfl HD.out.1 HX0.out HO.out.toW).mono ?_
                rintro e wx ⟨rfl, X2, hX2, hO_⟩
                refine ⟨_, rfl, ?_⟩
                have HX2 := Aside0.mk hX2
                clear hX2
                have hO_ := hO_.fromW
                clear HO; have HO := Aside0.mk hO_; clear hO_
                refine hK.out _ _ ?_
                clear hK K
                refine norm_ (a' := ?_) ?_ ?_
                rotate_left
                · show Act.put _ (some 158) _ = _
                  simp only [Act.put, List.setIfInBounds_toArray, List.set_cons_zero, List.set_cons_succ, i64_w, i32_w]
                  rfl
                refine done_ (by kernel_rfl) ?_
                clear hHeld
                obtain ⟨D1, hD1⟩ : ∃ D1, (wrote D Z (k0 : Int) ax cx) = D1 := ⟨_, rfl⟩
                rw [hD1] at HO HX2 HDw
                have HB1 : Aside0 (D1.flatten.length = NN) := ⟨by rw [flat_len D1 Z HDw.out.2, HDw.out.1, HS2.out]⟩
                clear hD1
                try clear hx0 hx1 hx2
                try go_wp2
                refine start_ (n := 7) (S := fun W => Own w W ([] : Hl)) (ds := []) #[false, false, false, false, false, false, false] (by kernel_rfl) rfl rfl (Own.drew (HO.out.dropAll)) (fun hHeld => ?_)
                have HO_ := Aside0.mk HO.out.drew
                clear HO
                have HO := HO_
                clear HO_
                generalize World.drew _ = wr at HO hHeld ⊢
                refine Hp.pu_ 0 159 (Hp.up 7 1) ?_
                refine Hp.pu_ 3 162 #[true, false, false, true, false, false, false] ?_
                refine join_ (σ := Value × Value) 1 (Hp.up 7 6) (fun s_ => [(160, s_.1), (161, .string (strOfNums D1.flatten)), (163, s_.2), (164, .string (strOfNums D1.flatten))]) (fun s_ w' => Own w w' ((ga, .cells #[.int .i64 (Z : Int), .slice (some ⟨gb, 0, none⟩) NN NN] 126 (0, 0)) :: (gb, .cells (u8s (D1).flatten) 5 (0, 0)) :: (gw, .cells #[.int .i64 (Z : Int), .slice A N c] 129 (0, 0)) :: (X2 ++ (((gc, .cells #[.int .i64 (Z : Int), .slice A3 NN c3] 126 (0, 0)) :: R2) ++ [])))) ?_ ?_
                rotate_left
                · intro hCont
                  refine one_ (i := 1) (N := some 160) #[true, true, false, true, false, false, false] rfl rfl (by kernel_rfl) (by decide) (fun K hK => ?_)
                  refine goes_ Try.func18 (by kernel_rfl) rfl #[.pointer (some ⟨ga, 0, none⟩)] (by rfl) rfl rfl (by (try simp only [List.map_toArray, List.map_cons, List.map_nil]); first | done | rfl) ?_
                  refine (bytes_calls w _ ((gw, .cells #[.int .i64 (Z : Int), .slice A N c] 129 (0, 0)) :: (X2 ++ (((gc, .cells #[.int .i64 (Z : Int), .slice A3 NN c3] 126 (0, 0)) :: R2) ++ []))) ga gb (Z : Int) NN D1.flatten HB1.out HM.out HO.out).mono ?_
                  rintro e wx ⟨v5, rfl, R5, hR5, hO_⟩
                  refine ⟨_, rfl, ?_⟩
                  have HR5 := Aside0.mk hR5
                  clear hR5
                  have hO_ := hO_.intail
                  clear HO; have HO := Aside0.mk hO_; clear hO_
                  refine hK.out _ _ (HO.out.dropAll) (fun hHeld => ?_)
                  clear hK K
                  refine norm_ (a' := ?_) ?_ ?_
                  rotate_left
                  · show Act.put _ (some 160) _ = _
                    simp only [Act.put, List.setIfInBounds_toArray, List.set_cons_zero, List.set_cons_succ, i64_w, i32_w]
                    rfl
                  refine two_ (i := 2) (j := 4) (Ni := some 161) (Nj := some 163) (Hp.up 7 4) #[true, true, false, true, true, false, false] rfl rfl rfl rfl (by kernel_rfl) (by decide) (by decide) (fun K hK => ?_) (fun K hK => ?_)
                  · skip
                    refine event_step (by rfl) (exec_conv rfl (by rfl) (RowOf.string (P := Try.prog) hul hu8 hus HR5.out (Own.swap3 (B := ((ga, .cells #[.int .i64 (Z : Int), .slice (some ⟨gb, 0, none⟩) NN NN] 126 (0, 0)) :: (gb, .cells (u8s (D1).flatten) 5 (0, 0)) :: (gw, .cells #[.int .i64 (Z : Int), .slice A N c] 129 (0, 0)) :: X2)) (R := R5) HO.out))) ?_
                    refine hK.out _ _ (HO.out.dropAll) (fun hHeld => ?_)
                    clear hK K
                    refine norm_ (a' := ?_) ?_ ?_
                    rotate_left
                    · show Act.put _ (some 161) _ = _
                      simp only [Act.put, List.setIfInBounds_toArray, List.set_cons_zero, List.set_cons_succ, i64_w, i32_w]
                      rfl
                    refine one_ (i := 4) (N := some 163) (Hp.up 7 5) rfl rfl (by kernel_rfl) (by decide) (fun K hK => ?_)
                    refine goes_ Try.func21 (by kernel_rfl) rfl #[.pointer (some ⟨gw, 0, none⟩)] (by rfl) rfl rfl (by (try simp only [List.map_toArray, List.map_cons, List.map_nil]); first | done | rfl) ?_
                    refine (rbytes_calls w _ ((ga, .cells #[.int .i64 (Z : Int), .slice (some ⟨gb, 0, none⟩) NN NN] 126 (0, 0)) :: (gb, .cells (u8s (D1).flatten) 5 (0, 0)) :: (R5 ++ (((gc, .cells #[.int .i64 (Z : Int), .slice A3 NN c3] 126 (0, 0)) :: R2) ++ []))) X2 gw (Z : Int) Z N A c D1 HNn.out HZn.out rfl HDw.out.1 HX2.out HO.out.toW).mono ?_
                    rintro e wx ⟨v6, rfl, R6, hR6, hO_⟩
                    refine ⟨_, rfl, ?_⟩
                    have HR6 := Aside0.mk hR6
                    clear hR6
                    have hO_ := hO_.fromW2
                    clear HO; have HO := Aside0.mk hO_; clear hO_
                    refine hK.out _ _ (HO.out.dropAll) (fun hHeld => ?_)
                    clear hK K
                    refine norm_ (a' := ?_) ?_ ?_
                    rotate_left
                    · show Act.put _ (some 163) _ = _
                      simp only [Act.put, List.setIfInBounds_toArray, List.set_cons_zero, List.set_cons_succ, i64_w, i32_w]
                      rfl
                    refine one_ (i := 5) (N := some 164) (Hp.up 7 6) rfl rfl (by kernel_rfl) (by decide) (fun K hK => ?_)
                    refine event_step (by rfl) (exec_conv rfl (by rfl) (RowOf.string (P := Try.prog) hul hu8 hus HR6.out (Own.swap3 (B := ((ga, .cells #[.int .i64 (Z : Int), .slice (some ⟨gb, 0, none⟩) NN NN] 126 (0, 0)) :: (gb, .cells (u8s (D1).flatten) 5 (0, 0)) :: (gw, .cells #[.int .i64 (Z : Int), .slice A N c] 129 (0, 0)) :: X2)) (R := R6) HO.out))) ?_
                    refine hK.out _ _ (HO.out.dropAll) (fun hHeld => ?_)
                    clear hK K
                    refine norm_ (a' := ?_) ?_ ?_
                    rotate_left
                    · show Act.put _ (some 164) _ = _
                      simp only [Act.put, List.setIfInBounds_toArray, List.set_cons_zero, List.set_cons_succ, i64_w, i32_w]
                      rfl
                    exact norm_ (by simp only [putAll, Act.put, List.setIfInBounds_toArray, List.set_cons_zero, List.set_cons_succ]) (hCont (v5, v6) _ (Own.droptail (S := ((ga, .cells #[.int .i64 (Z : Int), .slice (some ⟨gb, 0, none⟩) NN NN] 126 (0, 0)) :: (gb, .cells (u8s (D1).flatten) 5 (0, 0)) :: (gw, .cells #[.int .i64 (Z : Int), .slice A N c] 129 (0, 0)) :: X2)) (Own.droptail (S := ((ga, .cells #[.int .i64 (Z : Int), .slice (some ⟨gb, 0, none⟩) NN NN] 126 (0, 0)) :: (gb, .cells (u8s (D1).flatten) 5 (0, 0)) :: (gw, .cells #[.int .i64 (Z : Int), .slice A N c] 129 (0, 0)) :: X2)) HO.out)))
                  · skip
                    refine goes_ Try.func21 (by kernel_rfl) rfl #[.pointer (some ⟨gw, 0, none⟩)] (by rfl) rfl rfl (by (try simp only [List.map_toArray, List.map_cons, List.map_nil]); first | done | rfl) ?_
                    refine (rbytes_calls w _ ((ga, .cells #[.int .i64 (Z : Int), .slice (some ⟨gb, 0, none⟩) NN NN] 126 (0, 0)) :: (gb, .cells (u8s (D1).flatten) 5 (0, 0)) :: (R5 ++ (((gc, .cells #[.int .i64 (Z : Int), .slice A3 NN c3] 126 (0, 0)) :: R2) ++ []))) X2 gw (Z : Int) Z N A c D1 HNn.out HZn.out rfl HDw.out.1 HX2.out HO.out.toW).mono ?_
                    rintro e wx ⟨v6, rfl, R6, hR6, hO_⟩
                    refine ⟨_, rfl, ?_⟩
                    have HR6 := Aside0.mk hR6
                    clear hR6
                    have hO_ := hO_.fromW2
                    clear HO; have HO := Aside0.mk hO_; clear hO_
                    refine hK.out _ _ (HO.out.dropAll) (fun hHeld => ?_)
                    clear hK K
                    refine norm_ (a' := ?_) ?_ ?_
                    rotate_left
                    · show Act.put _ (some 163) _ = _
                      simp only [Act.put, List.setIfInBounds_toArray, List.set_cons_zero, List.set_cons_succ, i64_w, i32_w]
                      rfl
                    refine two_ (i := 2) (j := 5) (Ni := some 161) (Nj := some 164) (Hp.up 7 5) #[true, true, false, true, true, true, false] rfl rfl rfl rfl (by kernel_rfl) (by decide) (by decide) (fun K hK => ?_) (fun K hK => ?_)
                    · skip
                      refine event_step (by rfl) (exec_conv rfl (by rfl) (RowOf.string (P := Try.prog) hul hu8 hus HR5.out (Own.swap3 (B := ((ga, .cells #[.int .i64 (Z : Int), .slice (some ⟨gb, 0, none⟩) NN NN] 126 (0, 0)) :: (gb, .cells (u8s (D1).flatten) 5 (0, 0)) :: (gw, .cells #[.int .i64 (Z : Int), .slice A N c] 129 (0, 0)) :: X2)) (R := R5) (Own.swap4 (S := ((ga, .cells #[.int .i64 (Z : Int), .slice (some ⟨gb, 0, none⟩) NN NN] 126 (0, 0)) :: (gb, .cells (u8s (D1).flatten) 5 (0, 0)) :: (gw, .cells #[.int .i64 (Z : Int), .slice A N c] 129 (0, 0)) :: X2)) (B := R6) (R := R5) HO.out)))) ?_
                      refine hK.out _ _ (HO.out.dropAll) (fun hHeld => ?_)
                      clear hK K
                      refine norm_ (a' := ?_) ?_ ?_
                      rotate_left
                      · show Act.put _ (some 161) _ = _
                        simp only [Act.put, List.setIfInBounds_toArray, List.set_cons_zero, List.set_cons_succ, i64_w, i32_w]
                        rfl
                      refine one_ (i := 5) (N := some 164) (Hp.up 7 6) rfl rfl (by kernel_rfl) (by decide) (fun K hK => ?_)
                      refine event_step (by rfl) (exec_conv rfl (by rfl) (RowOf.string (P := Try.prog) hul hu8 hus HR6.out (Own.swap3 (B := ((ga, .cells #[.int .i64 (Z : Int), .slice (some ⟨gb, 0, none⟩) NN NN] 126 (0, 0)) :: (gb, .cells (u8s (D1).flatten) 5 (0, 0)) :: (gw, .cells #[.int .i64 (Z : Int), .slice A N c] 129 (0, 0)) :: X2)) (R := R6) HO.out))) ?_
                      refine hK.out _ _ (HO.out.dropAll) (fun hHeld => ?_)
                      clear hK K
                      refine norm_ (a' := ?_) ?_ ?_
                      rotate_left
                      · show Act.put _ (some 164) _ = _
                        simp only [Act.put, List.setIfInBounds_toArray, List.set_cons_zero, List.set_cons_succ, i64_w, i32_w]
                        rfl
                      exact norm_ (by simp only [putAll, Act.put, List.setIfInBounds_toArray, List.set_cons_zero, List.set_cons_succ]) (hCont (v5, v6) _ (Own.droptail (S := ((ga, .cells #[.int .i64 (Z : Int), .slice (some ⟨gb, 0, none⟩) NN NN] 126 (0, 0)) :: (gb, .cells (u8s (D1).flatten) 5 (0, 0)) :: (gw, .cells #[.int .i64 (Z : Int), .slice A N c] 129 (0, 0)) :: X2)) (Own.droptail (S := ((ga, .cells #[.int .i64 (Z : Int), .slice (some ⟨gb, 0, none⟩) NN NN] 126 (0, 0)) :: (gb, .cells (u8s (D1).flatten) 5 (0, 0)) :: (gw, .cells #[.int .i64 (Z : Int), .slice A N c] 129 (0, 0)) :: X2)) HO.out)))
                    · skip
                      refine event_step (by rfl) (exec_conv rfl (by rfl) (RowOf.string (P := Try.prog) hul hu8 hus HR6.out (Own.swap3 (B := ((ga, .cells #[.int .i64 (Z : Int), .slice (some ⟨gb, 0, none⟩) NN NN] 126 (0, 0)) :: (gb, .cells (u8s (D1).flatten) 5 (0, 0)) :: (gw, .cells #[.int .i64 (Z : Int), .slice A N c] 129 (0, 0)) :: X2)) (R := R6) HO.out))) ?_
                      refine hK.out _ _ (HO.out.dropAll) (fun hHeld => ?_)
                      clear hK K
                      refine norm_ (a' := ?_) ?_ ?_
                      rotate_left
                      · show Act.put _ (some 164) _ = _
                        simp only [Act.put, List.setIfInBounds_toArray, List.set_cons_zero, List.set_cons_succ, i64_w, i32_w]
                        rfl
                      refine one_ (i := 2) (N := some 161) (Hp.up 7 6) rfl rfl (by kernel_rfl) (by decide) (fun K hK => ?_)
                      refine event_step (by rfl) (exec_conv rfl (by rfl) (RowOf.string (P := Try.prog) hul hu8 hus HR5.out (Own.swap3 (B := ((ga, .cells #[.int .i64 (Z : Int), .slice (some ⟨gb, 0, none⟩) NN NN] 126 (0, 0)) :: (gb, .cells (u8s (D1).flatten) 5 (0, 0)) :: (gw, .cells #[.int .i64 (Z : Int), .slice A N c] 129 (0, 0)) :: X2)) (R := R5) (Own.swap4 (S := ((ga, .cells #[.int .i64 (Z : Int), .slice (some ⟨gb, 0, none⟩) NN NN] 126 (0, 0)) :: (gb, .cells (u8s (D1).flatten) 5 (0, 0)) :: (gw, .cells #[.int .i64 (Z : Int), .slice A N c] 129 (0, 0)) :: X2)) (B := R6) (R := R5) HO.out)))) ?_
                      refine hK.out _ _ (HO.out.dropAll) (fun hHeld => ?_)
                      clear hK K
                      refine norm_ (a' := ?_) ?_ ?_
                      rotate_left
                      · show Act.put _ (some 161) _ = _
                        simp only [Act.put, List.setIfInBounds_toArray, List.set_cons_zero, List.set_cons_succ, i64_w, i32_w]
                        rfl
                      exact norm_ (by simp only [putAll, Act.put, List.setIfInBounds_toArray, List.set_cons_zero, List.set_cons_succ]) (hCont (v5, v6) _ (Own.droptail (S := ((ga, .cells #[.int .i64 (Z : Int), .slice (some ⟨gb, 0, none⟩) NN NN] 126 (0, 0)) :: (gb, .cells (u8s (D1).flatten) 5 (0, 0)) :: (gw, .cells #[.int .i64 (Z : Int), .slice A N c] 129 (0, 0)) :: X2)) (Own.droptail (S := ((ga, .cells #[.int .i64 (Z : Int), .slice (some ⟨gb, 0, none⟩) NN NN] 126 (0, 0)) :: (gb, .cells (u8s (D1).flatten) 5 (0, 0)) :: (gw, .cells #[.int .i64 (Z : Int), .slice A N c] 129 (0, 0)) :: X2)) HO.out)))
                rintro ⟨v5, v6⟩ wj hO_
                clear HO
                have HO := Aside0.mk hO_
                have hHeld := HO.out.dropAll
                clear hO_
                refine norm_ (a' := ?_) ?_ ?_
                rotate_left
                · simp only [putAll, Act.put, List.setIfInBounds_toArray, List.set_cons_zero, List.set_cons_succ]
                  rfl
                refine Hp.pu_ 6 165 (Hp.up 7 7) ?_
                refine done_ (by kernel_rfl) ?_
                clear hHeld
                go_wp2
                go_roundg gk
                case measure => omega
                case rel => exact ⟨i + 1, D1, X2, ((gc, .cells #[.int .i64 (Z : Int), .slice A3 NN c3] 126 (0, 0)) :: R2), rfl, ⟨by have := HI.out; omega⟩, HDw, HX2, ⟨.inr ⟨gc, A3, c3, R2, D.flatten, rfl, rfl, rfl, HR2.out⟩⟩, HO⟩
              · have c7 : decide (0 ≤ ax) = false := decide_eq_false ha0
                clear hk hkN hkl ha ha0
                go_wp2_with (first | ((with_reducible refine gate_callee (f := 17) rfl ?_); (with_reducible refine gate_dst (N := 60) rfl ?_); refine goesL_ (some 60) rfl rfl Try.func17 (by kernel_rfl) rfl #[.pointer (some ⟨ga, 0, none⟩)] rfl (by (try simp only [List.map_toArray, List.map_cons, List.map_nil]); first | done | rfl) ?_; (with_reducible refine (copy_calls w _ ((gw, .cells #[.int .i64 (Z : Int), .slice A N c] 129 (0, 0)) :: (X ++ (Y ++ []))) ga gb (Z : Int) NN D.flatten HB.out HM.out HO.out).mono ?_); rintro e wx ⟨gc, rfl, A3, c3, R2, hR2, hO_⟩; refine ⟨_, rfl, ?_⟩; have HR2 := Aside0.mk hR2; clear hR2; have hO_ := hO_.copied; clear HO; have HO := Aside0.mk hO_; clear hO_; (try clear hx0 hx1 hx2); have hx0 := (HO.out.bel.cell (World.block_lt_of_cell? w _ HX.out.1)).trans HX.out.1; have hx1 := (HO.out.bel.cell (World.block_lt_of_cell? w _ HX.out.2.1)).trans HX.out.2.1; have hx2 := (HO.out.bel.cell (World.block_lt_of_cell? w _ HX.out.2.2)).trans HX.out.2.2) | ((with_reducible refine gate_callee (f := 18) rfl ?_); (with_reducible refine gate_dst (N := 62) rfl ?_); refine goesL_ (some 62) rfl rfl Try.func18 (by kernel_rfl) rfl #[.pointer (some ⟨ga, 0, none⟩)] rfl (by (try simp only [List.map_toArray, List.map_cons, List.map_nil]); first | done | rfl) ?_; (with_reducible refine (bytes_calls w _ ((gw, .cells #[.int .i64 (Z : Int), .slice A N c] 129 (0, 0)) :: (X ++ (((gc, .cells #[.int .i64 (Z : Int), .slice A3 NN c3] 126 (0, 0)) :: R2) ++ []))) ga gb (Z : Int) NN D.flatten HB.out HM.out HO.out).mono ?_); rintro e wx ⟨v4, rfl, R4, hR4, hO_⟩; refine ⟨_, rfl, ?_⟩; have HR4 := Aside0.mk hR4; clear hR4; clear HO; have HO := Aside0.mk hO_; clear hO_; (try clear hx0 hx1 hx2); have hx0 := (HO.out.bel.cell (World.block_lt_of_cell? w _ HX.out.1)).trans HX.out.1; have hx1 := (HO.out.bel.cell (World.block_lt_of_cell? w _ HX.out.2.1)).trans HX.out.2.1; have hx2 := (HO.out.bel.cell (World.block_lt_of_cell? w _ HX.out.2.2)).trans HX.out.2.2) | ((with_reducible refine gate_dst (N := 63) rfl ?_); refine conv_run rfl rfl (by rfl) (RowOf.string (P := Try.prog) hul hu8 hus HR4.out HO.out) ?_; have hO_ := Own.last (B := R4) HO.out; clear HO; have HO := Aside0.mk hO_; clear hO_; (try clear hx0 hx1 hx2); have hx0 := (HO.out.bel.cell (World.block_lt_of_cell? w _ HX.out.1)).trans HX.out.1; have hx1 := (HO.out.bel.cell (World.block_lt_of_cell? w _ HX.out.2.1)).trans HX.out.2.1; have hx2 := (HO.out.bel.cell (World.block_lt_of_cell? w _ HX.out.2.2)).trans HX.out.2.2) | ((with_reducible refine gate_callee (f := 19) rfl ?_); (with_reducible refine gate_dst (N := 71) rfl ?_); refine goesL_ (some 71) rfl rfl Try.func19 (by kernel_rfl) rfl #[.pointer (some ⟨ga, 0, none⟩), .int .i64 (k0 : Int)] rfl (by (try simp only [List.map_toArray, List.map_cons, List.map_nil]); first | done | rfl) ?_; (with_reducible refine (slot_ok w _ ((gw, .cells #[.int .i64 (Z : Int), .slice A N c] 129 (0, 0)) :: (X ++ (((gc, .cells #[.int .i64 (Z : Int), .slice A3 NN c3] 126 (0, 0)) :: R2) ++ []))) ga gb (Z : Int) NN D.flatten (k0 : Int) (N : Int) HZ.out HN.out.1 HS.out (k0 * Z) Z HK.out HKK.out rfl HKL.out HM.out HO.out).mono ?_); rintro e wx ⟨rfl, hO_⟩; refine ⟨_, rfl, ?_⟩; clear HO; have HO := Aside0.mk hO_; clear hO_; (try clear hx0 hx1 hx2); have hx0 := (HO.out.bel.cell (World.block_lt_of_cell? w _ HX.out.1)).trans HX.out.1; have hx1 := (HO.out.bel.cell (World.block_lt_of_cell? w _ HX.out.2.1)).trans HX.out.2.1; have hx2 := (HO.out.bel.cell (World.block_lt_of_cell? w _ HX.out.2.2)).trans HX.out.2.2) | ((with_reducible refine gate_dst (N := 140) rfl ?_); refine own_lit HO.out ?hg (N := 140) ?hd (cs := #[.int .u8 77]) (t := 5) (n := 1) (m := 1) ?hr ?_; (case hd => rfl); (case hg => rfl); (case hr => first | (go_simp; done) | (go_simp; rfl) | kernel_rfl); intro g140 w140 hO_; clear HO; have HO := Aside0.mk hO_; clear hO_) | ((with_reducible refine gate_dst (N := 141) rfl ?_); refine own_append_away (z := .int .u8 0) (size := 1) (bytes := 1) (b := ⟨gb, k0 * Z, none⟩) (n := Z) HO.out rfl rfl hul (by kernel_rfl) rfl (by decide) (olds := ((D.flatten.drop (k0 * Z)).take Z).map (Value.int .u8)) (by rfl) HOL.out (fun j u hj => away_cells (HO.out.get (by (repeat (first | exact .head | apply Ext.tail)))) hj) (ad := ⟨g140, 0, none⟩) (m := 1) (c := 1) (news := [.int .u8 77]) (by rfl) rfl (fun j u hj => by rw [Addr.add_lit]; exact HO.out.range .head 0 [.int .u8 77] rfl j u hj) (by decide) (by have := HZn.out; show Z + 1 ≤ 9223372036854775807; omega) (by have := HZn.out; omega) ?_; intro v9 wc hO_; have hO_ := hO_.drop; clear HO; have HO := Aside0.mk hO_; clear hO_; (try clear hx0 hx1 hx2); have hx0 := (HO.out.bel.cell (World.block_lt_of_cell? w _ HX.out.1)).trans HX.out.1; have hx1 := (HO.out.bel.cell (World.block_lt_of_cell? w _ HX.out.2.1)).trans HX.out.2.1; have hx2 := (HO.out.bel.cell (World.block_lt_of_cell? w _ HX.out.2.2)).trans HX.out.2.2))
                have hO_ := HO.out
                rw [← HW.out] at hO_
                clear HO; have HO := Aside0.mk hO_; clear hO_; (try clear hx0 hx1 hx2); have hx0 := (HO.out.bel.cell (World.block_lt_of_cell? w _ HX.out.1)).trans HX.out.1; have hx1 := (HO.out.bel.cell (World.block_lt_of_cell? w _ HX.out.2.1)).trans HX.out.2.1; have hx2 := (HO.out.bel.cell (World.block_lt_of_cell? w _ HX.out.2.2)).trans HX.out.2.2
                refine start_ (n := 17) (S := fun W => Own w W ([])) (ds := [16]) #[false, false, false, false, false, false, false, false, false, false, false, false, false, false, false, false, false] (by kernel_rfl) rfl rfl (Own.drew (HO.out.picks (.nil))) (fun hHeld => ?_)
                have HO_ := Aside0.mk HO.out.drew
                clear HO
                have HO := HO_
                clear HO_
                generalize World.drew _ = wr at HO hHeld ⊢
                refine Hp.pu_ 0 142 (Hp.up 17 1) ?_
                refine Hp.pu_ 1 143 (Hp.up 17 2) ?_
                refine Hp.pu_ 2 144 (Hp.up 17 3) ?_
                refine Hp.pu_ 3 145 (Hp.up 17 4) ?_
                refine Hp.pu_ 4 146 (Hp.up 17 5) ?_
                refine take_ (i := 5) (N := some 147) (v := .int .i64 (k0 : Int)) (a' := ?_) (Hp.up 17 6) rfl rfl (by kernel_rfl) (fun _ _ _ h => h) (Or.inl ⟨by rfl, fun w' hS => old_load rfl (by rfl) hui rfl ((hS.bel.cell (World.block_lt_of_cell? w _ HX.out.1)).trans HX.out.1)⟩) hHeld ?_ ?_
                rotate_left
                · simp only [Act.put, List.setIfInBounds_toArray, List.set_cons_zero, List.set_cons_succ, i64_w, i32_w]
                  rfl
                refine Hp.pu_ 6 148 (Hp.up 17 7) ?_
                refine Hp.pu_ 7 149 (Hp.up 17 8) ?_
                refine Hp.pu_ 8 150 (Hp.up 17 9) ?_
                refine Hp.pu_ 9 151 (Hp.up 17 10) ?_
                refine take_ (i := 10) (N := some 152) (v := .int .i64 ax) (a' := ?_) (Hp.up 17 11) rfl rfl (by kernel_rfl) (fun _ _ _ h => h) (Or.inl ⟨by rfl, fun w' hS => old_load rfl (by rfl) hui rfl ((hS.bel.cell (World.block_lt_of_cell? w _ HX.out.2.1)).trans HX.out.2.1)⟩) hHeld ?_ ?_
                rotate_left
                · simp only [Act.put, List.setIfInBounds_toArray, List.set_cons_zero, List.set_cons_succ, i64_w, i32_w]
                  rfl
                refine Hp.pu_ 11 153 (Hp.up 17 12) ?_
                refine Hp.pu_ 12 154 (Hp.up 17 13) ?_
                refine Hp.pu_ 13 155 (Hp.up 17 14) ?_
                refine Hp.pu_ 14 156 (Hp.up 17 15) ?_
                refine take_ (i := 15) (N := some 157) (v := .int .u8 cx) (a' := ?_) (Hp.up 17 16) rfl rfl (by kernel_rfl) (fun _ _ _ h => h) (Or.inl ⟨by rfl, fun w' hS => old_load rfl (by rfl) hu8 rfl ((hS.bel.cell (World.block_lt_of_cell? w _ HX.out.2.2)).trans HX.out.2.2)⟩) hHeld ?_ ?_
                rotate_left
                · simp only [Act.put, List.setIfInBounds_toArray, List.set_cons_zero, List.set_cons_succ, i64_w, i32_w]
                  rfl
                refine last_ (i := 16) (N := some 158) (Hp.up 17 17) rfl rfl (by kernel_rfl) (by decide) (fun K hK => ?_)
                refine goes_ Try.func20 (by kernel_rfl) rfl #[.pointer (some ⟨gw, 0, none⟩), .int .i64 (k0 : Int), .int .i64 ax, .int .u8 cx] (by rfl) rfl rfl (by (try simp only [List.map_toArray, List.map_cons, List.map_nil]); first | done | rfl) ?_
                refine (write_calls w _ _ X gw (Z : Int) Z N A c D cx (k0 : Int) ax HNn.out HZn.out rfl HD.out.1 HX0.out HO.out.toW).mono ?_
                rintro e wx ⟨rfl, X2, hX2, hO_⟩
                refine ⟨_, rfl, ?_⟩
                have HX2 := Aside0.mk hX2
                clear hX2
                have hO_ := hO_.fromW
                clear HO; have HO := Aside0.mk hO_; clear hO_
                refine hK.out _ _ ?_
                clear hK K
                refine norm_ (a' := ?_) ?_ ?_
                rotate_left
                · show Act.put _ (some 158) _ = _
                  simp only [Act.put, List.setIfInBounds_toArray, List.set_cons_zero, List.set_cons_succ, i64_w, i32_w]
                  rfl
                refine done_ (by kernel_rfl) ?_
                clear hHeld
                obtain ⟨D1, hD1⟩ : ∃ D1, (wrote D Z (k0 : Int) ax cx) = D1 := ⟨_, rfl⟩
                rw [hD1] at HO HX2 HDw
                have HB1 : Aside0 (D1.flatten.length = NN) := ⟨by rw [flat_len D1 Z HDw.out.2, HDw.out.1, HS2.out]⟩
                clear hD1
                try clear hx0 hx1 hx2
                try go_wp2
                refine start_ (n := 7) (S := fun W => Own w W ([] : Hl)) (ds := []) #[false, false, false, false, false, false, false] (by kernel_rfl) rfl rfl (Own.drew (HO.out.dropAll)) (fun hHeld => ?_)
                have HO_ := Aside0.mk HO.out.drew
                clear HO
                have HO := HO_
                clear HO_
                generalize World.drew _ = wr at HO hHeld ⊢
                refine Hp.pu_ 0 159 (Hp.up 7 1) ?_
                refine Hp.pu_ 3 162 #[true, false, false, true, false, false, false] ?_
                refine join_ (σ := Value × Value) 1 (Hp.up 7 6) (fun s_ => [(160, s_.1), (161, .string (strOfNums D1.flatten)), (163, s_.2), (164, .string (strOfNums D1.flatten))]) (fun s_ w' => Own w w' ((ga, .cells #[.int .i64 (Z : Int), .slice (some ⟨gb, 0, none⟩) NN NN] 126 (0, 0)) :: (gb, .cells (u8s (D1).flatten) 5 (0, 0)) :: (gw, .cells #[.int .i64 (Z : Int), .slice A N c] 129 (0, 0)) :: (X2 ++ (((gc, .cells #[.int .i64 (Z : Int), .slice A3 NN c3] 126 (0, 0)) :: R2) ++ [])))) ?_ ?_
                rotate_left
                · intro hCont
                  refine one_ (i := 1) (N := some 160) #[true, true, false, true, false, false, false] rfl rfl (by kernel_rfl) (by decide) (fun K hK => ?_)
                  refine goes_ Try.func18 (by kernel_rfl) rfl #[.pointer (some ⟨ga, 0, none⟩)] (by rfl) rfl rfl (by (try simp only [List.map_toArray, List.map_cons, List.map_nil]); first | done | rfl) ?_
                  refine (bytes_calls w _ ((gw, .cells #[.int .i64 (Z : Int), .slice A N c] 129 (0, 0)) :: (X2 ++ (((gc, .cells #[.int .i64 (Z : Int), .slice A3 NN c3] 126 (0, 0)) :: R2) ++ []))) ga gb (Z : Int) NN D1.flatten HB1.out HM.out HO.out).mono ?_
                  rintro e wx ⟨v5, rfl, R5, hR5, hO_⟩
                  refine ⟨_, rfl, ?_⟩
                  have HR5 := Aside0.mk hR5
                  clear hR5
                  have hO_ := hO_.intail
                  clear HO; have HO := Aside0.mk hO_; clear hO_
                  refine hK.out _ _ (HO.out.dropAll) (fun hHeld => ?_)
                  clear hK K
                  refine norm_ (a' := ?_) ?_ ?_
                  rotate_left
                  · show Act.put _ (some 160) _ = _
                    simp only [Act.put, List.setIfInBounds_toArray, List.set_cons_zero, List.set_cons_succ, i64_w, i32_w]
                    rfl
                  refine two_ (i := 2) (j := 4) (Ni := some 161) (Nj := some 163) (Hp.up 7 4) #[true, true, false, true, true, false, false] rfl rfl rfl rfl (by kernel_rfl) (by decide) (by decide) (fun K hK => ?_) (fun K hK => ?_)
                  · skip
                    refine event_step (by rfl) (exec_conv rfl (by rfl) (RowOf.string (P := Try.prog) hul hu8 hus HR5.out (Own.swap3 (B := ((ga, .cells #[.int .i64 (Z : Int), .slice (some ⟨gb, 0, none⟩) NN NN] 126 (0, 0)) :: (gb, .cells (u8s (D1).flatten) 5 (0, 0)) :: (gw, .cells #[.int .i64 (Z : Int), .slice A N c] 129 (0, 0)) :: X2)) (R := R5) HO.out))) ?_
                    refine hK.out _ _ (HO.out.dropAll) (fun hHeld => ?_)
                    clear hK K
                    refine norm_ (a' := ?_) ?_ ?_
                    rotate_left
                    · show Act.put _ (some 161) _ = _
                      simp only [Act.put, List.setIfInBounds_toArray, List.set_cons_zero, List.set_cons_succ, i64_w, i32_w]
                      rfl
                    refine one_ (i := 4) (N := some 163) (Hp.up 7 5) rfl rfl (by kernel_rfl) (by decide) (fun K hK => ?_)
                    refine goes_ Try.func21 (by kernel_rfl) rfl #[.pointer (some ⟨gw, 0, none⟩)] (by rfl) rfl rfl (by (try simp only [List.map_toArray, List.map_cons, List.map_nil]); first | done | rfl) ?_
                    refine (rbytes_calls w _ ((ga, .cells #[.int .i64 (Z : Int), .slice (some ⟨gb, 0, none⟩) NN NN] 126 (0, 0)) :: (gb, .cells (u8s (D1).flatten) 5 (0, 0)) :: (R5 ++ (((gc, .cells #[.int .i64 (Z : Int), .slice A3 NN c3] 126 (0, 0)) :: R2) ++ []))) X2 gw (Z : Int) Z N A c D1 HNn.out HZn.out rfl HDw.out.1 HX2.out HO.out.toW).mono ?_
                    rintro e wx ⟨v6, rfl, R6, hR6, hO_⟩
                    refine ⟨_, rfl, ?_⟩
                    have HR6 := Aside0.mk hR6
                    clear hR6
                    have hO_ := hO_.fromW2
                    clear HO; have HO := Aside0.mk hO_; clear hO_
                    refine hK.out _ _ (HO.out.dropAll) (fun hHeld => ?_)
                    clear hK K
                    refine norm_ (a' := ?_) ?_ ?_
                    rotate_left
                    · show Act.put _ (some 163) _ = _
                      simp only [Act.put, List.setIfInBounds_toArray, List.set_cons_zero, List.set_cons_succ, i64_w, i32_w]
                      rfl
                    refine one_ (i := 5) (N := some 164) (Hp.up 7 6) rfl rfl (by kernel_rfl) (by decide) (fun K hK => ?_)
                    refine event_step (by rfl) (exec_conv rfl (by rfl) (RowOf.string (P := Try.prog) hul hu8 hus HR6.out (Own.swap3 (B := ((ga, .cells #[.int .i64 (Z : Int), .slice (some ⟨gb, 0, none⟩) NN NN] 126 (0, 0)) :: (gb, .cells (u8s (D1).flatten) 5 (0, 0)) :: (gw, .cells #[.int .i64 (Z : Int), .slice A N c] 129 (0, 0)) :: X2)) (R := R6) HO.out))) ?_
                    refine hK.out _ _ (HO.out.dropAll) (fun hHeld => ?_)
                    clear hK K
                    refine norm_ (a' := ?_) ?_ ?_
                    rotate_left
                    · show Act.put _ (some 164) _ = _
                      simp only [Act.put, List.setIfInBounds_toArray, List.set_cons_zero, List.set_cons_succ, i64_w, i32_w]
                      rfl
                    exact norm_ (by simp only [putAll, Act.put, List.setIfInBounds_toArray, List.set_cons_zero, List.set_cons_succ]) (hCont (v5, v6) _ (Own.droptail (S := ((ga, .cells #[.int .i64 (Z : Int), .slice (some ⟨gb, 0, none⟩) NN NN] 126 (0, 0)) :: (gb, .cells (u8s (D1).flatten) 5 (0, 0)) :: (gw, .cells #[.int .i64 (Z : Int), .slice A N c] 129 (0, 0)) :: X2)) (Own.droptail (S := ((ga, .cells #[.int .i64 (Z : Int), .slice (some ⟨gb, 0, none⟩) NN NN] 126 (0, 0)) :: (gb, .cells (u8s (D1).flatten) 5 (0, 0)) :: (gw, .cells #[.int .i64 (Z : Int), .slice A N c] 129 (0, 0)) :: X2)) HO.out)))
                  · skip
                    refine goes_ Try.func21 (by kernel_rfl) rfl #[.pointer (some ⟨gw, 0, none⟩)] (by rfl) rfl rfl (by (try simp only [List.map_toArray, List.map_cons, List.map_nil]); first | done | rfl) ?_
                    refine (rbytes_calls w _ ((ga, .cells #[.int .i64 (Z : Int), .slice (some ⟨gb, 0, none⟩) NN NN] 126 (0, 0)) :: (gb, .cells (u8s (D1).flatten) 5 (0, 0)) :: (R5 ++ (((gc, .cells #[.int .i64 (Z : Int), .slice A3 NN c3] 126 (0, 0)) :: R2) ++ []))) X2 gw (Z : Int) Z N A c D1 HNn.out HZn.out rfl HDw.out.1 HX2.out HO.out.toW).mono ?_
                    rintro e wx ⟨v6, rfl, R6, hR6, hO_⟩
                    refine ⟨_, rfl, ?_⟩
                    have HR6 := Aside0.mk hR6
                    clear hR6
                    have hO_ := hO_.fromW2
                    clear HO; have HO := Aside0.mk hO_; clear hO_
                    refine hK.out _ _ (HO.out.dropAll) (fun hHeld => ?_)
                    clear hK K
                    refine norm_ (a' := ?_) ?_ ?_
                    rotate_left
                    · show Act.put _ (some 163) _ = _
                      simp only [Act.put, List.setIfInBounds_toArray, List.set_cons_zero, List.set_cons_succ, i64_w, i32_w]
                      rfl
                    refine two_ (i := 2) (j := 5) (Ni := some 161) (Nj := some 164) (Hp.up 7 5) #[true, true, false, true, true, true, false] rfl rfl rfl rfl (by kernel_rfl) (by decide) (by decide) (fun K hK => ?_) (fun K hK => ?_)
                    · skip
                      refine event_step (by rfl) (exec_conv rfl (by rfl) (RowOf.string (P := Try.prog) hul hu8 hus HR5.out (Own.swap3 (B := ((ga, .cells #[.int .i64 (Z : Int), .slice (some ⟨gb, 0, none⟩) NN NN] 126 (0, 0)) :: (gb, .cells (u8s (D1).flatten) 5 (0, 0)) :: (gw, .cells #[.int .i64 (Z : Int), .slice A N c] 129 (0, 0)) :: X2)) (R := R5) (Own.swap4 (S := ((ga, .cells #[.int .i64 (Z : Int), .slice (some ⟨gb, 0, none⟩) NN NN] 126 (0, 0)) :: (gb, .cells (u8s (D1).flatten) 5 (0, 0)) :: (gw, .cells #[.int .i64 (Z : Int), .slice A N c] 129 (0, 0)) :: X2)) (B := R6) (R := R5) HO.out)))) ?_
                      refine hK.out _ _ (HO.out.dropAll) (fun hHeld => ?_)
                      clear hK K
                      refine norm_ (a' := ?_) ?_ ?_
                      rotate_left
                      · show Act.put _ (some 161) _ = _
                        simp only [Act.put, List.setIfInBounds_toArray, List.set_cons_zero, List.set_cons_succ, i64_w, i32_w]
                        rfl
                      refine one_ (i := 5) (N := some 164) (Hp.up 7 6) rfl rfl (by kernel_rfl) (by decide) (fun K hK => ?_)
                      refine event_step (by rfl) (exec_conv rfl (by rfl) (RowOf.string (P := Try.prog) hul hu8 hus HR6.out (Own.swap3 (B := ((ga, .cells #[.int .i64 (Z : Int), .slice (some ⟨gb, 0, none⟩) NN NN] 126 (0, 0)) :: (gb, .cells (u8s (D1).flatten) 5 (0, 0)) :: (gw, .cells #[.int .i64 (Z : Int), .slice A N c] 129 (0, 0)) :: X2)) (R := R6) HO.out))) ?_
                      refine hK.out _ _ (HO.out.dropAll) (fun hHeld => ?_)
                      clear hK K
                      refine norm_ (a' := ?_) ?_ ?_
                      rotate_left
                      · show Act.put _ (some 164) _ = _
                        simp only [Act.put, List.setIfInBounds_toArray, List.set_cons_zero, List.set_cons_succ, i64_w, i32_w]
                        rfl
                      exact norm_ (by simp only [putAll, Act.put, List.setIfInBounds_toArray, List.set_cons_zero, List.set_cons_succ]) (hCont (v5, v6) _ (Own.droptail (S := ((ga, .cells #[.int .i64 (Z : Int), .slice (some ⟨gb, 0, none⟩) NN NN] 126 (0, 0)) :: (gb, .cells (u8s (D1).flatten) 5 (0, 0)) :: (gw, .cells #[.int .i64 (Z : Int), .slice A N c] 129 (0, 0)) :: X2)) (Own.droptail (S := ((ga, .cells #[.int .i64 (Z : Int), .slice (some ⟨gb, 0, none⟩) NN NN] 126 (0, 0)) :: (gb, .cells (u8s (D1).flatten) 5 (0, 0)) :: (gw, .cells #[.int .i64 (Z : Int), .slice A N c] 129 (0, 0)) :: X2)) HO.out)))
                    · skip
                      refine event_step (by rfl) (exec_conv rfl (by rfl) (RowOf.string (P := Try.prog) hul hu8 hus HR6.out (Own.swap3 (B := ((ga, .cells #[.int .i64 (Z : Int), .slice (some ⟨gb, 0, none⟩) NN NN] 126 (0, 0)) :: (gb, .cells (u8s (D1).flatten) 5 (0, 0)) :: (gw, .cells #[.int .i64 (Z : Int), .slice A N c] 129 (0, 0)) :: X2)) (R := R6) HO.out))) ?_
                      refine hK.out _ _ (HO.out.dropAll) (fun hHeld => ?_)
                      clear hK K
                      refine norm_ (a' := ?_) ?_ ?_
                      rotate_left
                      · show Act.put _ (some 164) _ = _
                        simp only [Act.put, List.setIfInBounds_toArray, List.set_cons_zero, List.set_cons_succ, i64_w, i32_w]
                        rfl
                      refine one_ (i := 2) (N := some 161) (Hp.up 7 6) rfl rfl (by kernel_rfl) (by decide) (fun K hK => ?_)
                      refine event_step (by rfl) (exec_conv rfl (by rfl) (RowOf.string (P := Try.prog) hul hu8 hus HR5.out (Own.swap3 (B := ((ga, .cells #[.int .i64 (Z : Int), .slice (some ⟨gb, 0, none⟩) NN NN] 126 (0, 0)) :: (gb, .cells (u8s (D1).flatten) 5 (0, 0)) :: (gw, .cells #[.int .i64 (Z : Int), .slice A N c] 129 (0, 0)) :: X2)) (R := R5) (Own.swap4 (S := ((ga, .cells #[.int .i64 (Z : Int), .slice (some ⟨gb, 0, none⟩) NN NN] 126 (0, 0)) :: (gb, .cells (u8s (D1).flatten) 5 (0, 0)) :: (gw, .cells #[.int .i64 (Z : Int), .slice A N c] 129 (0, 0)) :: X2)) (B := R6) (R := R5) HO.out)))) ?_
                      refine hK.out _ _ (HO.out.dropAll) (fun hHeld => ?_)
                      clear hK K
                      refine norm_ (a' := ?_) ?_ ?_
                      rotate_left
                      · show Act.put _ (some 161) _ = _
                        simp only [Act.put, List.setIfInBounds_toArray, List.set_cons_zero, List.set_cons_succ, i64_w, i32_w]
                        rfl
                      exact norm_ (by simp only [putAll, Act.put, List.setIfInBounds_toArray, List.set_cons_zero, List.set_cons_succ]) (hCont (v5, v6) _ (Own.droptail (S := ((ga, .cells #[.int .i64 (Z : Int), .slice (some ⟨gb, 0, none⟩) NN NN] 126 (0, 0)) :: (gb, .cells (u8s (D1).flatten) 5 (0, 0)) :: (gw, .cells #[.int .i64 (Z : Int), .slice A N c] 129 (0, 0)) :: X2)) (Own.droptail (S := ((ga, .cells #[.int .i64 (Z : Int), .slice (some ⟨gb, 0, none⟩) NN NN] 126 (0, 0)) :: (gb, .cells (u8s (D1).flatten) 5 (0, 0)) :: (gw, .cells #[.int .i64 (Z : Int), .slice A N c] 129 (0, 0)) :: X2)) HO.out)))
                rintro ⟨v5, v6⟩ wj hO_
                clear HO
                have HO := Aside0.mk hO_
                have hHeld := HO.out.dropAll
                clear hO_
                refine norm_ (a' := ?_) ?_ ?_
                rotate_left
                · simp only [putAll, Act.put, List.setIfInBounds_toArray, List.set_cons_zero, List.set_cons_succ]
                  rfl
                refine Hp.pu_ 6 165 (Hp.up 7 7) ?_
                refine done_ (by kernel_rfl) ?_
                clear hHeld
                go_wp2
                go_roundg gk
                case measure => omega
                case rel => exact ⟨i + 1, D1, X2, ((gc, .cells #[.int .i64 (Z : Int), .slice A3 NN c3] 126 (0, 0)) :: R2), rfl, ⟨by have := HI.out; omega⟩, HDw, HX2, ⟨.inr ⟨gc, A3, c3, R2, D.flatten, rfl, rfl, rfl, HR2.out⟩⟩, HO⟩
          · have HW : Aside0 (wrote D Z kx ax cx = D) := ⟨if_neg (by have := HD.out.1; omega)⟩
            have HK : Aside0 (kx < 0 ∨ (N : Int) ≤ kx) := ⟨by omega⟩
            by_cases hk0 : 0 ≤ kx
            · have c5 : decide (0 ≤ kx) = true := decide_eq_true hk0
              have c6 : decide (kx < (N : Int)) = false := decide_eq_false (by omega)
              clear hk hk0
              go_wp2_with (first | ((with_reducible refine gate_callee (f := 17) rfl ?_); (with_reducible refine gate_dst (N := 60) rfl ?_); refine goesL_ (some 60) rfl rfl Try.func17 (by kernel_rfl) rfl #[.pointer (some ⟨ga, 0, none⟩)] rfl (by (try simp only [List.map_toArray, List.map_cons, List.map_nil]); first | done | rfl) ?_; (with_reducible refine (copy_calls w _ ((gw, .cells #[.int .i64 (Z : Int), .slice A N c] 129 (0, 0)) :: (X ++ (Y ++ []))) ga gb (Z : Int) NN D.flatten HB.out HM.out HO.out).mono ?_); rintro e wx ⟨gc, rfl, A3, c3, R2, hR2, hO_⟩; refine ⟨_, rfl, ?_⟩; have HR2 := Aside0.mk hR2; clear hR2; have hO_ := hO_.copied; clear HO; have HO := Aside0.mk hO_; clear hO_; (try clear hx0 hx1 hx2); have hx0 := (HO.out.bel.cell (World.block_lt_of_cell? w _ HX.out.1)).trans HX.out.1; have hx1 := (HO.out.bel.cell (World.block_lt_of_cell? w _ HX.out.2.1)).trans HX.out.2.1; have hx2 := (HO.out.bel.cell (World.block_lt_of_cell? w _ HX.out.2.2)).trans HX.out.2.2) | ((with_reducible refine gate_callee (f := 18) rfl ?_); (with_reducible refine gate_dst (N := 62) rfl ?_); refine goesL_ (some 62) rfl rfl Try.func18 (by kernel_rfl) rfl #[.pointer (some ⟨ga, 0, none⟩)] rfl (by (try simp only [List.map_toArray, List.map_cons, List.map_nil]); first | done | rfl) ?_; (with_reducible refine (bytes_calls w _ ((gw, .cells #[.int .i64 (Z : Int), .slice A N c] 129 (0, 0)) :: (X ++ (((gc, .cells #[.int .i64 (Z : Int), .slice A3 NN c3] 126 (0, 0)) :: R2) ++ []))) ga gb (Z : Int) NN D.flatten HB.out HM.out HO.out).mono ?_); rintro e wx ⟨v4, rfl, R4, hR4, hO_⟩; refine ⟨_, rfl, ?_⟩; have HR4 := Aside0.mk hR4; clear hR4; clear HO; have HO := Aside0.mk hO_; clear hO_; (try clear hx0 hx1 hx2); have hx0 := (HO.out.bel.cell (World.block_lt_of_cell? w _ HX.out.1)).trans HX.out.1; have hx1 := (HO.out.bel.cell (World.block_lt_of_cell? w _ HX.out.2.1)).trans HX.out.2.1; have hx2 := (HO.out.bel.cell (World.block_lt_of_cell? w _ HX.out.2.2)).trans HX.out.2.2) | ((with_reducible refine gate_dst (N := 63) rfl ?_); refine conv_run rfl rfl (by rfl) (RowOf.string (P := Try.prog) hul hu8 hus HR4.out HO.out) ?_; have hO_ := Own.last (B := R4) HO.out; clear HO; have HO := Aside0.mk hO_; clear hO_; (try clear hx0 hx1 hx2); have hx0 := (HO.out.bel.cell (World.block_lt_of_cell? w _ HX.out.1)).trans HX.out.1; have hx1 := (HO.out.bel.cell (World.block_lt_of_cell? w _ HX.out.2.1)).trans HX.out.2.1; have hx2 := (HO.out.bel.cell (World.block_lt_of_cell? w _ HX.out.2.2)).trans HX.out.2.2) | ((with_reducible refine gate_callee (f := 19) rfl ?_); (with_reducible refine gate_dst (N := 71) rfl ?_); refine goesL_ (some 71) rfl rfl Try.func19 (by kernel_rfl) rfl #[.pointer (some ⟨ga, 0, none⟩), .int .i64 kx] rfl (by (try simp only [List.map_toArray, List.map_cons, List.map_nil]); first | done | rfl) ?_; (with_reducible refine (slot_none w _ ((gw, .cells #[.int .i64 (Z : Int), .slice A N c] 129 (0, 0)) :: (X ++ (((gc, .cells #[.int .i64 (Z : Int), .slice A3 NN c3] 126 (0, 0)) :: R2) ++ []))) ga gb (Z : Int) NN D.flatten kx (N : Int) HZ.out HN.out.1 HS.out HK.out HO.out).mono ?_); rintro e wx ⟨rfl, hO_⟩; refine ⟨_, rfl, ?_⟩; clear HO; have HO := Aside0.mk hO_; clear hO_; (try clear hx0 hx1 hx2); have hx0 := (HO.out.bel.cell (World.block_lt_of_cell? w _ HX.out.1)).trans HX.out.1; have hx1 := (HO.out.bel.cell (World.block_lt_of_cell? w _ HX.out.2.1)).trans HX.out.2.1; have hx2 := (HO.out.bel.cell (World.block_lt_of_cell? w _ HX.out.2.2)).trans HX.out.2.2) | ((with_reducible refine gate_dst (N := 140) rfl ?_); refine own_lit HO.out ?hg (N := 140) ?hd (cs := #[.int .u8 77]) (t := 5) (n := 1) (m := 1) ?hr ?_; (case hd => rfl); (case hg => rfl); (case hr => first | (go_simp; done) | (go_simp; rfl) | kernel_rfl); intro g140 w140 hO_; clear HO; have HO := Aside0.mk hO_; clear hO_) | ((with_reducible refine gate_dst (N := 141) rfl ?_); refine own_append (z := .int .u8 0) (size := 1) (bytes := 1) (R := []) (L := (g140, .cells #[.int .u8 77] 5 (0, 0)) :: _) [] HO.out rfl rfl hul (by kernel_rfl) rfl (by rfl) (RowOf.none _ _) (by rfl) (HO.out.src hul .head 0 1 1 [.int .u8 77] rfl rfl (by simp [Value.oneCell'])) (by decide) (by decide) ?_; intro v9 R9 wc hR9 hO_; clear hR9; have hO_ := (Own.last (B := R9) hO_).drop; clear HO; have HO := Aside0.mk hO_; clear hO_; (try clear hx0 hx1 hx2); have hx0 := (HO.out.bel.cell (World.block_lt_of_cell? w _ HX.out.1)).trans HX.out.1; have hx1 := (HO.out.bel.cell (World.block_lt_of_cell? w _ HX.out.2.1)).trans HX.out.2.1; have hx2 := (HO.out.bel.cell (World.block_lt_of_cell? w _ HX.out.2.2)).trans HX.out.2.2))
              have hO_ := HO.out
              rw [← HW.out] at hO_
              clear HO; have HO := Aside0.mk hO_; clear hO_; (try clear hx0 hx1 hx2); have hx0 := (HO.out.bel.cell (World.block_lt_of_cell? w _ HX.out.1)).trans HX.out.1; have hx1 := (HO.out.bel.cell (World.block_lt_of_cell? w _ HX.out.2.1)).trans HX.out.2.1; have hx2 := (HO.out.bel.cell (World.block_lt_of_cell? w _ HX.out.2.2)).trans HX.out.2.2
              refine start_ (n := 17) (S := fun W => Own w W ([])) (ds := [16]) #[false, false, false, false, false, false, false, false, false, false, false, false, false, false, false, false, false] (by kernel_rfl) rfl rfl (Own.drew (HO.out.picks (.nil))) (fun hHeld => ?_)
              have HO_ := Aside0.mk HO.out.drew
              clear HO
              have HO := HO_
              clear HO_
              generalize World.drew _ = wr at HO hHeld ⊢
              refine Hp.pu_ 0 142 (Hp.up 17 1) ?_
              refine Hp.pu_ 1 143 (Hp.up 17 2) ?_
              refine Hp.pu_ 2 144 (Hp.up 17 3) ?_
              refine Hp.pu_ 3 145 (Hp.up 17 4) ?_
              refine Hp.pu_ 4 146 (Hp.up 17 5) ?_
              refine take_ (i := 5) (N := some 147) (v := .int .i64 kx) (a' := ?_) (Hp.up 17 6) rfl rfl (by kernel_rfl) (fun _ _ _ h => h) (Or.inl ⟨by rfl, fun w' hS => old_load rfl (by rfl) hui rfl ((hS.bel.cell (World.block_lt_of_cell? w _ HX.out.1)).trans HX.out.1)⟩) hHeld ?_ ?_
              rotate_left
              · simp only [Act.put, List.setIfInBounds_toArray, List.set_cons_zero, List.set_cons_succ, i64_w, i32_w]
                rfl
              refine Hp.pu_ 6 148 (Hp.up 17 7) ?_
              refine Hp.pu_ 7 149 (Hp.up 17 8) ?_
              refine Hp.pu_ 8 150 (Hp.up 17 9) ?_
              refine Hp.pu_ 9 151 (Hp.up 17 10) ?_
              refine take_ (i := 10) (N := some 152) (v := .int .i64 ax) (a' := ?_) (Hp.up 17 11) rfl rfl (by kernel_rfl) (fun _ _ _ h => h) (Or.inl ⟨by rfl, fun w' hS => old_load rfl (by rfl) hui rfl ((hS.bel.cell (World.block_lt_of_cell? w _ HX.out.2.1)).trans HX.out.2.1)⟩) hHeld ?_ ?_
              rotate_left
              · simp only [Act.put, List.setIfInBounds_toArray, List.set_cons_zero, List.set_cons_succ, i64_w, i32_w]
                rfl
              refine Hp.pu_ 11 153 (Hp.up 17 12) ?_
              refine Hp.pu_ 12 154 (Hp.up 17 13) ?_
              refine Hp.pu_ 13 155 (Hp.up 17 14) ?_
              refine Hp.pu_ 14 156 (Hp.up 17 15) ?_
              refine take_ (i := 15) (N := some 157) (v := .int .u8 cx) (a' := ?_) (Hp.up 17 16) rfl rfl (by kernel_rfl) (fun _ _ _ h => h) (Or.inl ⟨by rfl, fun w' hS => old_load rfl (by rfl) hu8 rfl ((hS.bel.cell (World.block_lt_of_cell? w _ HX.out.2.2)).trans HX.out.2.2)⟩) hHeld ?_ ?_
              rotate_left
              · simp only [Act.put, List.setIfInBounds_toArray, List.set_cons_zero, List.set_cons_succ, i64_w, i32_w]
                rfl
              refine last_ (i := 16) (N := some 158) (Hp.up 17 17) rfl rfl (by kernel_rfl) (by decide) (fun K hK => ?_)
              refine goes_ Try.func20 (by kernel_rfl) rfl #[.pointer (some ⟨gw, 0, none⟩), .int .i64 kx, .int .i64 ax, .int .u8 cx] (by rfl) rfl rfl (by (try simp only [List.map_toArray, List.map_cons, List.map_nil]); first | done | rfl) ?_
              refine (write_calls w _ _ X gw (Z : Int) Z N A c D cx kx ax HNn.out HZn.out rfl HD.out.1 HX0.out HO.out.toW).mono ?_
              rintro e wx ⟨rfl, X2, hX2, hO_⟩
              refine ⟨_, rfl, ?_⟩
              have HX2 := Aside0.mk hX2
              clear hX2
              have hO_ := hO_.fromW
              clear HO; have HO := Aside0.mk hO_; clear hO_
              refine hK.out _ _ ?_
              clear hK K
              refine norm_ (a' := ?_) ?_ ?_
              rotate_left
              · show Act.put _ (some 158) _ = _
                simp only [Act.put, List.setIfInBounds_toArray, List.set_cons_zero, List.set_cons_succ, i64_w, i32_w]
                rfl
              refine done_ (by kernel_rfl) ?_
              clear hHeld
              obtain ⟨D1, hD1⟩ : ∃ D1, (wrote D Z kx ax cx) = D1 := ⟨_, rfl⟩
              rw [hD1] at HO HX2 HDw
              have HB1 : Aside0 (D1.flatten.length = NN) := ⟨by rw [flat_len D1 Z HDw.out.2, HDw.out.1, HS2.out]⟩
              clear hD1
              try clear hx0 hx1 hx2
              try go_wp2
              refine start_ (n := 7) (S := fun W => Own w W ([] : Hl)) (ds := []) #[false, false, false, false, false, false, false] (by kernel_rfl) rfl rfl (Own.drew (HO.out.dropAll)) (fun hHeld => ?_)
              have HO_ := Aside0.mk HO.out.drew
              clear HO
              have HO := HO_
              clear HO_
              generalize World.drew _ = wr at HO hHeld ⊢
              refine Hp.pu_ 0 159 (Hp.up 7 1) ?_
              refine Hp.pu_ 3 162 #[true, false, false, true, false, false, false] ?_
              refine join_ (σ := Value × Value) 1 (Hp.up 7 6) (fun s_ => [(160, s_.1), (161, .string (strOfNums D1.flatten)), (163, s_.2), (164, .string (strOfNums D1.flatten))]) (fun s_ w' => Own w w' ((ga, .cells #[.int .i64 (Z : Int), .slice (some ⟨gb, 0, none⟩) NN NN] 126 (0, 0)) :: (gb, .cells (u8s (D1).flatten) 5 (0, 0)) :: (gw, .cells #[.int .i64 (Z : Int), .slice A N c] 129 (0, 0)) :: (X2 ++ (((gc, .cells #[.int .i64 (Z : Int), .slice A3 NN c3] 126 (0, 0)) :: R2) ++ [])))) ?_ ?_
              rotate_left
              · intro hCont
                refine one_ (i := 1) (N := some 160) #[true, true, false, true, false, false, false] rfl rfl (by kernel_rfl) (by decide) (fun K hK => ?_)
                refine goes_ Try.func18 (by kernel_rfl) rfl #[.pointer (some ⟨ga, 0, none⟩)] (by rfl) rfl rfl (by (try simp only [List.map_toArray, List.map_cons, List.map_nil]); first | done | rfl) ?_
                refine (bytes_calls w _ ((gw, .cells #[.int .i64 (Z : Int), .slice A N c] 129 (0, 0)) :: (X2 ++ (((gc, .cells #[.int .i64 (Z : Int), .slice A3 NN c3] 126 (0, 0)) :: R2) ++ []))) ga gb (Z : Int) NN D1.flatten HB1.out HM.out HO.out).mono ?_
                rintro e wx ⟨v5, rfl, R5, hR5, hO_⟩
                refine ⟨_, rfl, ?_⟩
                have HR5 := Aside0.mk hR5
                clear hR5
                have hO_ := hO_.intail
                clear HO; have HO := Aside0.mk hO_; clear hO_
                refine hK.out _ _ (HO.out.dropAll) (fun hHeld => ?_)
                clear hK K
                refine norm_ (a' := ?_) ?_ ?_
                rotate_left
                · show Act.put _ (some 160) _ = _
                  simp only [Act.put, List.setIfInBounds_toArray, List.set_cons_zero, List.set_cons_succ, i64_w, i32_w]
                  rfl
                refine two_ (i := 2) (j := 4) (Ni := some 161) (Nj := some 163) (Hp.up 7 4) #[true, true, false, true, true, false, false] rfl rfl rfl rfl (by kernel_rfl) (by decide) (by decide) (fun K hK => ?_) (fun K hK => ?_)
                · skip
                  refine event_step (by rfl) (exec_conv rfl (by rfl) (RowOf.string (P := Try.prog) hul hu8 hus HR5.out (Own.swap3 (B := ((ga, .cells #[.int .i64 (Z : Int), .slice (some ⟨gb, 0, none⟩) NN NN] 126 (0, 0)) :: (gb, .cells (u8s (D1).flatten) 5 (0, 0)) :: (gw, .cells #[.int .i64 (Z : Int), .slice A N c] 129 (0, 0)) :: X2)) (R := R5) HO.out))) ?_
                  refine hK.out _ _ (HO.out.dropAll) (fun hHeld => ?_)
                  clear hK K
                  refine norm_ (a' := ?_) ?_ ?_
                  rotate_left
                  · show Act.put _ (some 161) _ = _
                    simp only [Act.put, List.setIfInBounds_toArray, List.set_cons_zero, List.set_cons_succ, i64_w, i32_w]
                    rfl
                  refine one_ (i := 4) (N := some 163) (Hp.up 7 5) rfl rfl (by kernel_rfl) (by decide) (fun K hK => ?_)
                  refine goes_ Try.func21 (by kernel_rfl) rfl #[.pointer (some ⟨gw, 0, none⟩)] (by rfl) rfl rfl (by (try simp only [List.map_toArray, List.map_cons, List.map_nil]); first | done | rfl) ?_
                  refine (rbytes_calls w _ ((ga, .cells #[.int .i64 (Z : Int), .slice (some ⟨gb, 0, none⟩) NN NN] 126 (0, 0)) :: (gb, .cells (u8s (D1).flatten) 5 (0, 0)) :: (R5 ++ (((gc, .cells #[.int .i64 (Z : Int), .slice A3 NN c3] 126 (0, 0)) :: R2) ++ []))) X2 gw (Z : Int) Z N A c D1 HNn.out HZn.out rfl HDw.out.1 HX2.out HO.out.toW).mono ?_
                  rintro e wx ⟨v6, rfl, R6, hR6, hO_⟩
                  refine ⟨_, rfl, ?_⟩
                  have HR6 := Aside0.mk hR6
                  clear hR6
                  have hO_ := hO_.fromW2
                  clear HO; have HO := Aside0.mk hO_; clear hO_
                  refine hK.out _ _ (HO.out.dropAll) (fun hHeld => ?_)
                  clear hK K
                  refine norm_ (a' := ?_) ?_ ?_
                  rotate_left
                  · show Act.put _ (some 163) _ = _
                    simp only [Act.put, List.setIfInBounds_toArray, List.set_cons_zero, List.set_cons_succ, i64_w, i32_w]
                    rfl
                  refine one_ (i := 5) (N := some 164) (Hp.up 7 6) rfl rfl (by kernel_rfl) (by decide) (fun K hK => ?_)
                  refine event_step (by rfl) (exec_conv rfl (by rfl) (RowOf.string (P := Try.prog) hul hu8 hus HR6.out (Own.swap3 (B := ((ga, .cells #[.int .i64 (Z : Int), .slice (some ⟨gb, 0, none⟩) NN NN] 126 (0, 0)) :: (gb, .cells (u8s (D1).flatten) 5 (0, 0)) :: (gw, .cells #[.int .i64 (Z : Int), .slice A N c] 129 (0, 0)) :: X2)) (R := R6) HO.out))) ?_
                  refine hK.out _ _ (HO.out.dropAll) (fun hHeld => ?_)
                  clear hK K
                  refine norm_ (a' := ?_) ?_ ?_
                  rotate_left
                  · show Act.put _ (some 164) _ = _
                    simp only [Act.put, List.setIfInBounds_toArray, List.set_cons_zero, List.set_cons_succ, i64_w, i32_w]
                    rfl
                  exact norm_ (by simp only [putAll, Act.put, List.setIfInBounds_toArray, List.set_cons_zero, List.set_cons_succ]) (hCont (v5, v6) _ (Own.droptail (S := ((ga, .cells #[.int .i64 (Z : Int), .slice (some ⟨gb, 0, none⟩) NN NN] 126 (0, 0)) :: (gb, .cells (u8s (D1).flatten) 5 (0, 0)) :: (gw, .cells #[.int .i64 (Z : Int), .slice A N c] 129 (0, 0)) :: X2)) (Own.droptail (S := ((ga, .cells #[.int .i64 (Z : Int), .slice (some ⟨gb, 0, none⟩) NN NN] 126 (0, 0)) :: (gb, .cells (u8s (D1).flatten) 5 (0, 0)) :: (gw, .cells #[.int .i64 (Z : Int), .slice A N c] 129 (0, 0)) :: X2)) HO.out)))
                · skip
                  refine goes_ Try.func21 (by kernel_rfl) rfl #[.pointer (some ⟨gw, 0, none⟩)] (by rfl) rfl rfl (by (try simp only [List.map_toArray, List.map_cons, List.map_nil]); first | done | rfl) ?_
                  refine (rbytes_calls w _ ((ga, .cells #[.int .i64 (Z : Int), .slice (some ⟨gb, 0, none⟩) NN NN] 126 (0, 0)) :: (gb, .cells (u8s (D1).flatten) 5 (0, 0)) :: (R5 ++ (((gc, .cells #[.int .i64 (Z : Int), .slice A3 NN c3] 126 (0, 0)) :: R2) ++ []))) X2 gw (Z : Int) Z N A c D1 HNn.out HZn.out rfl HDw.out.1 HX2.out HO.out.toW).mono ?_
                  rintro e wx ⟨v6, rfl, R6, hR6, hO_⟩
                  refine ⟨_, rfl, ?_⟩
                  have HR6 := Aside0.mk hR6
                  clear hR6
                  have hO_ := hO_.fromW2
                  clear HO; have HO := Aside0.mk hO_; clear hO_
                  refine hK.out _ _ (HO.out.dropAll) (fun hHeld => ?_)
                  clear hK K
                  refine norm_ (a' := ?_) ?_ ?_
                  rotate_left
                  · show Act.put _ (some 163) _ = _
                    simp only [Act.put, List.setIfInBounds_toArray, List.set_cons_zero, List.set_cons_succ, i64_w, i32_w]
                    rfl
                  refine two_ (i := 2) (j := 5) (Ni := some 161) (Nj := some 164) (Hp.up 7 5) #[true, true, false, true, true, true, false] rfl rfl rfl rfl (by kernel_rfl) (by decide) (by decide) (fun K hK => ?_) (fun K hK => ?_)
                  · skip
                    refine event_step (by rfl) (exec_conv rfl (by rfl) (RowOf.string (P := Try.prog) hul hu8 hus HR5.out (Own.swap3 (B := ((ga, .cells #[.int .i64 (Z : Int), .slice (some ⟨gb, 0, none⟩) NN NN] 126 (0, 0)) :: (gb, .cells (u8s (D1).flatten) 5 (0, 0)) :: (gw, .cells #[.int .i64 (Z : Int), .slice A N c] 129 (0, 0)) :: X2)) (R := R5) (Own.swap4 (S := ((ga, .cells #[.int .i64 (Z : Int), .slice (some ⟨gb, 0, none⟩) NN NN] 126 (0, 0)) :: (gb, .cells (u8s (D1).flatten) 5 (0, 0)) :: (gw, .cells #[.int .i64 (Z : Int), .slice A N c] 129 (0, 0)) :: X2)) (B := R6) (R := R5) HO.out)))) ?_
                    refine hK.out _ _ (HO.out.dropAll) (fun hHeld => ?_)
                    clear hK K
                    refine norm_ (a' := ?_) ?_ ?_
                    rotate_left
                    · show Act.put _ (some 161) _ = _
                      simp only [Act.put, List.setIfInBounds_toArray, List.set_cons_zero, List.set_cons_succ, i64_w, i32_w]
                      rfl
                    refine one_ (i := 5) (N := some 164) (Hp.up 7 6) rfl rfl (by kernel_rfl) (by decide) (fun K hK => ?_)
                    refine event_step (by rfl) (exec_conv rfl (by rfl) (RowOf.string (P := Try.prog) hul hu8 hus HR6.out (Own.swap3 (B := ((ga, .cells #[.int .i64 (Z : Int), .slice (some ⟨gb, 0, none⟩) NN NN] 126 (0, 0)) :: (gb, .cells (u8s (D1).flatten) 5 (0, 0)) :: (gw, .cells #[.int .i64 (Z : Int), .slice A N c] 129 (0, 0)) :: X2)) (R := R6) HO.out))) ?_
                    refine hK.out _ _ (HO.out.dropAll) (fun hHeld => ?_)
                    clear hK K
                    refine norm_ (a' := ?_) ?_ ?_
                    rotate_left
                    · show Act.put _ (some 164) _ = _
                      simp only [Act.put, List.setIfInBounds_toArray, List.set_cons_zero, List.set_cons_succ, i64_w, i32_w]
                      rfl
                    exact norm_ (by simp only [putAll, Act.put, List.setIfInBounds_toArray, List.set_cons_zero, List.set_cons_succ]) (hCont (v5, v6) _ (Own.droptail (S := ((ga, .cells #[.int .i64 (Z : Int), .slice (some ⟨gb, 0, none⟩) NN NN] 126 (0, 0)) :: (gb, .cells (u8s (D1).flatten) 5 (0, 0)) :: (gw, .cells #[.int .i64 (Z : Int), .slice A N c] 129 (0, 0)) :: X2)) (Own.droptail (S := ((ga, .cells #[.int .i64 (Z : Int), .slice (some ⟨gb, 0, none⟩) NN NN] 126 (0, 0)) :: (gb, .cells (u8s (D1).flatten) 5 (0, 0)) :: (gw, .cells #[.int .i64 (Z : Int), .slice A N c] 129 (0, 0)) :: X2)) HO.out)))
                  · skip
                    refine event_step (by rfl) (exec_conv rfl (by rfl) (RowOf.string (P := Try.prog) hul hu8 hus HR6.out (Own.swap3 (B := ((ga, .cells #[.int .i64 (Z : Int), .slice (some ⟨gb, 0, none⟩) NN NN] 126 (0, 0)) :: (gb, .cells (u8s (D1).flatten) 5 (0, 0)) :: (gw, .cells #[.int .i64 (Z : Int), .slice A N c] 129 (0, 0)) :: X2)) (R := R6) HO.out))) ?_
                    refine hK.out _ _ (HO.out.dropAll) (fun hHeld => ?_)
                    clear hK K
                    refine norm_ (a' := ?_) ?_ ?_
                    rotate_left
                    · show Act.put _ (some 164) _ = _
                      simp only [Act.put, List.setIfInBounds_toArray, List.set_cons_zero, List.set_cons_succ, i64_w, i32_w]
                      rfl
                    refine one_ (i := 2) (N := some 161) (Hp.up 7 6) rfl rfl (by kernel_rfl) (by decide) (fun K hK => ?_)
                    refine event_step (by rfl) (exec_conv rfl (by rfl) (RowOf.string (P := Try.prog) hul hu8 hus HR5.out (Own.swap3 (B := ((ga, .cells #[.int .i64 (Z : Int), .slice (some ⟨gb, 0, none⟩) NN NN] 126 (0, 0)) :: (gb, .cells (u8s (D1).flatten) 5 (0, 0)) :: (gw, .cells #[.int .i64 (Z : Int), .slice A N c] 129 (0, 0)) :: X2)) (R := R5) (Own.swap4 (S := ((ga, .cells #[.int .i64 (Z : Int), .slice (some ⟨gb, 0, none⟩) NN NN] 126 (0, 0)) :: (gb, .cells (u8s (D1).flatten) 5 (0, 0)) :: (gw, .cells #[.int .i64 (Z : Int), .slice A N c] 129 (0, 0)) :: X2)) (B := R6) (R := R5) HO.out)))) ?_
                    refine hK.out _ _ (HO.out.dropAll) (fun hHeld => ?_)
                    clear hK K
                    refine norm_ (a' := ?_) ?_ ?_
                    rotate_left
                    · show Act.put _ (some 161) _ = _
                      simp only [Act.put, List.setIfInBounds_toArray, List.set_cons_zero, List.set_cons_succ, i64_w, i32_w]
                      rfl
                    exact norm_ (by simp only [putAll, Act.put, List.setIfInBounds_toArray, List.set_cons_zero, List.set_cons_succ]) (hCont (v5, v6) _ (Own.droptail (S := ((ga, .cells #[.int .i64 (Z : Int), .slice (some ⟨gb, 0, none⟩) NN NN] 126 (0, 0)) :: (gb, .cells (u8s (D1).flatten) 5 (0, 0)) :: (gw, .cells #[.int .i64 (Z : Int), .slice A N c] 129 (0, 0)) :: X2)) (Own.droptail (S := ((ga, .cells #[.int .i64 (Z : Int), .slice (some ⟨gb, 0, none⟩) NN NN] 126 (0, 0)) :: (gb, .cells (u8s (D1).flatten) 5 (0, 0)) :: (gw, .cells #[.int .i64 (Z : Int), .slice A N c] 129 (0, 0)) :: X2)) HO.out)))
              rintro ⟨v5, v6⟩ wj hO_
              clear HO
              have HO := Aside0.mk hO_
              have hHeld := HO.out.dropAll
              clear hO_
              refine norm_ (a' := ?_) ?_ ?_
              rotate_left
              · simp only [putAll, Act.put, List.setIfInBounds_toArray, List.set_cons_zero, List.set_cons_succ]
                rfl
              refine Hp.pu_ 6 165 (Hp.up 7 7) ?_
              refine done_ (by kernel_rfl) ?_
              clear hHeld
              go_wp2
              go_roundg gk
              case measure => omega
              case rel => exact ⟨i + 1, D1, X2, ((gc, .cells #[.int .i64 (Z : Int), .slice A3 NN c3] 126 (0, 0)) :: R2), rfl, ⟨by have := HI.out; omega⟩, HDw, HX2, ⟨.inr ⟨gc, A3, c3, R2, D.flatten, rfl, rfl, rfl, HR2.out⟩⟩, HO⟩
            · have c5 : decide (0 ≤ kx) = false := decide_eq_false hk0
              clear hk hk0
              go_wp2_with (first | ((with_reducible refine gate_callee (f := 17) rfl ?_); (with_reducible refine gate_dst (N := 60) rfl ?_); refine goesL_ (some 60) rfl rfl Try.func17 (by kernel_rfl) rfl #[.pointer (some ⟨ga, 0, none⟩)] rfl (by (try simp only [List.map_toArray, List.map_cons, List.map_nil]); first | done | rfl) ?_; (with_reducible refine (copy_calls w _ ((gw, .cells #[.int .i64 (Z : Int), .slice A N c] 129 (0, 0)) :: (X ++ (Y ++ []))) ga gb (Z : Int) NN D.flatten HB.out HM.out HO.out).mono ?_); rintro e wx ⟨gc, rfl, A3, c3, R2, hR2, hO_⟩; refine ⟨_, rfl, ?_⟩; have HR2 := Aside0.mk hR2; clear hR2; have hO_ := hO_.copied; clear HO; have HO := Aside0.mk hO_; clear hO_; (try clear hx0 hx1 hx2); have hx0 := (HO.out.bel.cell (World.block_lt_of_cell? w _ HX.out.1)).trans HX.out.1; have hx1 := (HO.out.bel.cell (World.block_lt_of_cell? w _ HX.out.2.1)).trans HX.out.2.1; have hx2 := (HO.out.bel.cell (World.block_lt_of_cell? w _ HX.out.2.2)).trans HX.out.2.2) | ((with_reducible refine gate_callee (f := 18) rfl ?_); (with_reducible refine gate_dst (N := 62) rfl ?_); refine goesL_ (some 62) rfl rfl Try.func18 (by kernel_rfl) rfl #[.pointer (some ⟨ga, 0, none⟩)] rfl (by (try simp only [List.map_toArray, List.map_cons, List.map_nil]); first | done | rfl) ?_; (with_reducible refine (bytes_calls w _ ((gw, .cells #[.int .i64 (Z : Int), .slice A N c] 129 (0, 0)) :: (X ++ (((gc, .cells #[.int .i64 (Z : Int), .slice A3 NN c3] 126 (0, 0)) :: R2) ++ []))) ga gb (Z : Int) NN D.flatten HB.out HM.out HO.out).mono ?_); rintro e wx ⟨v4, rfl, R4, hR4, hO_⟩; refine ⟨_, rfl, ?_⟩; have HR4 := Aside0.mk hR4; clear hR4; clear HO; have HO := Aside0.mk hO_; clear hO_; (try clear hx0 hx1 hx2); have hx0 := (HO.out.bel.cell (World.block_lt_of_cell? w _ HX.out.1)).trans HX.out.1; have hx1 := (HO.out.bel.cell (World.block_lt_of_cell? w _ HX.out.2.1)).trans HX.out.2.1; have hx2 := (HO.out.bel.cell (World.block_lt_of_cell? w _ HX.out.2.2)).trans HX.out.2.2) | ((with_reducible refine gate_dst (N := 63) rfl ?_); refine conv_run rfl rfl (by rfl) (RowOf.string (P := Try.prog) hul hu8 hus HR4.out HO.out) ?_; have hO_ := Own.last (B := R4) HO.out; clear HO; have HO := Aside0.mk hO_; clear hO_; (try clear hx0 hx1 hx2); have hx0 := (HO.out.bel.cell (World.block_lt_of_cell? w _ HX.out.1)).trans HX.out.1; have hx1 := (HO.out.bel.cell (World.block_lt_of_cell? w _ HX.out.2.1)).trans HX.out.2.1; have hx2 := (HO.out.bel.cell (World.block_lt_of_cell? w _ HX.out.2.2)).trans HX.out.2.2) | ((with_reducible refine gate_callee (f := 19) rfl ?_); (with_reducible refine gate_dst (N := 71) rfl ?_); refine goesL_ (some 71) rfl rfl Try.func19 (by kernel_rfl) rfl #[.pointer (some ⟨ga, 0, none⟩), .int .i64 kx] rfl (by (try simp only [List.map_toArray, List.map_cons, List.map_nil]); first | done | rfl) ?_; (with_reducible refine (slot_none w _ ((gw, .cells #[.int .i64 (Z : Int), .slice A N c] 129 (0, 0)) :: (X ++ (((gc, .cells #[.int .i64 (Z : Int), .slice A3 NN c3] 126 (0, 0)) :: R2) ++ []))) ga gb (Z : Int) NN D.flatten kx (N : Int) HZ.out HN.out.1 HS.out HK.out HO.out).mono ?_); rintro e wx ⟨rfl, hO_⟩; refine ⟨_, rfl, ?_⟩; clear HO; have HO := Aside0.mk hO_; clear hO_; (try clear hx0 hx1 hx2); have hx0 := (HO.out.bel.cell (World.block_lt_of_cell? w _ HX.out.1)).trans HX.out.1; have hx1 := (HO.out.bel.cell (World.block_lt_of_cell? w _ HX.out.2.1)).trans HX.out.2.1; have hx2 := (HO.out.bel.cell (World.block_lt_of_cell? w _ HX.out.2.2)).trans HX.out.2.2) | ((with_reducible refine gate_dst (N := 140) rfl ?_); refine own_lit HO.out ?hg (N := 140) ?hd (cs := #[.int .u8 77]) (t := 5) (n := 1) (m := 1) ?hr ?_; (case hd => rfl); (case hg => rfl); (case hr => first | (go_simp; done) | (go_simp; rfl) | kernel_rfl); intro g140 w140 hO_; clear HO; have HO := Aside0.mk hO_; clear hO_) | ((with_reducible refine gate_dst (N := 141) rfl ?_); refine own_append (z := .int .u8 0) (size := 1) (bytes := 1) (R := []) (L := (g140, .cells #[.int .u8 77] 5 (0, 0)) :: _) [] HO.out rfl rfl hul (by kernel_rfl) rfl (by rfl) (RowOf.none _ _) (by rfl) (HO.out.src hul .head 0 1 1 [.int .u8 77] rfl rfl (by simp [Value.oneCell'])) (by decide) (by decide) ?_; intro v9 R9 wc hR9 hO_; clear hR9; have hO_ := (Own.last (B := R9) hO_).drop; clear HO; have HO := Aside0.mk hO_; clear hO_; (try clear hx0 hx1 hx2); have hx0 := (HO.out.bel.cell (World.block_lt_of_cell? w _ HX.out.1)).trans HX.out.1; have hx1 := (HO.out.bel.cell (World.block_lt_of_cell? w _ HX.out.2.1)).trans HX.out.2.1; have hx2 := (HO.out.bel.cell (World.block_lt_of_cell? w _ HX.out.2.2)).trans HX.out.2.2))
              have hO_ := HO.out
              rw [← HW.out] at hO_
              clear HO; have HO := Aside0.mk hO_; clear hO_; (try clear hx0 hx1 hx2); have hx0 := (HO.out.bel.cell (World.block_lt_of_cell? w _ HX.out.1)).trans HX.out.1; have hx1 := (HO.out.bel.cell (World.block_lt_of_cell? w _ HX.out.2.1)).trans HX.out.2.1; have hx2 := (HO.out.bel.cell (World.block_lt_of_cell? w _ HX.out.2.2)).trans HX.out.2.2
              refine start_ (n := 17) (S := fun W => Own w W ([])) (ds := [16]) #[false, false, false, false, false, false, false, false, false, false, false, false, false, false, false, false, false] (by kernel_rfl) rfl rfl (Own.drew (HO.out.picks (.nil))) (fun hHeld => ?_)
              have HO_ := Aside0.mk HO.out.drew
              clear HO
              have HO := HO_
              clear HO_
              generalize World.drew _ = wr at HO hHeld ⊢
              refine Hp.pu_ 0 142 (Hp.up 17 1) ?_
              refine Hp.pu_ 1 143 (Hp.up 17 2) ?_
              refine Hp.pu_ 2 144 (Hp.up 17 3) ?_
              refine Hp.pu_ 3 145 (Hp.up 17 4) ?_
              refine Hp.pu_ 4 146 (Hp.up 17 5) ?_
              refine take_ (i := 5) (N := some 147) (v := .int .i64 kx) (a' := ?_) (Hp.up 17 6) rfl rfl (by kernel_rfl) (fun _ _ _ h => h) (Or.inl ⟨by rfl, fun w' hS => old_load rfl (by rfl) hui rfl ((hS.bel.cell (World.block_lt_of_cell? w _ HX.out.1)).trans HX.out.1)⟩) hHeld ?_ ?_
              rotate_left
              · simp only [Act.put, List.setIfInBounds_toArray, List.set_cons_zero, List.set_cons_succ, i64_w, i32_w]
                rfl
              refine Hp.pu_ 6 148 (Hp.up 17 7) ?_
              refine Hp.pu_ 7 149 (Hp.up 17 8) ?_
              refine Hp.pu_ 8 150 (Hp.up 17 9) ?_
              refine Hp.pu_ 9 151 (Hp.up 17 10) ?_
              refine take_ (i := 10) (N := some 152) (v := .int .i64 ax) (a' := ?_) (Hp.up 17 11) rfl rfl (by kernel_rfl) (fun _ _ _ h => h) (Or.inl ⟨by rfl, fun w' hS => old_load rfl (by rfl) hui rfl ((hS.bel.cell (World.block_lt_of_cell? w _ HX.out.2.1)).trans HX.out.2.1)⟩) hHeld ?_ ?_
              rotate_left
              · simp only [Act.put, List.setIfInBounds_toArray, List.set_cons_zero, List.set_cons_succ, i64_w, i32_w]
                rfl
              refine Hp.pu_ 11 153 (Hp.up 17 12) ?_
              refine Hp.pu_ 12 154 (Hp.up 17 13) ?_
              refine Hp.pu_ 13 155 (Hp.up 17 14) ?_
              refine Hp.pu_ 14 156 (Hp.up 17 15) ?_
              refine take_ (i := 15) (N := some 157) (v := .int .u8 cx) (a' := ?_) (Hp.up 17 16) rfl rfl (by kernel_rfl) (fun _ _ _ h => h) (Or.inl ⟨by rfl, fun w' hS => old_load rfl (by rfl) hu8 rfl ((hS.bel.cell (World.block_lt_of_cell? w _ HX.out.2.2)).trans HX.out.2.2)⟩) hHeld ?_ ?_
              rotate_left
              · simp only [Act.put, List.setIfInBounds_toArray, List.set_cons_zero, List.set_cons_succ, i64_w, i32_w]
                rfl
              refine last_ (i := 16) (N := some 158) (Hp.up 17 17) rfl rfl (by kernel_rfl) (by decide) (fun K hK => ?_)
              refine goes_ Try.func20 (by kernel_rfl) rfl #[.pointer (some ⟨gw, 0, none⟩), .int .i64 kx, .int .i64 ax, .int .u8 cx] (by rfl) rfl rfl (by (try simp only [List.map_toArray, List.map_cons, List.map_nil]); first | done | rfl) ?_
              refine (write_calls w _ _ X gw (Z : Int) Z N A c D cx kx ax HNn.out HZn.out rfl HD.out.1 HX0.out HO.out.toW).mono ?_
              rintro e wx ⟨rfl, X2, hX2, hO_⟩
              refine ⟨_, rfl, ?_⟩
              have HX2 := Aside0.mk hX2
              clear hX2
              have hO_ := hO_.fromW
              clear HO; have HO := Aside0.mk hO_; clear hO_
              refine hK.out _ _ ?_
              clear hK K
              refine norm_ (a' := ?_) ?_ ?_
              rotate_left
              · show Act.put _ (some 158) _ = _
                simp only [Act.put, List.setIfInBounds_toArray, List.set_cons_zero, List.set_cons_succ, i64_w, i32_w]
                rfl
              refine done_ (by kernel_rfl) ?_
              clear hHeld
              obtain ⟨D1, hD1⟩ : ∃ D1, (wrote D Z kx ax cx) = D1 := ⟨_, rfl⟩
              rw [hD1] at HO HX2 HDw
              have HB1 : Aside0 (D1.flatten.length = NN) := ⟨by rw [flat_len D1 Z HDw.out.2, HDw.out.1, HS2.out]⟩
              clear hD1
              try clear hx0 hx1 hx2
              try go_wp2
              refine start_ (n := 7) (S := fun W => Own w W ([] : Hl)) (ds := []) #[false, false, false, false, false, false, false] (by kernel_rfl) rfl rfl (Own.drew (HO.out.dropAll)) (fun hHeld => ?_)
              have HO_ := Aside0.mk HO.out.drew
              clear HO
              have HO := HO_
              clear HO_
              generalize World.drew _ = wr at HO hHeld ⊢
              refine Hp.pu_ 0 159 (Hp.up 7 1) ?_
              refine Hp.pu_ 3 162 #[true, false, false, true, false, false, false] ?_
              refine join_ (σ := Value × Value) 1 (Hp.up 7 6) (fun s_ => [(160, s_.1), (161, .string (strOfNums D1.flatten)), (163, s_.2), (164, .string (strOfNums D1.flatten))]) (fun s_ w' => Own w w' ((ga, .cells #[.int .i64 (Z : Int), .slice (some ⟨gb, 0, none⟩) NN NN] 126 (0, 0)) :: (gb, .cells (u8s (D1).flatten) 5 (0, 0)) :: (gw, .cells #[.int .i64 (Z : Int), .slice A N c] 129 (0, 0)) :: (X2 ++ (((gc, .cells #[.int .i64 (Z : Int), .slice A3 NN c3] 126 (0, 0)) :: R2) ++ [])))) ?_ ?_
              rotate_left
              · intro hCont
                refine one_ (i := 1) (N := some 160) #[true, true, false, true, false, false, false] rfl rfl (by kernel_rfl) (by decide) (fun K hK => ?_)
                refine goes_ Try.func18 (by kernel_rfl) rfl #[.pointer (some ⟨ga, 0, none⟩)] (by rfl) rfl rfl (by (try simp only [List.map_toArray, List.map_cons, List.map_nil]); first | done | rfl) ?_
                refine (bytes_calls w _ ((gw, .cells #[.int .i64 (Z : Int), .slice A N c] 129 (0, 0)) :: (X2 ++ (((gc, .cells #[.int .i64 (Z : Int), .slice A3 NN c3] 126 (0, 0)) :: R2) ++ []))) ga gb (Z : Int) NN D1.flatten HB1.out HM.out HO.out).mono ?_
                rintro e wx ⟨v5, rfl, R5, hR5, hO_⟩
                refine ⟨_, rfl, ?_⟩
                have HR5 := Aside0.mk hR5
                clear hR5
                have hO_ := hO_.intail
                clear HO; have HO := Aside0.mk hO_; clear hO_
                refine hK.out _ _ (HO.out.dropAll) (fun hHeld => ?_)
                clear hK K
                refine norm_ (a' := ?_) ?_ ?_
                rotate_left
                · show Act.put _ (some 160) _ = _
                  simp only [Act.put, List.setIfInBounds_toArray, List.set_cons_zero, List.set_cons_succ, i64_w, i32_w]
                  rfl
                refine two_ (i := 2) (j := 4) (Ni := some 161) (Nj := some 163) (Hp.up 7 4) #[true, true, false, true, true, false, false] rfl rfl rfl rfl (by kernel_rfl) (by decide) (by decide) (fun K hK => ?_) (fun K hK => ?_)
                · skip
                  refine event_step (by rfl) (exec_conv rfl (by rfl) (RowOf.string (P := Try.prog) hul hu8 hus HR5.out (Own.swap3 (B := ((ga, .cells #[.int .i64 (Z : Int), .slice (some ⟨gb, 0, none⟩) NN NN] 126 (0, 0)) :: (gb, .cells (u8s (D1).flatten) 5 (0, 0)) :: (gw, .cells #[.int .i64 (Z : Int), .slice A N c] 129 (0, 0)) :: X2)) (R := R5) HO.out))) ?_
                  refine hK.out _ _ (HO.out.dropAll) (fun hHeld => ?_)
                  clear hK K
                  refine norm_ (a' := ?_) ?_ ?_
                  rotate_left
                  · show Act.put _ (some 161) _ = _
                    simp only [Act.put, List.setIfInBounds_toArray, List.set_cons_zero, List.set_cons_succ, i64_w, i32_w]
                    rfl
                  refine one_ (i := 4) (N := some 163) (Hp.up 7 5) rfl rfl (by kernel_rfl) (by decide) (fun K hK => ?_)
                  refine goes_ Try.func21 (by kernel_rfl) rfl #[.pointer (some ⟨gw, 0, none⟩)] (by rfl) rfl rfl (by (try simp only [List.map_toArray, List.map_cons, List.map_nil]); first | done | rfl) ?_
                  refine (rbytes_calls w _ ((ga, .cells #[.int .i64 (Z : Int), .slice (some ⟨gb, 0, none⟩) NN NN] 126 (0, 0)) :: (gb, .cells (u8s (D1).flatten) 5 (0, 0)) :: (R5 ++ (((gc, .cells #[.int .i64 (Z : Int), .slice A3 NN c3] 126 (0, 0)) :: R2) ++ []))) X2 gw (Z : Int) Z N A c D1 HNn.out HZn.out rfl HDw.out.1 HX2.out HO.out.toW).mono ?_
                  rintro e wx ⟨v6, rfl, R6, hR6, hO_⟩
                  refine ⟨_, rfl, ?_⟩
                  have HR6 := Aside0.mk hR6
                  clear hR6
                  have hO_ := hO_.fromW2
                  clear HO; have HO := Aside0.mk hO_; clear hO_
                  refine hK.out _ _ (HO.out.dropAll) (fun hHeld => ?_)
                  clear hK K
                  refine norm_ (a' := ?_) ?_ ?_
                  rotate_left
                  · show Act.put _ (some 163) _ = _
                    simp only [Act.put, List.setIfInBounds_toArray, List.set_cons_zero, List.set_cons_succ, i64_w, i32_w]
                    rfl
                  refine one_ (i := 5) (N := some 164) (Hp.up 7 6) rfl rfl (by kernel_rfl) (by decide) (fun K hK => ?_)
                  refine event_step (by rfl) (exec_conv rfl (by rfl) (RowOf.string (P := Try.prog) hul hu8 hus HR6.out (Own.swap3 (B := ((ga, .cells #[.int .i64 (Z : Int), .slice (some ⟨gb, 0, none⟩) NN NN] 126 (0, 0)) :: (gb, .cells (u8s (D1).flatten) 5 (0, 0)) :: (gw, .cells #[.int .i64 (Z : Int), .slice A N c] 129 (0, 0)) :: X2)) (R := R6) HO.out))) ?_
                  refine hK.out _ _ (HO.out.dropAll) (fun hHeld => ?_)
                  clear hK K
                  refine norm_ (a' := ?_) ?_ ?_
                  rotate_left
                  · show Act.put _ (some 164) _ = _
                    simp only [Act.put, List.setIfInBounds_toArray, List.set_cons_zero, List.set_cons_succ, i64_w, i32_w]
                    rfl
                  exact norm_ (by simp only [putAll, Act.put, List.setIfInBounds_toArray, List.set_cons_zero, List.set_cons_succ]) (hCont (v5, v6) _ (Own.droptail (S := ((ga, .cells #[.int .i64 (Z : Int), .slice (some ⟨gb, 0, none⟩) NN NN] 126 (0, 0)) :: (gb, .cells (u8s (D1).flatten) 5 (0, 0)) :: (gw, .cells #[.int .i64 (Z : Int), .slice A N c] 129 (0, 0)) :: X2)) (Own.droptail (S := ((ga, .cells #[.int .i64 (Z : Int), .slice (some ⟨gb, 0, none⟩) NN NN] 126 (0, 0)) :: (gb, .cells (u8s (D1).flatten) 5 (0, 0)) :: (gw, .cells #[.int .i64 (Z : Int), .slice A N c] 129 (0, 0)) :: X2)) HO.out)))
                · skip
                  refine goes_ Try.func21 (by kernel_rfl) rfl #[.pointer (some ⟨gw, 0, none⟩)] (by rfl) rfl rfl (by (try simp only [List.map_toArray, List.map_cons, List.map_nil]); first | done | rfl) ?_
                  refine (rbytes_calls w _ ((ga, .cells #[.int .i64 (Z : Int), .slice (some ⟨gb, 0, none⟩) NN NN] 126 (0, 0)) :: (gb, .cells (u8s (D1).flatten) 5 (0, 0)) :: (R5 ++ (((gc, .cells #[.int .i64 (Z : Int), .slice A3 NN c3] 126 (0, 0)) :: R2) ++ []))) X2 gw (Z : Int) Z N A c D1 HNn.out HZn.out rfl HDw.out.1 HX2.out HO.out.toW).mono ?_
                  rintro e wx ⟨v6, rfl, R6, hR6, hO_⟩
                  refine ⟨_, rfl, ?_⟩
                  have HR6 := Aside0.mk hR6
                  clear hR6
                  have hO_ := hO_.fromW2
                  clear HO; have HO := Aside0.mk hO_; clear hO_
                  refine hK.out _ _ (HO.out.dropAll) (fun hHeld => ?_)
                  clear hK K
                  refine norm_ (a' := ?_) ?_ ?_
                  rotate_left
                  · show Act.put _ (some 163) _ = _
                    simp only [Act.put, List.setIfInBounds_toArray, List.set_cons_zero, List.set_cons_succ, i64_w, i32_w]
                    rfl
                  refine two_ (i := 2) (j := 5) (Ni := some 161) (Nj := some 164) (Hp.up 7 5) #[true, true, false, true, true, true, false] rfl rfl rfl rfl (by kernel_rfl) (by decide) (by decide) (fun K hK => ?_) (fun K hK => ?_)
                  · skip
                    refine event_step (by rfl) (exec_conv rfl (by rfl) (RowOf.string (P := Try.prog) hul hu8 hus HR5.out (Own.swap3 (B := ((ga, .cells #[.int .i64 (Z : Int), .slice (some ⟨gb, 0, none⟩) NN NN] 126 (0, 0)) :: (gb, .cells (u8s (D1).flatten) 5 (0, 0)) :: (gw, .cells #[.int .i64 (Z : Int), .slice A N c] 129 (0, 0)) :: X2)) (R := R5) (Own.swap4 (S := ((ga, .cells #[.int .i64 (Z : Int), .slice (some ⟨gb, 0, none⟩) NN NN] 126 (0, 0)) :: (gb, .cells (u8s (D1).flatten) 5 (0, 0)) :: (gw, .cells #[.int .i64 (Z : Int), .slice A N c] 129 (0, 0)) :: X2)) (B := R6) (R := R5) HO.out)))) ?_
                    refine hK.out _ _ (HO.out.dropAll) (fun hHeld => ?_)
                    clear hK K
                    refine norm_ (a' := ?_) ?_ ?_
                    rotate_left
                    · show Act.put _ (some 161) _ = _
                      simp only [Act.put, List.setIfInBounds_toArray, List.set_cons_zero, List.set_cons_succ, i64_w, i32_w]
                      rfl
                    refine one_ (i := 5) (N := some 164) (Hp.up 7 6) rfl rfl (by kernel_rfl) (by decide) (fun K hK => ?_)
                    refine event_step (by rfl) (exec_conv rfl (by rfl) (RowOf.string (P := Try.prog) hul hu8 hus HR6.out (Own.swap3 (B := ((ga, .cells #[.int .i64 (Z : Int), .slice (some ⟨gb, 0, none⟩) NN NN] 126 (0, 0)) :: (gb, .cells (u8s (D1).flatten) 5 (0, 0)) :: (gw, .cells #[.int .i64 (Z : Int), .slice A N c] 129 (0, 0)) :: X2)) (R := R6) HO.out))) ?_
                    refine hK.out _ _ (HO.out.dropAll) (fun hHeld => ?_)
                    clear hK K
                    refine norm_ (a' := ?_) ?_ ?_
                    rotate_left
                    · show Act.put _ (some 164) _ = _
                      simp only [Act.put, List.setIfInBounds_toArray, List.set_cons_zero, List.set_cons_succ, i64_w, i32_w]
                      rfl
                    exact norm_ (by simp only [putAll, Act.put, List.setIfInBounds_toArray, List.set_cons_zero, List.set_cons_succ]) (hCont (v5, v6) _ (Own.droptail (S := ((ga, .cells #[.int .i64 (Z : Int), .slice (some ⟨gb, 0, none⟩) NN NN] 126 (0, 0)) :: (gb, .cells (u8s (D1).flatten) 5 (0, 0)) :: (gw, .cells #[.int .i64 (Z : Int), .slice A N c] 129 (0, 0)) :: X2)) (Own.droptail (S := ((ga, .cells #[.int .i64 (Z : Int), .slice (some ⟨gb, 0, none⟩) NN NN] 126 (0, 0)) :: (gb, .cells (u8s (D1).flatten) 5 (0, 0)) :: (gw, .cells #[.int .i64 (Z : Int), .slice A N c] 129 (0, 0)) :: X2)) HO.out)))
                  · skip
                    refine event_step (by rfl) (exec_conv rfl (by rfl) (RowOf.string (P := Try.prog) hul hu8 hus HR6.out (Own.swap3 (B := ((ga, .cells #[.int .i64 (Z : Int), .slice (some ⟨gb, 0, none⟩) NN NN] 126 (0, 0)) :: (gb, .cells (u8s (D1).flatten) 5 (0, 0)) :: (gw, .cells #[.int .i64 (Z : Int), .slice A N c] 129 (0, 0)) :: X2)) (R := R6) HO.out))) ?_
                    refine hK.out _ _ (HO.out.dropAll) (fun hHeld => ?_)
                    clear hK K
                    refine norm_ (a' := ?_) ?_ ?_
                    rotate_left
                    · show Act.put _ (some 164) _ = _
                      simp only [Act.put, List.setIfInBounds_toArray, List.set_cons_zero, List.set_cons_succ, i64_w, i32_w]
                      rfl
                    refine one_ (i := 2) (N := some 161) (Hp.up 7 6) rfl rfl (by kernel_rfl) (by decide) (fun K hK => ?_)
                    refine event_step (by rfl) (exec_conv rfl (by rfl) (RowOf.string (P := Try.prog) hul hu8 hus HR5.out (Own.swap3 (B := ((ga, .cells #[.int .i64 (Z : Int), .slice (some ⟨gb, 0, none⟩) NN NN] 126 (0, 0)) :: (gb, .cells (u8s (D1).flatten) 5 (0, 0)) :: (gw, .cells #[.int .i64 (Z : Int), .slice A N c] 129 (0, 0)) :: X2)) (R := R5) (Own.swap4 (S := ((ga, .cells #[.int .i64 (Z : Int), .slice (some ⟨gb, 0, none⟩) NN NN] 126 (0, 0)) :: (gb, .cells (u8s (D1).flatten) 5 (0, 0)) :: (gw, .cells #[.int .i64 (Z : Int), .slice A N c] 129 (0, 0)) :: X2)) (B := R6) (R := R5) HO.out)))) ?_
                    refine hK.out _ _ (HO.out.dropAll) (fun hHeld => ?_)
                    clear hK K
                    refine norm_ (a' := ?_) ?_ ?_
                    rotate_left
                    · show Act.put _ (some 161) _ = _
                      simp only [Act.put, List.setIfInBounds_toArray, List.set_cons_zero, List.set_cons_succ, i64_w, i32_w]
                      rfl
                    exact norm_ (by simp only [putAll, Act.put, List.setIfInBounds_toArray, List.set_cons_zero, List.set_cons_succ]) (hCont (v5, v6) _ (Own.droptail (S := ((ga, .cells #[.int .i64 (Z : Int), .slice (some ⟨gb, 0, none⟩) NN NN] 126 (0, 0)) :: (gb, .cells (u8s (D1).flatten) 5 (0, 0)) :: (gw, .cells #[.int .i64 (Z : Int), .slice A N c] 129 (0, 0)) :: X2)) (Own.droptail (S := ((ga, .cells #[.int .i64 (Z : Int), .slice (some ⟨gb, 0, none⟩) NN NN] 126 (0, 0)) :: (gb, .cells (u8s (D1).flatten) 5 (0, 0)) :: (gw, .cells #[.int .i64 (Z : Int), .slice A N c] 129 (0, 0)) :: X2)) HO.out)))
              rintro ⟨v5, v6⟩ wj hO_
              clear HO
              have HO := Aside0.mk hO_
              have hHeld := HO.out.dropAll
              clear hO_
              refine norm_ (a' := ?_) ?_ ?_
              rotate_left
              · simp only [putAll, Act.put, List.setIfInBounds_toArray, List.set_cons_zero, List.set_cons_succ]
                rfl
              refine Hp.pu_ 6 165 (Hp.up 7 7) ?_
              refine done_ (by kernel_rfl) ?_
              clear hHeld
              go_wp2
              go_roundg gk
              case measure => omega
              case rel => exact ⟨i + 1, D1, X2, ((gc, .cells #[.int .i64 (Z : Int), .slice A3 NN c3] 126 (0, 0)) :: R2), rfl, ⟨by have := HI.out; omega⟩, HDw, HX2, ⟨.inr ⟨gc, A3, c3, R2, D.flatten, rfl, rfl, rfl, HR2.out⟩⟩, HO⟩
        · have c3 : ((i : Int) == j) = false := by simpa using hcp
          clear hcp
          by_cases hk : 0 ≤ kx ∧ kx < (N : Int)
          · obtain ⟨k0, rfl⟩ : ∃ k0 : Nat, kx = (k0 : Int) := ⟨kx.toNat, by omega⟩
            have hkN : k0 < N := by omega
            have HK : Aside0 (0 ≤ (k0 : Int) ∧ (k0 : Int) < (N : Int)) := ⟨hk⟩
            have HKK : Aside0 (((k0 * Z : Nat) : Int) = (k0 : Int) * (Z : Int)) := ⟨by simp⟩
            have hkl : k0 * Z + Z ≤ NN := by have h1 : (k0 + 1) * Z ≤ N * Z := Nat.mul_le_mul_right Z hkN; rw [Nat.add_mul, Nat.one_mul] at h1; rw [HS2.out]; exact h1
            have HKL := Aside0.mk hkl
            have c6 : decide ((k0 : Int) < (N : Int)) = true := decide_eq_true (by omega)
            have c6n : decide (k0 < N) = true := decide_eq_true hkN
            have c5 : decide (0 ≤ (k0 : Int)) = true := decide_eq_true (by omega)
            by_cases ha : 0 ≤ ax ∧ ax < (Z : Int)
            · obtain ⟨a0, rfl⟩ : ∃ a0 : Nat, ax = (a0 : Int) := ⟨ax.toNat, by omega⟩
              have haZ : a0 < Z := by omega
              have hwr : wrote D Z (k0 : Int) (a0 : Int) cx = D.set k0 ((D.getD k0 []).set a0 cx) := if_pos (by have := HD.out.1; omega)
              have hfl : (wrote D Z (k0 : Int) (a0 : Int) cx).flatten = D.flatten.set (k0 * Z + a0) cx := by rw [hwr]; exact flat_set D Z HD.out.2 k0 a0 cx (by have := HD.out.1; omega) haZ
              have HJ : Aside0 (k0 * Z + a0 < (u8s D.flatten).size) := ⟨by rw [u8s_size, HB.out]; omega⟩
              have HCS : Aside0 ((u8s D.flatten).setIfInBounds (k0 * Z + a0) (.int .u8 cx) = u8s (wrote D Z (k0 : Int) (a0 : Int) cx).flatten) := ⟨by rw [u8s_set, hfl]⟩
              have HOL : Aside0 (((((wrote D Z (k0 : Int) (a0 : Int) cx).flatten.drop (k0 * Z)).take Z).map (Value.int .u8)).length = Z * 1) := ⟨by rw [List.length_map, List.length_take, List.length_drop, hfl, List.length_set, HB.out]; omega⟩
              have c7 : decide (0 ≤ (a0 : Int)) = true := decide_eq_true (by omega)
              have c8 : decide ((a0 : Int) < (Z : Int)) = true := decide_eq_true (by omega)
              have c8n : decide (a0 < Z) = true := decide_eq_true haZ
              have p2 := eq_true (show 0 ≤ (a0 : Int) by omega)
              have q2 := eq_true (show (a0 : Int) < (Z : Int) by omega)
              have q2n := eq_true haZ
              clear hk hkN hkl ha haZ hwr hfl
              go_wp2_with (first | ((with_reducible refine gate_callee (f := 19) rfl ?_); (with_reducible refine gate_dst (N := 71) rfl ?_); refine goesL_ (some 71) rfl rfl Try.func19 (by kernel_rfl) rfl #[.pointer (some ⟨ga, 0, none⟩), .int .i64 (k0 : Int)] rfl (by (try simp only [List.map_toArray, List.map_cons, List.map_nil]); first | done | rfl) ?_; (with_reducible refine (slot_ok w _ ((gw, .cells #[.int .i64 (Z : Int), .slice A N c] 129 (0, 0)) :: (X ++ (Y ++ []))) ga gb (Z : Int) NN D.flatten (k0 : Int) (N : Int) HZ.out HN.out.1 HS.out (k0 * Z) Z HK.out HKK.out rfl HKL.out HM.out HO.out).mono ?_); rintro e wx ⟨rfl, hO_⟩; refine ⟨_, rfl, ?_⟩; clear HO; have HO := Aside0.mk hO_; clear hO_; (try clear hx0 hx1 hx2); have hx0 := (HO.out.bel.cell (World.block_lt_of_cell? w _ HX.out.1)).trans HX.out.1; have hx1 := (HO.out.bel.cell (World.block_lt_of_cell? w _ HX.out.2.1)).trans HX.out.2.1; have hx2 := (HO.out.bel.cell (World.block_lt_of_cell? w _ HX.out.2.2)).trans HX.out.2.2))
              refine start_ (n := 13) (S := fun W => Own w W ([])) (ds := [12]) #[false, false, false, false, false, false, false, false, false, false, false, false, false] (by kernel_rfl) rfl rfl (Own.drew (HO.out.picks (.nil))) (fun hHeld => ?_)
              have HO_ := Aside0.mk HO.out.drew
              clear HO
              have HO := HO_
              clear HO_
              generalize World.drew _ = wr at HO hHeld ⊢
              refine Hp.pu_ 0 127 (Hp.up 13 1) ?_
              refine Hp.pu_ 1 128 (Hp.up 13 2) ?_
              refine Hp.pu_ 2 129 (Hp.up 13 3) ?_
              refine Hp.pu_ 3 130 (Hp.up 13 4) ?_
              refine Hp.pu_ 4 131 (Hp.up 13 5) ?_
              refine take_ (i := 5) (N := some 132) (v := .int .i64 (a0 : Int)) (a' := ?_) (Hp.up 13 6) rfl rfl (by kernel_rfl) (fun _ _ _ h => h) (Or.inl ⟨by rfl, fun w' hS => old_load rfl (by rfl) hui rfl ((hS.bel.cell (World.block_lt_of_cell? w _ HX.out.2.1)).trans HX.out.2.1)⟩) hHeld ?_ ?_
              rotate_left
              · simp only [Act.put, List.setIfInBounds_toArray, List.set_cons_zero, List.set_cons_succ, i64_w, i32_w]
                rfl
              refine Hp.pu_ 6 133 (Hp.up 13 7) ?_
              refine Hp.pu_ 7 134 (Hp.up 13 8) ?_
              refine Hp.pu_ 8 135 (Hp.up 13 9) ?_
              refine Hp.pu_ 9 136 (Hp.up 13 10) ?_
              refine take_ (i := 10) (N := some 137) (v := .int .u8 cx) (a' := ?_) (Hp.up 13 11) rfl rfl (by kernel_rfl) (fun _ _ _ h => h) (Or.inl ⟨by rfl, fun w' hS => old_load rfl (by rfl) hu8 rfl ((hS.bel.cell (World.block_lt_of_cell? w _ HX.out.2.2)).trans HX.out.2.2)⟩) hHeld ?_ ?_
              rotate_left
              · simp only [Act.put, List.setIfInBounds_toArray, List.set_cons_zero, List.set_cons_succ, i64_w, i32_w]
                rfl
              refine Hp.pu_ 11 138 (Hp.up 13 12) ?_
              refine last_ (i := 12) (N := none) (Hp.up 13 13) rfl rfl (by kernel_rfl) (by decide) (fun K hK => ?_)
              refine own_store_k HO.out (by rfl) rfl (ty := 5) (x := .tmp 138) (y := .tmp 137) (v := .int .u8 cx) (cs' := u8s (wrote D Z (k0 : Int) (a0 : Int) cx).flatten) rfl (by rfl) (by rfl) (.tail .head) (by kernel_rfl) (by rfl) HJ.out HCS.out ?_
              intro wc hO_
              have hO_ := hO_.twof
              clear HO; have HO := Aside0.mk hO_; clear hO_; (try clear hx0 hx1 hx2); have hx0 := (HO.out.bel.cell (World.block_lt_of_cell? w _ HX.out.1)).trans HX.out.1; have hx1 := (HO.out.bel.cell (World.block_lt_of_cell? w _ HX.out.2.1)).trans HX.out.2.1; have hx2 := (HO.out.bel.cell (World.block_lt_of_cell? w _ HX.out.2.2)).trans HX.out.2.2
              refine hK.out _ _ ?_
              clear hK K
              refine done_ (by kernel_rfl) ?_
              clear hHeld
              go_wp2_with (first | ((with_reducible refine gate_dst (N := 140) rfl ?_); refine own_lit HO.out ?hg (N := 140) ?hd (cs := #[.int .u8 77]) (t := 5) (n := 1) (m := 1) ?hr ?_; (case hd => rfl); (case hg => rfl); (case hr => first | (go_simp; done) | (go_simp; rfl) | kernel_rfl); intro g140 w140 hO_; clear HO; have HO := Aside0.mk hO_; clear hO_) | ((with_reducible refine gate_dst (N := 141) rfl ?_); refine own_append_away (z := .int .u8 0) (size := 1) (bytes := 1) (b := ⟨gb, k0 * Z, none⟩) (n := Z) HO.out rfl rfl hul (by kernel_rfl) rfl (by decide) (olds := (((wrote D Z (k0 : Int) (a0 : Int) cx).flatten.drop (k0 * Z)).take Z).map (Value.int .u8)) (by rfl) HOL.out (fun j u hj => away_cells (HO.out.get (by (repeat (first | exact .head | apply Ext.tail)))) hj) (ad := ⟨g140, 0, none⟩) (m := 1) (c := 1) (news := [.int .u8 77]) (by rfl) rfl (fun j u hj => by rw [Addr.add_lit]; exact HO.out.range .head 0 [.int .u8 77] rfl j u hj) (by decide) (by have := HZn.out; show Z + 1 ≤ 9223372036854775807; omega) (by have := HZn.out; omega) ?_; intro v9 wc hO_; have hO_ := hO_.drop; clear HO; have HO := Aside0.mk hO_; clear hO_; (try clear hx0 hx1 hx2); have hx0 := (HO.out.bel.cell (World.block_lt_of_cell? w _ HX.out.1)).trans HX.out.1; have hx1 := (HO.out.bel.cell (World.block_lt_of_cell? w _ HX.out.2.1)).trans HX.out.2.1; have hx2 := (HO.out.bel.cell (World.block_lt_of_cell? w _ HX.out.2.2)).trans HX.out.2.2))
              refine start_ (n := 17) (S := fun W => Own w W ([])) (ds := [16]) #[false, false, false, false, false, false, false, false, false, false, false, false, false, false, false, false, false] (by kernel_rfl) rfl rfl (Own.drew (HO.out.picks (.nil))) (fun hHeld => ?_)
              have HO_ := Aside0.mk HO.out.drew
              clear HO
              have HO := HO_
              clear HO_
              generalize World.drew _ = wr at HO hHeld ⊢
              refine Hp.pu_ 0 142 (Hp.up 17 1) ?_
              refine Hp.pu_ 1 143 (Hp.up 17 2) ?_
              refine Hp.pu_ 2 144 (Hp.up 17 3) ?_
              refine Hp.pu_ 3 145 (Hp.up 17 4) ?_
              refine Hp.pu_ 4 146 (Hp.up 17 5) ?_
              refine take_ (i := 5) (N := some 147) (v := .int .i64 (k0 : Int)) (a' := ?_) (Hp.up 17 6) rfl rfl (by kernel_rfl) (fun _ _ _ h => h) (Or.inl ⟨by rfl, fun w' hS => old_load rfl (by rfl) hui rfl ((hS.bel.cell (World.block_lt_of_cell? w _ HX.out.1)).trans HX.out.1)⟩) hHeld ?_ ?_
              rotate_left
              · simp only [Act.put, List.setIfInBounds_toArray, List.set_cons_zero, List.set_cons_succ, i64_w, i32_w]
                rfl
              refine Hp.pu_ 6 148 (Hp.up 17 7) ?_
              refine Hp.pu_ 7 149 (Hp.up 17 8) ?_
              refine Hp.pu_ 8 150 (Hp.up 17 9) ?_
              refine Hp.pu_ 9 151 (Hp.up 17 10) ?_
              refine take_ (i := 10) (N := some 152) (v := .int .i64 (a0 : Int)) (a' := ?_) (Hp.up 17 11) rfl rfl (by kernel_rfl) (fun _ _ _ h => h) (Or.inl ⟨by rfl, fun w' hS => old_load rfl (by rfl) hui rfl ((hS.bel.cell (World.block_lt_of_cell? w _ HX.out.2.1)).trans HX.out.2.1)⟩) hHeld ?_ ?_
              rotate_left
              · simp only [Act.put, List.setIfInBounds_toArray, List.set_cons_zero, List.set_cons_succ, i64_w, i32_w]
                rfl
              refine Hp.pu_ 11 153 (Hp.up 17 12) ?_
              refine Hp.pu_ 12 154 (Hp.up 17 13) ?_
              refine Hp.pu_ 13 155 (Hp.up 17 14) ?_
              refine Hp.pu_ 14 156 (Hp.up 17 15) ?_
              refine take_ (i := 15) (N := some 157) (v := .int .u8 cx) (a' := ?_) (Hp.up 17 16) rfl rfl (by kernel_rfl) (fun _ _ _ h => h) (Or.inl ⟨by rfl, fun w' hS => old_load rfl (by rfl) hu8 rfl ((hS.bel.cell (World.block_lt_of_cell? w _ HX.out.2.2)).trans HX.out.2.2)⟩) hHeld ?_ ?_
              rotate_left
              · simp only [Act.put, List.setIfInBounds_toArray, List.set_cons_zero, List.set_cons_succ, i64_w, i32_w]
                rfl
              refine last_ (i := 16) (N := some 158) (Hp.up 17 17) rfl rfl (by kernel_rfl) (by decide) (fun K hK => ?_)
              refine goes_ Try.func20 (by kernel_rfl) rfl #[.pointer (some ⟨gw, 0, none⟩), .int .i64 (k0 : Int), .int .i64 (a0 : Int), .int .u8 cx] (by rfl) rfl rfl (by (try simp only [List.map_toArray, List.map_cons, List.map_nil]); first | done | rfl) ?_
              refine (write_calls w _ _ X gw (Z : Int) Z N A c D cx (k0 : Int) (a0 : Int) HNn.out HZn.out rfl HD.out.1 HX0.out HO.out.toW).mono ?_
              rintro e wx ⟨rfl, X2, hX2, hO_⟩
              refine ⟨_, rfl, ?_⟩
              have HX2 := Aside0.mk hX2
              clear hX2
              have hO_ := hO_.fromW
              clear HO; have HO := Aside0.mk hO_; clear hO_
              refine hK.out _ _ ?_
              clear hK K
              refine norm_ (a' := ?_) ?_ ?_
              rotate_left
              · show Act.put _ (some 158) _ = _
                simp only [Act.put, List.setIfInBounds_toArray, List.set_cons_zero, List.set_cons_succ, i64_w, i32_w]
                rfl
              refine done_ (by kernel_rfl) ?_
              clear hHeld
              obtain ⟨D1, hD1⟩ : ∃ D1, (wrote D Z (k0 : Int) (a0 : Int) cx) = D1 := ⟨_, rfl⟩
              rw [hD1] at HO HX2 HDw
              have HB1 : Aside0 (D1.flatten.length = NN) := ⟨by rw [flat_len D1 Z HDw.out.2, HDw.out.1, HS2.out]⟩
              clear hD1
              try clear hx0 hx1 hx2
              try go_wp2
              refine start_ (n := 7) (S := fun W => Own w W ([] : Hl)) (ds := []) #[false, false, false, false, false, false, false] (by kernel_rfl) rfl rfl (Own.drew (HO.out.dropAll)) (fun hHeld => ?_)
              have HO_ := Aside0.mk HO.out.drew
              clear HO
              have HO := HO_
              clear HO_
              generalize World.drew _ = wr at HO hHeld ⊢
              refine Hp.pu_ 0 159 (Hp.up 7 1) ?_
              refine Hp.pu_ 3 162 #[true, false, false, true, false, false, false] ?_
              refine join_ (σ := Value × Value) 1 (Hp.up 7 6) (fun s_ => [(160, s_.1), (161, .string (strOfNums D1.flatten)), (163, s_.2), (164, .string (strOfNums D1.flatten))]) (fun s_ w' => Own w w' ((ga, .cells #[.int .i64 (Z : Int), .slice (some ⟨gb, 0, none⟩) NN NN] 126 (0, 0)) :: (gb, .cells (u8s (D1).flatten) 5 (0, 0)) :: (gw, .cells #[.int .i64 (Z : Int), .slice A N c] 129 (0, 0)) :: (X2 ++ (Y ++ [])))) ?_ ?_
              rotate_left
              · intro hCont
                refine one_ (i := 1) (N := some 160) #[true, true, false, true, false, false, false] rfl rfl (by kernel_rfl) (by decide) (fun K hK => ?_)
                refine goes_ Try.func18 (by kernel_rfl) rfl #[.pointer (some ⟨ga, 0, none⟩)] (by rfl) rfl rfl (by (try simp only [List.map_toArray, List.map_cons, List.map_nil]); first | done | rfl) ?_
                refine (bytes_calls w _ ((gw, .cells #[.int .i64 (Z : Int), .slice A N c] 129 (0, 0)) :: (X2 ++ (Y ++ []))) ga gb (Z : Int) NN D1.flatten HB1.out HM.out HO.out).mono ?_
                rintro e wx ⟨v5, rfl, R5, hR5, hO_⟩
                refine ⟨_, rfl, ?_⟩
                have HR5 := Aside0.mk hR5
                clear hR5
                have hO_ := hO_.intail
                clear HO; have HO := Aside0.mk hO_; clear hO_
                refine hK.out _ _ (HO.out.dropAll) (fun hHeld => ?_)
                clear hK K
                refine norm_ (a' := ?_) ?_ ?_
                rotate_left
                · show Act.put _ (some 160) _ = _
                  simp only [Act.put, List.setIfInBounds_toArray, List.set_cons_zero, List.set_cons_succ, i64_w, i32_w]
                  rfl
                refine two_ (i := 2) (j := 4) (Ni := some 161) (Nj := some 163) (Hp.up 7 4) #[true, true, false, true, true, false, false] rfl rfl rfl rfl (by kernel_rfl) (by decide) (by decide) (fun K hK => ?_) (fun K hK => ?_)
                · skip
                  refine event_step (by rfl) (exec_conv rfl (by rfl) (RowOf.string (P := Try.prog) hul hu8 hus HR5.out (Own.swap3 (B := ((ga, .cells #[.int .i64 (Z : Int), .slice (some ⟨gb, 0, none⟩) NN NN] 126 (0, 0)) :: (gb, .cells (u8s (D1).flatten) 5 (0, 0)) :: (gw, .cells #[.int .i64 (Z : Int), .slice A N c] 129 (0, 0)) :: X2)) (R := R5) HO.out))) ?_
                  refine hK.out _ _ (HO.out.dropAll) (fun hHeld => ?_)
                  clear hK K
                  refine norm_ (a' := ?_) ?_ ?_
                  rotate_left
                  · show Act.put _ (some 161) _ = _
                    simp only [Act.put, List.setIfInBounds_toArray, List.set_cons_zero, List.set_cons_succ, i64_w, i32_w]
                    rfl
                  refine one_ (i := 4) (N := some 163) (Hp.up 7 5) rfl rfl (by kernel_rfl) (by decide) (fun K hK => ?_)
                  refine goes_ Try.func21 (by kernel_rfl) rfl #[.pointer (some ⟨gw, 0, none⟩)] (by rfl) rfl rfl (by (try simp only [List.map_toArray, List.map_cons, List.map_nil]); first | done | rfl) ?_
                  refine (rbytes_calls w _ ((ga, .cells #[.int .i64 (Z : Int), .slice (some ⟨gb, 0, none⟩) NN NN] 126 (0, 0)) :: (gb, .cells (u8s (D1).flatten) 5 (0, 0)) :: (R5 ++ (Y ++ []))) X2 gw (Z : Int) Z N A c D1 HNn.out HZn.out rfl HDw.out.1 HX2.out HO.out.toW).mono ?_
                  rintro e wx ⟨v6, rfl, R6, hR6, hO_⟩
                  refine ⟨_, rfl, ?_⟩
                  have HR6 := Aside0.mk hR6
                  clear hR6
                  have hO_ := hO_.fromW2
                  clear HO; have HO := Aside0.mk hO_; clear hO_
                  refine hK.out _ _ (HO.out.dropAll) (fun hHeld => ?_)
                  clear hK K
                  refine norm_ (a' := ?_) ?_ ?_
                  rotate_left
                  · show Act.put _ (some 163) _ = _
                    simp only [Act.put, List.setIfInBounds_toArray, List.set_cons_zero, List.set_cons_succ, i64_w, i32_w]
                    rfl
                  refine one_ (i := 5) (N := some 164) (Hp.up 7 6) rfl rfl (by kernel_rfl) (by decide) (fun K hK => ?_)
                  refine event_step (by rfl) (exec_conv rfl (by rfl) (RowOf.string (P := Try.prog) hul hu8 hus HR6.out (Own.swap3 (B := ((ga, .cells #[.int .i64 (Z : Int), .slice (some ⟨gb, 0, none⟩) NN NN] 126 (0, 0)) :: (gb, .cells (u8s (D1).flatten) 5 (0, 0)) :: (gw, .cells #[.int .i64 (Z : Int), .slice A N c] 129 (0, 0)) :: X2)) (R := R6) HO.out))) ?_
                  refine hK.out _ _ (HO.out.dropAll) (fun hHeld => ?_)
                  clear hK K
                  refine norm_ (a' := ?_) ?_ ?_
                  rotate_left
                  · show Act.put _ (some 164) _ = _
                    simp only [Act.put, List.setIfInBounds_toArray, List.set_cons_zero, List.set_cons_succ, i64_w, i32_w]
                    rfl
                  exact norm_ (by simp only [putAll, Act.put, List.setIfInBounds_toArray, List.set_cons_zero, List.set_cons_succ]) (hCont (v5, v6) _ (Own.droptail (S := ((ga, .cells #[.int .i64 (Z : Int), .slice (some ⟨gb, 0, none⟩) NN NN] 126 (0, 0)) :: (gb, .cells (u8s (D1).flatten) 5 (0, 0)) :: (gw, .cells #[.int .i64 (Z : Int), .slice A N c] 129 (0, 0)) :: X2)) (Own.droptail (S := ((ga, .cells #[.int .i64 (Z : Int), .slice (some ⟨gb, 0, none⟩) NN NN] 126 (0, 0)) :: (gb, .cells (u8s (D1).flatten) 5 (0, 0)) :: (gw, .cells #[.int .i64 (Z : Int), .slice A N c] 129 (0, 0)) :: X2)) HO.out)))
                · skip
                  refine goes_ Try.func21 (by kernel_rfl) rfl #[.pointer (some ⟨gw, 0, none⟩)] (by rfl) rfl rfl (by (try simp only [List.map_toArray, List.map_cons, List.map_nil]); first | done | rfl) ?_
                  refine (rbytes_calls w _ ((ga, .cells #[.int .i64 (Z : Int), .slice (some ⟨gb, 0, none⟩) NN NN] 126 (0, 0)) :: (gb, .cells (u8s (D1).flatten) 5 (0, 0)) :: (R5 ++ (Y ++ []))) X2 gw (Z : Int) Z N A c D1 HNn.out HZn.out rfl HDw.out.1 HX2.out HO.out.toW).mono ?_
                  rintro e wx ⟨v6, rfl, R6, hR6, hO_⟩
                  refine ⟨_, rfl, ?_⟩
                  have HR6 := Aside0.mk hR6
                  clear hR6
                  have hO_ := hO_.fromW2
                  clear HO; have HO := Aside0.mk hO_; clear hO_
                  refine hK.out _ _ (HO.out.dropAll) (fun hHeld => ?_)
                  clear hK K
                  refine norm_ (a' := ?_) ?_ ?_
                  rotate_left
                  · show Act.put _ (some 163) _ = _
                    simp only [Act.put, List.setIfInBounds_toArray, List.set_cons_zero, List.set_cons_succ, i64_w, i32_w]
                    rfl
                  refine two_ (i := 2) (j := 5) (Ni := some 161) (Nj := some 164) (Hp.up 7 5) #[true, true, false, true, true, true, false] rfl rfl rfl rfl (by kernel_rfl) (by decide) (by decide) (fun K hK => ?_) (fun K hK => ?_)
                  · skip
                    refine event_step (by rfl) (exec_conv rfl (by rfl) (RowOf.string (P := Try.prog) hul hu8 hus HR5.out (Own.swap3 (B := ((ga, .cells #[.int .i64 (Z : Int), .slice (some ⟨gb, 0, none⟩) NN NN] 126 (0, 0)) :: (gb, .cells (u8s (D1).flatten) 5 (0, 0)) :: (gw, .cells #[.int .i64 (Z : Int), .slice A N c] 129 (0, 0)) :: X2)) (R := R5) (Own.swap4 (S := ((ga, .cells #[.int .i64 (Z : Int), .slice (some ⟨gb, 0, none⟩) NN NN] 126 (0, 0)) :: (gb, .cells (u8s (D1).flatten) 5 (0, 0)) :: (gw, .cells #[.int .i64 (Z : Int), .slice A N c] 129 (0, 0)) :: X2)) (B := R6) (R := R5) HO.out)))) ?_
                    refine hK.out _ _ (HO.out.dropAll) (fun hHeld => ?_)
                    clear hK K
                    refine norm_ (a' := ?_) ?_ ?_
                    rotate_left
                    · show Act.put _ (some 161) _ = _
                      simp only [Act.put, List.setIfInBounds_toArray, List.set_cons_zero, List.set_cons_succ, i64_w, i32_w]
                      rfl
                    refine one_ (i := 5) (N := some 164) (Hp.up 7 6) rfl rfl (by kernel_rfl) (by decide) (fun K hK => ?_)
                    refine event_step (by rfl) (exec_conv rfl (by rfl) (RowOf.string (P := Try.prog) hul hu8 hus HR6.out (Own.swap3 (B := ((ga, .cells #[.int .i64 (Z : Int), .slice (some ⟨gb, 0, none⟩) NN NN] 126 (0, 0)) :: (gb, .cells (u8s (D1).flatten) 5 (0, 0)) :: (gw, .cells #[.int .i64 (Z : Int), .slice A N c] 129 (0, 0)) :: X2)) (R := R6) HO.out))) ?_
                    refine hK.out _ _ (HO.out.dropAll) (fun hHeld => ?_)
                    clear hK K
                    refine norm_ (a' := ?_) ?_ ?_
                    rotate_left
                    · show Act.put _ (some 164) _ = _
                      simp only [Act.put, List.setIfInBounds_toArray, List.set_cons_zero, List.set_cons_succ, i64_w, i32_w]
                      rfl
                    exact norm_ (by simp only [putAll, Act.put, List.setIfInBounds_toArray, List.set_cons_zero, List.set_cons_succ]) (hCont (v5, v6) _ (Own.droptail (S := ((ga, .cells #[.int .i64 (Z : Int), .slice (some ⟨gb, 0, none⟩) NN NN] 126 (0, 0)) :: (gb, .cells (u8s (D1).flatten) 5 (0, 0)) :: (gw, .cells #[.int .i64 (Z : Int), .slice A N c] 129 (0, 0)) :: X2)) (Own.droptail (S := ((ga, .cells #[.int .i64 (Z : Int), .slice (some ⟨gb, 0, none⟩) NN NN] 126 (0, 0)) :: (gb, .cells (u8s (D1).flatten) 5 (0, 0)) :: (gw, .cells #[.int .i64 (Z : Int), .slice A N c] 129 (0, 0)) :: X2)) HO.out)))
                  · skip
                    refine event_step (by rfl) (exec_conv rfl (by rfl) (RowOf.string (P := Try.prog) hul hu8 hus HR6.out (Own.swap3 (B := ((ga, .cells #[.int .i64 (Z : Int), .slice (some ⟨gb, 0, none⟩) NN NN] 126 (0, 0)) :: (gb, .cells (u8s (D1).flatten) 5 (0, 0)) :: (gw, .cells #[.int .i64 (Z : Int), .slice A N c] 129 (0, 0)) :: X2)) (R := R6) HO.out))) ?_
                    refine hK.out _ _ (HO.out.dropAll) (fun hHeld => ?_)
                    clear hK K
                    refine norm_ (a' := ?_) ?_ ?_
                    rotate_left
                    · show Act.put _ (some 164) _ = _
                      simp only [Act.put, List.setIfInBounds_toArray, List.set_cons_zero, List.set_cons_succ, i64_w, i32_w]
                      rfl
                    refine one_ (i := 2) (N := some 161) (Hp.up 7 6) rfl rfl (by kernel_rfl) (by decide) (fun K hK => ?_)
                    refine event_step (by rfl) (exec_conv rfl (by rfl) (RowOf.string (P := Try.prog) hul hu8 hus HR5.out (Own.swap3 (B := ((ga, .cells #[.int .i64 (Z : Int), .slice (some ⟨gb, 0, none⟩) NN NN] 126 (0, 0)) :: (gb, .cells (u8s (D1).flatten) 5 (0, 0)) :: (gw, .cells #[.int .i64 (Z : Int), .slice A N c] 129 (0, 0)) :: X2)) (R := R5) (Own.swap4 (S := ((ga, .cells #[.int .i64 (Z : Int), .slice (some ⟨gb, 0, none⟩) NN NN] 126 (0, 0)) :: (gb, .cells (u8s (D1).flatten) 5 (0, 0)) :: (gw, .cells #[.int .i64 (Z : Int), .slice A N c] 129 (0, 0)) :: X2)) (B := R6) (R := R5) HO.out)))) ?_
                    refine hK.out _ _ (HO.out.dropAll) (fun hHeld => ?_)
                    clear hK K
                    refine norm_ (a' := ?_) ?_ ?_
                    rotate_left
                    · show Act.put _ (some 161) _ = _
                      simp only [Act.put, List.setIfInBounds_toArray, List.set_cons_zero, List.set_cons_succ, i64_w, i32_w]
                      rfl
                    exact norm_ (by simp only [putAll, Act.put, List.setIfInBounds_toArray, List.set_cons_zero, List.set_cons_succ]) (hCont (v5, v6) _ (Own.droptail (S := ((ga, .cells #[.int .i64 (Z : Int), .slice (some ⟨gb, 0, none⟩) NN NN] 126 (0, 0)) :: (gb, .cells (u8s (D1).flatten) 5 (0, 0)) :: (gw, .cells #[.int .i64 (Z : Int), .slice A N c] 129 (0, 0)) :: X2)) (Own.droptail (S := ((ga, .cells #[.int .i64 (Z : Int), .slice (some ⟨gb, 0, none⟩) NN NN] 126 (0, 0)) :: (gb, .cells (u8s (D1).flatten) 5 (0, 0)) :: (gw, .cells #[.int .i64 (Z : Int), .slice A N c] 129 (0, 0)) :: X2)) HO.out)))
              rintro ⟨v5, v6⟩ wj hO_
              clear HO
              have HO := Aside0.mk hO_
              have hHeld := HO.out.dropAll
              clear hO_
              refine norm_ (a' := ?_) ?_ ?_
              rotate_left
              · simp only [putAll, Act.put, List.setIfInBounds_toArray, List.set_cons_zero, List.set_cons_succ]
                rfl
              refine Hp.pu_ 6 165 (Hp.up 7 7) ?_
              refine done_ (by kernel_rfl) ?_
              clear hHeld
              go_wp2
              go_roundg gk
              case measure => omega
              case rel => exact ⟨i + 1, D1, X2, Y, rfl, ⟨by have := HI.out; omega⟩, HDw, HX2, HC, HO⟩
            · have HW : Aside0 (wrote D Z (k0 : Int) ax cx = D) := ⟨if_neg (by omega)⟩
              have HOL : Aside0 ((((D.flatten.drop (k0 * Z)).take Z).map (Value.int .u8)).length = Z * 1) := ⟨by rw [List.length_map, List.length_take, List.length_drop, HB.out]; omega⟩
              by_cases ha0 : 0 ≤ ax
              · have c7 : decide (0 ≤ ax) = true := decide_eq_true ha0
                have c8 : decide (ax < (Z : Int)) = false := decide_eq_false (by omega)
                clear hk hkN hkl ha ha0
                go_wp2_with (first | ((with_reducible refine gate_callee (f := 19) rfl ?_); (with_reducible refine gate_dst (N := 71) rfl ?_); refine goesL_ (some 71) rfl rfl Try.func19 (by kernel_rfl) rfl #[.pointer (some ⟨ga, 0, none⟩), .int .i64 (k0 : Int)] rfl (by (try simp only [List.map_toArray, List.map_cons, List.map_nil]); first | done | rfl) ?_; (with_reducible refine (slot_ok w _ ((gw, .cells #[.int .i64 (Z : Int), .slice A N c] 129 (0, 0)) :: (X ++ (Y ++ []))) ga gb (Z : Int) NN D.flatten (k0 : Int) (N : Int) HZ.out HN.out.1 HS.out (k0 * Z) Z HK.out HKK.out rfl HKL.out HM.out HO.out).mono ?_); rintro e wx ⟨rfl, hO_⟩; refine ⟨_, rfl, ?_⟩; clear HO; have HO := Aside0.mk hO_; clear hO_; (try clear hx0 hx1 hx2); have hx0 := (HO.out.bel.cell (World.block_lt_of_cell? w _ HX.out.1)).trans HX.out.1; have hx1 := (HO.out.bel.cell (World.block_lt_of_cell? w _ HX.out.2.1)).trans HX.out.2.1; have hx2 := (HO.out.bel.cell (World.block_lt_of_cell? w _ HX.out.2.2)).trans HX.out.2.2) | ((with_reducible refine gate_dst (N := 140) rfl ?_); refine own_lit HO.out ?hg (N := 140) ?hd (cs := #[.int .u8 77]) (t := 5) (n := 1) (m := 1) ?hr ?_; (case hd => rfl); (case hg => rfl); (case hr => first | (go_simp; done) | (go_simp; rfl) | kernel_rfl); intro g140 w140 hO_; clear HO; have HO := Aside0.mk hO_; clear hO_) | ((with_reducible refine gate_dst (N := 141) rfl ?_); refine own_append_away (z := .int .u8 0) (size := 1) (bytes := 1) (b := ⟨gb, k0 * Z, none⟩) (n := Z) HO.out rfl rfl hul (by kernel_rfl) rfl (by decide) (olds := ((D.flatten.drop (k0 * Z)).take Z).map (Value.int .u8)) (by rfl) HOL.out (fun j u hj => away_cells (HO.out.get (by (repeat (first | exact .head | apply Ext.tail)))) hj) (ad := ⟨g140, 0, none⟩) (m := 1) (c := 1) (news := [.int .u8 77]) (by rfl) rfl (fun j u hj => by rw [Addr.add_lit]; exact HO.out.range .head 0 [.int .u8 77] rfl j u hj) (by decide) (by have := HZn.out; show Z + 1 ≤ 9223372036854775807; omega) (by have := HZn.out; omega) ?_; intro v9 wc hO_; have hO_ := hO_.drop; clear HO; have HO := Aside0.mk hO_; clear hO_; (try clear hx0 hx1 hx2); have hx0 := (HO.out.bel.cell (World.block_lt_of_cell? w _ HX.out.1)).trans HX.out.1; have hx1 := (HO.out.bel.cell (World.block_lt_of_cell? w _ HX.out.2.1)).trans HX.out.2.1; have hx2 := (HO.out.bel.cell (World.block_lt_of_cell? w _ HX.out.2.2)).trans HX.out.2.2))
                have hO_ := HO.out
                rw [← HW.out] at hO_
                clear HO; have HO := Aside0.mk hO_; clear hO_; (try clear hx0 hx1 hx2); have hx0 := (HO.out.bel.cell (World.block_lt_of_cell? w _ HX.out.1)).trans HX.out.1; have hx1 := (HO.out.bel.cell (World.block_lt_of_cell? w _ HX.out.2.1)).trans HX.out.2.1; have hx2 := (HO.out.bel.cell (World.block_lt_of_cell? w _ HX.out.2.2)).trans HX.out.2.2
                refine start_ (n := 17) (S := fun W => Own w W ([])) (ds := [16]) #[false, false, false, false, false, false, false, false, false, false, false, false, false, false, false, false, false] (by kernel_rfl) rfl rfl (Own.drew (HO.out.picks (.nil))) (fun hHeld => ?_)
                have HO_ := Aside0.mk HO.out.drew
                clear HO
                have HO := HO_
                clear HO_
                generalize World.drew _ = wr at HO hHeld ⊢
                refine Hp.pu_ 0 142 (Hp.up 17 1) ?_
                refine Hp.pu_ 1 143 (Hp.up 17 2) ?_
                refine Hp.pu_ 2 144 (Hp.up 17 3) ?_
                refine Hp.pu_ 3 145 (Hp.up 17 4) ?_
                refine Hp.pu_ 4 146 (Hp.up 17 5) ?_
                refine take_ (i := 5) (N := some 147) (v := .int .i64 (k0 : Int)) (a' := ?_) (Hp.up 17 6) rfl rfl (by kernel_rfl) (fun _ _ _ h => h) (Or.inl ⟨by rfl, fun w' hS => old_load rfl (by rfl) hui rfl ((hS.bel.cell (World.block_lt_of_cell? w _ HX.out.1)).trans HX.out.1)⟩) hHeld ?_ ?_
                rotate_left
                · simp only [Act.put, List.setIfInBounds_toArray, List.set_cons_zero, List.set_cons_succ, i64_w, i32_w]
                  rfl
                refine Hp.pu_ 6 148 (Hp.up 17 7) ?_
                refine Hp.pu_ 7 149 (Hp.up 17 8) ?_
                refine Hp.pu_ 8 150 (Hp.up 17 9) ?_
                refine Hp.pu_ 9 151 (Hp.up 17 10) ?_
                refine take_ (i := 10) (N := some 152) (v := .int .i64 ax) (a' := ?_) (Hp.up 17 11) rfl rfl (by kernel_rfl) (fun _ _ _ h => h) (Or.inl ⟨by rfl, fun w' hS => old_load rfl (by rfl) hui rfl ((hS.bel.cell (World.block_lt_of_cell? w _ HX.out.2.1)).trans HX.out.2.1)⟩) hHeld ?_ ?_
                rotate_left
                · simp only [Act.put, List.setIfInBounds_toArray, List.set_cons_zero, List.set_cons_succ, i64_w, i32_w]
                  rfl
                refine Hp.pu_ 11 153 (Hp.up 17 12) ?_
                refine Hp.pu_ 12 154 (Hp.up 17 13) ?_
                refine Hp.pu_ 13 155 (Hp.up 17 14) ?_
                refine Hp.pu_ 14 156 (Hp.up 17 15) ?_
                refine take_ (i := 15) (N := some 157) (v := .int .u8 cx) (a' := ?_) (Hp.up 17 16) rfl rfl (by kernel_rfl) (fun _ _ _ h => h) (Or.inl ⟨by rfl, fun w' hS => old_load rfl (by rfl) hu8 rfl ((hS.bel.cell (World.block_lt_of_cell? w _ HX.out.2.2)).trans HX.out.2.2)⟩) hHeld ?_ ?_
                rotate_left
                · simp only [Act.put, List.setIfInBounds_toArray, List.set_cons_zero, List.set_cons_succ, i64_w, i32_w]
                  rfl
                refine last_ (i := 16) (N := some 158) (Hp.up 17 17) rfl rfl (by kernel_rfl) (by decide) (fun K hK => ?_)
                refine goes_ Try.func20 (by kernel_rfl) rfl #[.pointer (some ⟨gw, 0, none⟩), .int .i64 (k0 : Int), .int .i64 ax, .int .u8 cx] (by rfl) rfl rfl (by (try simp only [List.map_toArray, List.map_cons, List.map_nil]); first | done | rfl) ?_
                refine (write_calls w _ _ X gw (Z : Int) Z N A c D cx (k0 : Int) ax HNn.out HZn.out rfl HD.out.1 HX0.out HO.out.toW).mono ?_
                rintro e wx ⟨rfl, X2, hX2, hO_⟩
                refine ⟨_, rfl, ?_⟩
                have HX2 := Aside0.mk hX2
                clear hX2
                have hO_ := hO_.fromW
                clear HO; have HO := Aside0.mk hO_; clear hO_
                refine hK.out _ _ ?_
                clear hK K
                refine norm_ (a' := ?_) ?_ ?_
                rotate_left
                · show Act.put _ (some 158) _ = _
                  simp only [Act.put, List.setIfInBounds_toArray, List.set_cons_zero, List.set_cons_succ, i64_w, i32_w]
                  rfl
                refine done_ (by kernel_rfl) ?_
                clear hHeld
                obtain ⟨D1, hD1⟩ : ∃ D1, (wrote D Z (k0 : Int) ax cx) = D1 := ⟨_, rfl⟩
                rw [hD1] at HO HX2 HDw
                have HB1 : Aside0 (D1.flatten.length = NN) := ⟨by rw [flat_len D1 Z HDw.out.2, HDw.out.1, HS2.out]⟩
                clear hD1
                try clear hx0 hx1 hx2
                try go_wp2
                refine start_ (n := 7) (S := fun W => Own w W ([] : Hl)) (ds := []) #[false, false, false, false, false, false, false] (by kernel_rfl) rfl rfl (Own.drew (HO.out.dropAll)) (fun hHeld => ?_)
                have HO_ := Aside0.mk HO.out.drew
                clear HO
                have HO := HO_
                clear HO_
                generalize World.drew _ = wr at HO hHeld ⊢
                refine Hp.pu_ 0 159 (Hp.up 7 1) ?_
                refine Hp.pu_ 3 162 #[true, false, false, true, false, false, false] ?_
                refine join_ (σ := Value × Value) 1 (Hp.up 7 6) (fun s_ => [(160, s_.1), (161, .string (strOfNums D1.flatten)), (163, s_.2), (164, .string (strOfNums D1.flatten))]) (fun s_ w' => Own w w' ((ga, .cells #[.int .i64 (Z : Int), .slice (some ⟨gb, 0, none⟩) NN NN] 126 (0, 0)) :: (gb, .cells (u8s (D1).flatten) 5 (0, 0)) :: (gw, .cells #[.int .i64 (Z : Int), .slice A N c] 129 (0, 0)) :: (X2 ++ (Y ++ [])))) ?_ ?_
                rotate_left
                · intro hCont
                  refine one_ (i := 1) (N := some 160) #[true, true, false, true, false, false, false] rfl rfl (by kernel_rfl) (by decide) (fun K hK => ?_)
                  refine goes_ Try.func18 (by kernel_rfl) rfl #[.pointer (some ⟨ga, 0, none⟩)] (by rfl) rfl rfl (by (try simp only [List.map_toArray, List.map_cons, List.map_nil]); first | done | rfl) ?_
                  refine (bytes_calls w _ ((gw, .cells #[.int .i64 (Z : Int), .slice A N c] 129 (0, 0)) :: (X2 ++ (Y ++ []))) ga gb (Z : Int) NN D1.flatten HB1.out HM.out HO.out).mono ?_
                  rintro e wx ⟨v5, rfl, R5, hR5, hO_⟩
                  refine ⟨_, rfl, ?_⟩
                  have HR5 := Aside0.mk hR5
                  clear hR5
                  have hO_ := hO_.intail
                  clear HO; have HO := Aside0.mk hO_; clear hO_
                  refine hK.out _ _ (HO.out.dropAll) (fun hHeld => ?_)
                  clear hK K
                  refine norm_ (a' := ?_) ?_ ?_
                  rotate_left
                  · show Act.put _ (some 160) _ = _
                    simp only [Act.put, List.setIfInBounds_toArray, List.set_cons_zero, List.set_cons_succ, i64_w, i32_w]
                    rfl
                  refine two_ (i := 2) (j := 4) (Ni := some 161) (Nj := some 163) (Hp.up 7 4) #[true, true, false, true, true, false, false] rfl rfl rfl rfl (by kernel_rfl) (by decide) (by decide) (fun K hK => ?_) (fun K hK => ?_)
                  · skip
                    refine event_step (by rfl) (exec_conv rfl (by rfl) (RowOf.string (P := Try.prog) hul hu8 hus HR5.out (Own.swap3 (B := ((ga, .cells #[.int .i64 (Z : Int), .slice (some ⟨gb, 0, none⟩) NN NN] 126 (0, 0)) :: (gb, .cells (u8s (D1).flatten) 5 (0, 0)) :: (gw, .cells #[.int .i64 (Z : Int), .slice A N c] 129 (0, 0)) :: X2)) (R := R5) HO.out))) ?_
                    refine hK.out _ _ (HO.out.dropAll) (fun hHeld => ?_)
                    clear hK K
                    refine norm_ (a' := ?_) ?_ ?_
                    rotate_left
                    · show Act.put _ (some 161) _ = _
                      simp only [Act.put, List.setIfInBounds_toArray, List.set_cons_zero, List.set_cons_succ, i64_w, i32_w]
                      rfl
                    refine one_ (i := 4) (N := some 163) (Hp.up 7 5) rfl rfl (by kernel_rfl) (by decide) (fun K hK => ?_)
                    refine goes_ Try.func21 (by kernel_rfl) rfl #[.pointer (some ⟨gw, 0, none⟩)] (by rfl) rfl rfl (by (try simp only [List.map_toArray, List.map_cons, List.map_nil]); first | done | rfl) ?_
                    refine (rbytes_calls w _ ((ga, .cells #[.int .i64 (Z : Int), .slice (some ⟨gb, 0, none⟩) NN NN] 126 (0, 0)) :: (gb, .cells (u8s (D1).flatten) 5 (0, 0)) :: (R5 ++ (Y ++ []))) X2 gw (Z : Int) Z N A c D1 HNn.out HZn.out rfl HDw.out.1 HX2.out HO.out.toW).mono ?_
                    rintro e wx ⟨v6, rfl, R6, hR6, hO_⟩
                    refine ⟨_, rfl, ?_⟩
                    have HR6 := Aside0.mk hR6
                    clear hR6
                    have hO_ := hO_.fromW2
                    clear HO; have HO := Aside0.mk hO_; clear hO_
                    refine hK.out _ _ (HO.out.dropAll) (fun hHeld => ?_)
                    clear hK K
                    refine norm_ (a' := ?_) ?_ ?_
                    rotate_left
                    · show Act.put _ (some 163) _ = _
                      simp only [Act.put, List.setIfInBounds_toArray, List.set_cons_zero, List.set_cons_succ, i64_w, i32_w]
                      rfl
                    refine one_ (i := 5) (N := some 164) (Hp.up 7 6) rfl rfl (by kernel_rfl) (by decide) (fun K hK => ?_)
                    refine event_step (by rfl) (exec_conv rfl (by rfl) (RowOf.string (P := Try.prog) hul hu8 hus HR6.out (Own.swap3 (B := ((ga, .cells #[.int .i64 (Z : Int), .slice (some ⟨gb, 0, none⟩) NN NN] 126 (0, 0)) :: (gb, .cells (u8s (D1).flatten) 5 (0, 0)) :: (gw, .cells #[.int .i64 (Z : Int), .slice A N c] 129 (0, 0)) :: X2)) (R := R6) HO.out))) ?_
                    refine hK.out _ _ (HO.out.dropAll) (fun hHeld => ?_)
                    clear hK K
                    refine norm_ (a' := ?_) ?_ ?_
                    rotate_left
                    · show Act.put _ (some 164) _ = _
                      simp only [Act.put, List.setIfInBounds_toArray, List.set_cons_zero, List.set_cons_succ, i64_w, i32_w]
                      rfl
                    exact norm_ (by simp only [putAll, Act.put, List.setIfInBounds_toArray, List.set_cons_zero, List.set_cons_succ]) (hCont (v5, v6) _ (Own.droptail (S := ((ga, .cells #[.int .i64 (Z : Int), .slice (some ⟨gb, 0, none⟩) NN NN] 126 (0, 0)) :: (gb, .cells (u8s (D1).flatten) 5 (0, 0)) :: (gw, .cells #[.int .i64 (Z : Int), .slice A N c] 129 (0, 0)) :: X2)) (Own.droptail (S := ((ga, .cells #[.int .i64 (Z : Int), .slice (some ⟨gb, 0, none⟩) NN NN] 126 (0, 0)) :: (gb, .cells (u8s (D1).flatten) 5 (0, 0)) :: (gw, .cells #[.int .i64 (Z : Int), .slice A N c] 129 (0, 0)) :: X2)) HO.out)))
                  · skip
                    refine goes_ Try.func21 (by kernel_rfl) rfl #[.pointer (some ⟨gw, 0, none⟩)] (by rfl) rfl rfl (by (try simp only [List.map_toArray, List.map_cons, List.map_nil]); first | done | rfl) ?_
                    refine (rbytes_calls w _ ((ga, .cells #[.int .i64 (Z : Int), .slice (some ⟨gb, 0, none⟩) NN NN] 126 (0, 0)) :: (gb, .cells (u8s (D1).flatten) 5 (0, 0)) :: (R5 ++ (Y ++ []))) X2 gw (Z : Int) Z N A c D1 HNn.out HZn.out rfl HDw.out.1 HX2.out HO.out.toW).mono ?_
                    rintro e wx ⟨v6, rfl, R6, hR6, hO_⟩
                    refine ⟨_, rfl, ?_⟩
                    have HR6 := Aside0.mk hR6
                    clear hR6
                    have hO_ := hO_.fromW2
                    clear HO; have HO := Aside0.mk hO_; clear hO_
                    refine hK.out _ _ (HO.out.dropAll) (fun hHeld => ?_)
                    clear hK K
                    refine norm_ (a' := ?_) ?_ ?_
                    rotate_left
                    · show Act.put _ (some 163) _ = _
                      simp only [Act.put, List.setIfInBounds_toArray, List.set_cons_zero, List.set_cons_succ, i64_w, i32_w]
                      rfl
                    refine two_ (i := 2) (j := 5) (Ni := some 161) (Nj := some 164) (Hp.up 7 5) #[true, true, false, true, true, true, false] rfl rfl rfl rfl (by kernel_rfl) (by decide) (by decide) (fun K hK => ?_) (fun K hK => ?_)
                    · skip
                      refine event_step (by rfl) (exec_conv rfl (by rfl) (RowOf.string (P := Try.prog) hul hu8 hus HR5.out (Own.swap3 (B := ((ga, .cells #[.int .i64 (Z : Int), .slice (some ⟨gb, 0, none⟩) NN NN] 126 (0, 0)) :: (gb, .cells (u8s (D1).flatten) 5 (0, 0)) :: (gw, .cells #[.int .i64 (Z : Int), .slice A N c] 129 (0, 0)) :: X2)) (R := R5) (Own.swap4 (S := ((ga, .cells #[.int .i64 (Z : Int), .slice (some ⟨gb, 0, none⟩) NN NN] 126 (0, 0)) :: (gb, .cells (u8s (D1).flatten) 5 (0, 0)) :: (gw, .cells #[.int .i64 (Z : Int), .slice A N c] 129 (0, 0)) :: X2)) (B := R6) (R := R5) HO.out)))) ?_
                      refine hK.out _ _ (HO.out.dropAll) (fun hHeld => ?_)
                      clear hK K
                      refine norm_ (a' := ?_) ?_ ?_
                      rotate_left
                      · show Act.put _ (some 161) _ = _
                        simp only [Act.put, List.setIfInBounds_toArray, List.set_cons_zero, List.set_cons_succ, i64_w, i32_w]
                        rfl
                      refine one_ (i := 5) (N := some 164) (Hp.up 7 6) rfl rfl (by kernel_rfl) (by decide) (fun K hK => ?_)
                      refine event_step (by rfl) (exec_conv rfl (by rfl) (RowOf.string (P := Try.prog) hul hu8 hus HR6.out (Own.swap3 (B := ((ga, .cells #[.int .i64 (Z : Int), .slice (some ⟨gb, 0, none⟩) NN NN] 126 (0, 0)) :: (gb, .cells (u8s (D1).flatten) 5 (0, 0)) :: (gw, .cells #[.int .i64 (Z : Int), .slice A N c] 129 (0, 0)) :: X2)) (R := R6) HO.out))) ?_
                      refine hK.out _ _ (HO.out.dropAll) (fun hHeld => ?_)
                      clear hK K
                      refine norm_ (a' := ?_) ?_ ?_
                      rotate_left
                      · show Act.put _ (some 164) _ = _
                        simp only [Act.put, List.setIfInBounds_toArray, List.set_cons_zero, List.set_cons_succ, i64_w, i32_w]
                        rfl
                      exact norm_ (by simp only [putAll, Act.put, List.setIfInBounds_toArray, List.set_cons_zero, List.set_cons_succ]) (hCont (v5, v6) _ (Own.droptail (S := ((ga, .cells #[.int .i64 (Z : Int), .slice (some ⟨gb, 0, none⟩) NN NN] 126 (0, 0)) :: (gb, .cells (u8s (D1).flatten) 5 (0, 0)) :: (gw, .cells #[.int .i64 (Z : Int), .slice A N c] 129 (0, 0)) :: X2)) (Own.droptail (S := ((ga, .cells #[.int .i64 (Z : Int), .slice (some ⟨gb, 0, none⟩) NN NN] 126 (0, 0)) :: (gb, .cells (u8s (D1).flatten) 5 (0, 0)) :: (gw, .cells #[.int .i64 (Z : Int), .slice A N c] 129 (0, 0)) :: X2)) HO.out)))
                    · skip
                      refine event_step (by rfl) (exec_conv rfl (by rfl) (RowOf.string (P := Try.prog) hul hu8 hus HR6.out (Own.swap3 (B := ((ga, .cells #[.int .i64 (Z : Int), .slice (some ⟨gb, 0, none⟩) NN NN] 126 (0, 0)) :: (gb, .cells (u8s (D1).flatten) 5 (0, 0)) :: (gw, .cells #[.int .i64 (Z : Int), .slice A N c] 129 (0, 0)) :: X2)) (R := R6) HO.out))) ?_
                      refine hK.out _ _ (HO.out.dropAll) (fun hHeld => ?_)
                      clear hK K
                      refine norm_ (a' := ?_) ?_ ?_
                      rotate_left
                      · show Act.put _ (some 164) _ = _
                        simp only [Act.put, List.setIfInBounds_toArray, List.set_cons_zero, List.set_cons_succ, i64_w, i32_w]
                        rfl
                      refine one_ (i := 2) (N := some 161) (Hp.up 7 6) rfl rfl (by kernel_rfl) (by decide) (fun K hK => ?_)
                      refine event_step (by rfl) (exec_conv rfl (by rfl) (RowOf.string (P := Try.prog) hul hu8 hus HR5.out (Own.swap3 (B := ((ga, .cells #[.int .i64 (Z : Int), .slice (some ⟨gb, 0, none⟩) NN NN] 126 (0, 0)) :: (gb, .cells (u8s (D1).flatten) 5 (0, 0)) :: (gw, .cells #[.int .i64 (Z : Int), .slice A N c] 129 (0, 0)) :: X2)) (R := R5) (Own.swap4 (S := ((ga, .cells #[.int .i64 (Z : Int), .slice (some ⟨gb, 0, none⟩) NN NN] 126 (0, 0)) :: (gb, .cells (u8s (D1).flatten) 5 (0, 0)) :: (gw, .cells #[.int .i64 (Z : Int), .slice A N c] 129 (0, 0)) :: X2)) (B := R6) (R := R5) HO.out)))) ?_
                      refine hK.out _ _ (HO.out.dropAll) (fun hHeld => ?_)
                      clear hK K
                      refine norm_ (a' := ?_) ?_ ?_
                      rotate_left
                      · show Act.put _ (some 161) _ = _
                        simp only [Act.put, List.setIfInBounds_toArray, List.set_cons_zero, List.set_cons_succ, i64_w, i32_w]
                        rfl
                      exact norm_ (by simp only [putAll, Act.put, List.setIfInBounds_toArray, List.set_cons_zero, List.set_cons_succ]) (hCont (v5, v6) _ (Own.droptail (S := ((ga, .cells #[.int .i64 (Z : Int), .slice (some ⟨gb, 0, none⟩) NN NN] 126 (0, 0)) :: (gb, .cells (u8s (D1).flatten) 5 (0, 0)) :: (gw, .cells #[.int .i64 (Z : Int), .slice A N c] 129 (0, 0)) :: X2)) (Own.droptail (S := ((ga, .cells #[.int .i64 (Z : Int), .slice (some ⟨gb, 0, none⟩) NN NN] 126 (0, 0)) :: (gb, .cells (u8s (D1).flatten) 5 (0, 0)) :: (gw, .cells #[.int .i64 (Z : Int), .slice A N c] 129 (0, 0)) :: X2)) HO.out)))
                rintro ⟨v5, v6⟩ wj hO_
                clear HO
                have HO := Aside0.mk hO_
                have hHeld := HO.out.dropAll
                clear hO_
                refine norm_ (a' := ?_) ?_ ?_
                rotate_left
                · simp only [putAll, Act.put, List.setIfInBounds_toArray, List.set_cons_zero, List.set_cons_succ]
                  rfl
                refine Hp.pu_ 6 165 (Hp.up 7 7) ?_
                refine done_ (by kernel_rfl) ?_
                clear hHeld
                go_wp2
                go_roundg gk
                case measure => omega
                case rel => exact ⟨i + 1, D1, X2, Y, rfl, ⟨by have := HI.out; omega⟩, HDw, HX2, HC, HO⟩
              · have c7 : decide (0 ≤ ax) = false := decide_eq_false ha0
                clear hk hkN hkl ha ha0
                go_wp2_with (first | ((with_reducible refine gate_callee (f := 19) rfl ?_); (with_reducible refine gate_dst (N := 71) rfl ?_); refine goesL_ (some 71) rfl rfl Try.func19 (by kernel_rfl) rfl #[.pointer (some ⟨ga, 0, none⟩), .int .i64 (k0 : Int)] rfl (by (try simp only [List.map_toArray, List.map_cons, List.map_nil]); first | done | rfl) ?_; (with_reducible refine (slot_ok w _ ((gw, .cells #[.int .i64 (Z : Int), .slice A N c] 129 (0, 0)) :: (X ++ (Y ++ []))) ga gb (Z : Int) NN D.flatten (k0 : Int) (N : Int) HZ.out HN.out.1 HS.out (k0 * Z) Z HK.out HKK.out rfl HKL.out HM.out HO.out).mono ?_); rintro e wx ⟨rfl, hO_⟩; refine ⟨_, rfl, ?_⟩; clear HO; have HO := Aside0.mk hO_; clear hO_; (try clear hx0 hx1 hx2); have hx0 := (HO.out.bel.cell (World.block_lt_of_cell? w _ HX.out.1)).trans HX.out.1; have hx1 := (HO.out.bel.cell (World.block_lt_of_cell? w _ HX.out.2.1)).trans HX.out.2.1; have hx2 := (HO.out.bel.cell (World.block_lt_of_cell? w _ HX.out.2.2)).trans HX.out.2.2) | ((with_reducible refine gate_dst (N := 140) rfl ?_); refine own_lit HO.out ?hg (N := 140) ?hd (cs := #[.int .u8 77]) (t := 5) (n := 1) (m := 1) ?hr ?_; (case hd => rfl); (case hg => rfl); (case hr => first | (go_simp; done) | (go_simp; rfl) | kernel_rfl); intro g140 w140 hO_; clear HO; have HO := Aside0.mk hO_; clear hO_) | ((with_reducible refine gate_dst (N := 141) rfl ?_); refine own_append_away (z := .int .u8 0) (size := 1) (bytes := 1) (b := ⟨gb, k0 * Z, none⟩) (n := Z) HO.out rfl rfl hul (by kernel_rfl) rfl (by decide) (olds := ((D.flatten.drop (k0 * Z)).take Z).map (Value.int .u8)) (by rfl) HOL.out (fun j u hj => away_cells (HO.out.get (by (repeat (first | exact .head | apply Ext.tail)))) hj) (ad := ⟨g140, 0, none⟩) (m := 1) (c := 1) (news := [.int .u8 77]) (by rfl) rfl (fun j u hj => by rw [Addr.add_lit]; exact HO.out.range .head 0 [.int .u8 77] rfl j u hj) (by decide) (by have := HZn.out; show Z + 1 ≤ 9223372036854775807; omega) (by have := HZn.out; omega) ?_; intro v9 wc hO_; have hO_ := hO_.drop; clear HO; have HO := Aside0.mk hO_; clear hO_; (try clear hx0 hx1 hx2); have hx0 := (HO.out.bel.cell (World.block_lt_of_cell? w _ HX.out.1)).trans HX.out.1; have hx1 := (HO.out.bel.cell (World.block_lt_of_cell? w _ HX.out.2.1)).trans HX.out.2.1; have hx2 := (HO.out.bel.cell (World.block_lt_of_cell? w _ HX.out.2.2)).trans HX.out.2.2))
                have hO_ := HO.out
                rw [← HW.out] at hO_
                clear HO; have HO := Aside0.mk hO_; clear hO_; (try clear hx0 hx1 hx2); have hx0 := (HO.out.bel.cell (World.block_lt_of_cell? w _ HX.out.1)).trans HX.out.1; have hx1 := (HO.out.bel.cell (World.block_lt_of_cell? w _ HX.out.2.1)).trans HX.out.2.1; have hx2 := (HO.out.bel.cell (World.block_lt_of_cell? w _ HX.out.2.2)).trans HX.out.2.2
                refine start_ (n := 17) (S := fun W => Own w W ([])) (ds := [16]) #[false, false, false, false, false, false, false, false, false, false, false, false, false, false, false, false, false] (by kernel_rfl) rfl rfl (Own.drew (HO.out.picks (.nil))) (fun hHeld => ?_)
                have HO_ := Aside0.mk HO.out.drew
                clear HO
                have HO := HO_
                clear HO_
                generalize World.drew _ = wr at HO hHeld ⊢
                refine Hp.pu_ 0 142 (Hp.up 17 1) ?_
                refine Hp.pu_ 1 143 (Hp.up 17 2) ?_
                refine Hp.pu_ 2 144 (Hp.up 17 3) ?_
                refine Hp.pu_ 3 145 (Hp.up 17 4) ?_
                refine Hp.pu_ 4 146 (Hp.up 17 5) ?_
                refine take_ (i := 5) (N := some 147) (v := .int .i64 (k0 : Int)) (a' := ?_) (Hp.up 17 6) rfl rfl (by kernel_rfl) (fun _ _ _ h => h) (Or.inl ⟨by rfl, fun w' hS => old_load rfl (by rfl) hui rfl ((hS.bel.cell (World.block_lt_of_cell? w _ HX.out.1)).trans HX.out.1)⟩) hHeld ?_ ?_
                rotate_left
                · simp only [Act.put, List.setIfInBounds_toArray, List.set_cons_zero, List.set_cons_succ, i64_w, i32_w]
                  rfl
                refine Hp.pu_ 6 148 (Hp.up 17 7) ?_
                refine Hp.pu_ 7 149 (Hp.up 17 8) ?_
                refine Hp.pu_ 8 150 (Hp.up 17 9) ?_
                refine Hp.pu_ 9 151 (Hp.up 17 10) ?_
                refine take_ (i := 10) (N := some 152) (v := .int .i64 ax) (a' := ?_) (Hp.up 17 11) rfl rfl (by kernel_rfl) (fun _ _ _ h => h) (Or.inl ⟨by rfl, fun w' hS => old_load rfl (by rfl) hui rfl ((hS.bel.cell (World.block_lt_of_cell? w _ HX.out.2.1)).trans HX.out.2.1)⟩) hHeld ?_ ?_
                rotate_left
                · simp only [Act.put, List.setIfInBounds_toArray, List.set_cons_zero, List.set_cons_succ, i64_w, i32_w]
                  rfl
                refine Hp.pu_ 11 153 (Hp.up 17 12) ?_
                refine Hp.pu_ 12 154 (Hp.up 17 13) ?_
                refine Hp.pu_ 13 155 (Hp.up 17 14) ?_
                refine Hp.pu_ 14 156 (Hp.up 17 15) ?_
                refine take_ (i := 15) (N := some 157) (v := .int .u8 cx) (a' := ?_) (Hp.up 17 16) rfl rfl (by kernel_rfl) (fun _ _ _ h => h) (Or.inl ⟨by rfl, fun w' hS => old_load rfl (by rfl) hu8 rfl ((hS.bel.cell (World.block_lt_of_cell? w _ HX.out.2.2)).trans HX.out.2.2)⟩) hHeld ?_ ?_
                rotate_left
                · simp only [Act.put, List.setIfInBounds_toArray, List.set_cons_zero, List.set_cons_succ, i64_w, i32_w]
                  rfl
                refine last_ (i := 16) (N := some 158) (Hp.up 17 17) rfl rfl (by kernel_rfl) (by decide) (fun K hK => ?_)
                refine goes_ Try.func20 (by kernel_rfl) rfl #[.pointer (some ⟨gw, 0, none⟩), .int .i64 (k0 : Int), .int .i64 ax, .int .u8 cx] (by rfl) rfl rfl (by (try simp only [List.map_toArray, List.map_cons, List.map_nil]); first | done | rfl) ?_
                refine (write_calls w _ _ X gw (Z : Int) Z N A c D cx (k0 : Int) ax HNn.out HZn.out rfl HD.out.1 HX0.out HO.out.toW).mono ?_
                rintro e wx ⟨rfl, X2, hX2, hO_⟩
                refine ⟨_, rfl, ?_⟩
                have HX2 := Aside0.mk hX2
                clear hX2
                have hO_ := hO_.fromW
                clear HO; have HO := Aside0.mk hO_; clear hO_
                refine hK.out _ _ ?_
                clear hK K
                refine norm_ (a' := ?_) ?_ ?_
                rotate_left
                · show Act.put _ (some 158) _ = _
                  simp only [Act.put, List.setIfInBounds_toArray, List.set_cons_zero, List.set_cons_succ, i64_w, i32_w]
                  rfl
                refine done_ (by kernel_rfl) ?_
                clear hHeld
                obtain ⟨D1, hD1⟩ : ∃ D1, (wrote D Z (k0 : Int) ax cx) = D1 := ⟨_, rfl⟩
                rw [hD1] at HO HX2 HDw
                have HB1 : Aside0 (D1.flatten.length = NN) := ⟨by rw [flat_len D1 Z HDw.out.2, HDw.out.1, HS2.out]⟩
                clear hD1
                try clear hx0 hx1 hx2
                try go_wp2
                refine start_ (n := 7) (S := fun W => Own w W ([] : Hl)) (ds := []) #[false, false, false, false, false, false, false] (by kernel_rfl) rfl rfl (Own.drew (HO.out.dropAll)) (fun hHeld => ?_)
                have HO_ := Aside0.mk HO.out.drew
                clear HO
                have HO := HO_
                clear HO_
                generalize World.drew _ = wr at HO hHeld ⊢
                refine Hp.pu_ 0 159 (Hp.up 7 1) ?_
                refine Hp.pu_ 3 162 #[true, false, false, true, false, false, false] ?_
                refine join_ (σ := Value × Value) 1 (Hp.up 7 6) (fun s_ => [(160, s_.1), (161, .string (strOfNums D1.flatten)), (163, s_.2), (164, .string (strOfNums D1.flatten))]) (fun s_ w' => Own w w' ((ga, .cells #[.int .i64 (Z : Int), .slice (some ⟨gb, 0, none⟩) NN NN] 126 (0, 0)) :: (gb, .cells (u8s (D1).flatten) 5 (0, 0)) :: (gw, .cells #[.int .i64 (Z : Int), .slice A N c] 129 (0, 0)) :: (X2 ++ (Y ++ [])))) ?_ ?_
                rotate_left
                · intro hCont
                  refine one_ (i := 1) (N := some 160) #[true, true, false, true, false, false, false] rfl rfl (by kernel_rfl) (by decide) (fun K hK => ?_)
                  refine goes_ Try.func18 (by kernel_rfl) rfl #[.pointer (some ⟨ga, 0, none⟩)] (by rfl) rfl rfl (by (try simp only [List.map_toArray, List.map_cons, List.map_nil]); first | done | rfl) ?_
                  refine (bytes_calls w _ ((gw, .cells #[.int .i64 (Z : Int), .slice A N c] 129 (0, 0)) :: (X2 ++ (Y ++ []))) ga gb (Z : Int) NN D1.flatten HB1.out HM.out HO.out).mono ?_
                  rintro e wx ⟨v5, rfl, R5, hR5, hO_⟩
                  refine ⟨_, rfl, ?_⟩
                  have HR5 := Aside0.mk hR5
                  clear hR5
                  have hO_ := hO_.intail
                  clear HO; have HO := Aside0.mk hO_; clear hO_
                  refine hK.out _ _ (HO.out.dropAll) (fun hHeld => ?_)
                  clear hK K
                  refine norm_ (a' := ?_) ?_ ?_
                  rotate_left
                  · show Act.put _ (some 160) _ = _
                    simp only [Act.put, List.setIfInBounds_toArray, List.set_cons_zero, List.set_cons_succ, i64_w, i32_w]
                    rfl
                  refine two_ (i := 2) (j := 4) (Ni := some 161) (Nj := some 163) (Hp.up 7 4) #[true, true, false, true, true, false, false] rfl rfl rfl rfl (by kernel_rfl) (by decide) (by decide) (fun K hK => ?_) (fun K hK => ?_)
                  · skip
                    refine event_step (by rfl) (exec_conv rfl (by rfl) (RowOf.string (P := Try.prog) hul hu8 hus HR5.out (Own.swap3 (B := ((ga, .cells #[.int .i64 (Z : Int), .slice (some ⟨gb, 0, none⟩) NN NN] 126 (0, 0)) :: (gb, .cells (u8s (D1).flatten) 5 (0, 0)) :: (gw, .cells #[.int .i64 (Z : Int), .slice A N c] 129 (0, 0)) :: X2)) (R := R5) HO.out))) ?_
                    refine hK.out _ _ (HO.out.dropAll) (fun hHeld => ?_)
                    clear hK K
                    refine norm_ (a' := ?_) ?_ ?_
                    rotate_left
                    · show Act.put _ (some 161) _ = _
                      simp only [Act.put, List.setIfInBounds_toArray, List.set_cons_zero, List.set_cons_succ, i64_w, i32_w]
                      rfl
                    refine one_ (i := 4) (N := some 163) (Hp.up 7 5) rfl rfl (by kernel_rfl) (by decide) (fun K hK => ?_)
                    refine goes_ Try.func21 (by kernel_rfl) rfl #[.pointer (some ⟨gw, 0, none⟩)] (by rfl) rfl rfl (by (try simp only [List.map_toArray, List.map_cons, List.map_nil]); first | done | rfl) ?_
                    refine (rbytes_calls w _ ((ga, .cells #[.int .i64 (Z : Int), .slice (some ⟨gb, 0, none⟩) NN NN] 126 (0, 0)) :: (gb, .cells (u8s (D1).flatten) 5 (0, 0)) :: (R5 ++ (Y ++ []))) X2 gw (Z : Int) Z N A c D1 HNn.out HZn.out rfl HDw.out.1 HX2.out HO.out.toW).mono ?_
                    rintro e wx ⟨v6, rfl, R6, hR6, hO_⟩
                    refine ⟨_, rfl, ?_⟩
                    have HR6 := Aside0.mk hR6
                    clear hR6
                    have hO_ := hO_.fromW2
                    clear HO; have HO := Aside0.mk hO_; clear hO_
                    refine hK.out _ _ (HO.out.dropAll) (fun hHeld => ?_)
                    clear hK K
                    refine norm_ (a' := ?_) ?_ ?_
                    rotate_left
                    · show Act.put _ (some 163) _ = _
                      simp only [Act.put, List.setIfInBounds_toArray, List.set_cons_zero, List.set_cons_succ, i64_w, i32_w]
                      rfl
                    refine one_ (i := 5) (N := some 164) (Hp.up 7 6) rfl rfl (by kernel_rfl) (by decide) (fun K hK => ?_)
                    refine event_step (by rfl) (exec_conv rfl (by rfl) (RowOf.string (P := Try.prog) hul hu8 hus HR6.out (Own.swap3 (B := ((ga, .cells #[.int .i64 (Z : Int), .slice (some ⟨gb, 0, none⟩) NN NN] 126 (0, 0)) :: (gb, .cells (u8s (D1).flatten) 5 (0, 0)) :: (gw, .cells #[.int .i64 (Z : Int), .slice A N c] 129 (0, 0)) :: X2)) (R := R6) HO.out))) ?_
                    refine hK.out _ _ (HO.out.dropAll) (fun hHeld => ?_)
                    clear hK K
                    refine norm_ (a' := ?_) ?_ ?_
                    rotate_left
                    · show Act.put _ (some 164) _ = _
                      simp only [Act.put, List.setIfInBounds_toArray, List.set_cons_zero, List.set_cons_succ, i64_w, i32_w]
                      rfl
                    exact norm_ (by simp only [putAll, Act.put, List.setIfInBounds_toArray, List.set_cons_zero, List.set_cons_succ]) (hCont (v5, v6) _ (Own.droptail (S := ((ga, .cells #[.int .i64 (Z : Int), .slice (some ⟨gb, 0, none⟩) NN NN] 126 (0, 0)) :: (gb, .cells (u8s (D1).flatten) 5 (0, 0)) :: (gw, .cells #[.int .i64 (Z : Int), .slice A N c] 129 (0, 0)) :: X2)) (Own.droptail (S := ((ga, .cells #[.int .i64 (Z : Int), .slice (some ⟨gb, 0, none⟩) NN NN] 126 (0, 0)) :: (gb, .cells (u8s (D1).flatten) 5 (0, 0)) :: (gw, .cells #[.int .i64 (Z : Int), .slice A N c] 129 (0, 0)) :: X2)) HO.out)))
                  · skip
                    refine goes_ Try.func21 (by kernel_rfl) rfl #[.pointer (some ⟨gw, 0, none⟩)] (by rfl) rfl rfl (by (try simp only [List.map_toArray, List.map_cons, List.map_nil]); first | done | rfl) ?_
                    refine (rbytes_calls w _ ((ga, .cells #[.int .i64 (Z : Int), .slice (some ⟨gb, 0, none⟩) NN NN] 126 (0, 0)) :: (gb, .cells (u8s (D1).flatten) 5 (0, 0)) :: (R5 ++ (Y ++ []))) X2 gw (Z : Int) Z N A c D1 HNn.out HZn.out rfl HDw.out.1 HX2.out HO.out.toW).mono ?_
                    rintro e wx ⟨v6, rfl, R6, hR6, hO_⟩
                    refine ⟨_, rfl, ?_⟩
                    have HR6 := Aside0.mk hR6
                    clear hR6
                    have hO_ := hO_.fromW2
                    clear HO; have HO := Aside0.mk hO_; clear hO_
                    refine hK.out _ _ (HO.out.dropAll) (fun hHeld => ?_)
                    clear hK K
                    refine norm_ (a' := ?_) ?_ ?_
                    rotate_left
                    · show Act.put _ (some 163) _ = _
                      simp only [Act.put, List.setIfInBounds_toArray, List.set_cons_zero, List.set_cons_succ, i64_w, i32_w]
                      rfl
                    refine two_ (i := 2) (j := 5) (Ni := some 161) (Nj := some 164) (Hp.up 7 5) #[true, true, false, true, true, true, false] rfl rfl rfl rfl (by kernel_rfl) (by decide) (by decide) (fun K hK => ?_) (fun K hK => ?_)
                    · skip
                      refine event_step (by rfl) (exec_conv rfl (by rfl) (RowOf.string (P := Try.prog) hul hu8 hus HR5.out (Own.swap3 (B := ((ga, .cells #[.int .i64 (Z : Int), .slice (some ⟨gb, 0, none⟩) NN NN] 126 (0, 0)) :: (gb, .cells (u8s (D1).flatten) 5 (0, 0)) :: (gw, .cells #[.int .i64 (Z : Int), .slice A N c] 129 (0, 0)) :: X2)) (R := R5) (Own.swap4 (S := ((ga, .cells #[.int .i64 (Z : Int), .slice (some ⟨gb, 0, none⟩) NN NN] 126 (0, 0)) :: (gb, .cells (u8s (D1).flatten) 5 (0, 0)) :: (gw, .cells #[.int .i64 (Z : Int), .slice A N c] 129 (0, 0)) :: X2)) (B := R6) (R := R5) HO.out)))) ?_
                      refine hK.out _ _ (HO.out.dropAll) (fun hHeld => ?_)
                      clear hK K
                      refine norm_ (a' := ?_) ?_ ?_
                      rotate_left
                      · show Act.put _ (some 161) _ = _
                        simp only [Act.put, List.setIfInBounds_toArray, List.set_cons_zero, List.set_cons_succ, i64_w, i32_w]
                        rfl
                      refine one_ (i := 5) (N := some 164) (Hp.up 7 6) rfl rfl (by kernel_rfl) (by decide) (fun K hK => ?_)
                      refine event_step (by rfl) (exec_conv rfl (by rfl) (RowOf.string (P := Try.prog) hul hu8 hus HR6.out (Own.swap3 (B := ((ga, .cells #[.int .i64 (Z : Int), .slice (some ⟨gb, 0, none⟩) NN NN] 126 (0, 0)) :: (gb, .cells (u8s (D1).flatten) 5 (0, 0)) :: (gw, .cells #[.int .i64 (Z : Int), .slice A N c] 129 (0, 0)) :: X2)) (R := R6) HO.out))) ?_
                      refine hK.out _ _ (HO.out.dropAll) (fun hHeld => ?_)
                      clear hK K
                      refine norm_ (a' := ?_) ?_ ?_
                      rotate_left
                      · show Act.put _ (some 164) _ = _
                        simp only [Act.put, List.setIfInBounds_toArray, List.set_cons_zero, List.set_cons_succ, i64_w, i32_w]
                        rfl
                      exact norm_ (by simp only [putAll, Act.put, List.setIfInBounds_toArray, List.set_cons_zero, List.set_cons_succ]) (hCont (v5, v6) _ (Own.droptail (S := ((ga, .cells #[.int .i64 (Z : Int), .slice (some ⟨gb, 0, none⟩) NN NN] 126 (0, 0)) :: (gb, .cells (u8s (D1).flatten) 5 (0, 0)) :: (gw, .cells #[.int .i64 (Z : Int), .slice A N c] 129 (0, 0)) :: X2)) (Own.droptail (S := ((ga, .cells #[.int .i64 (Z : Int), .slice (some ⟨gb, 0, none⟩) NN NN] 126 (0, 0)) :: (gb, .cells (u8s (D1).flatten) 5 (0, 0)) :: (gw, .cells #[.int .i64 (Z : Int), .slice A N c] 129 (0, 0)) :: X2)) HO.out)))
                    · skip
                      refine event_step (by rfl) (exec_conv rfl (by rfl) (RowOf.string (P := Try.prog) hul hu8 hus HR6.out (Own.swap3 (B := ((ga, .cells #[.int .i64 (Z : Int), .slice (some ⟨gb, 0, none⟩) NN NN] 126 (0, 0)) :: (gb, .cells (u8s (D1).flatten) 5 (0, 0)) :: (gw, .cells #[.int .i64 (Z : Int), .slice A N c] 129 (0, 0)) :: X2)) (R := R6) HO.out))) ?_
                      refine hK.out _ _ (HO.out.dropAll) (fun hHeld => ?_)
                      clear hK K
                      refine norm_ (a' := ?_) ?_ ?_
                      rotate_left
                      · show Act.put _ (some 164) _ = _
                        simp only [Act.put, List.setIfInBounds_toArray, List.set_cons_zero, List.set_cons_succ, i64_w, i32_w]
                        rfl
                      refine one_ (i := 2) (N := some 161) (Hp.up 7 6) rfl rfl (by kernel_rfl) (by decide) (fun K hK => ?_)
                      refine event_step (by rfl) (exec_conv rfl (by rfl) (RowOf.string (P := Try.prog) hul hu8 hus HR5.out (Own.swap3 (B := ((ga, .cells #[.int .i64 (Z : Int), .slice (some ⟨gb, 0, none⟩) NN NN] 126 (0, 0)) :: (gb, .cells (u8s (D1).flatten) 5 (0, 0)) :: (gw, .cells #[.int .i64 (Z : Int), .slice A N c] 129 (0, 0)) :: X2)) (R := R5) (Own.swap4 (S := ((ga, .cells #[.int .i64 (Z : Int), .slice (some ⟨gb, 0, none⟩) NN NN] 126 (0, 0)) :: (gb, .cells (u8s (D1).flatten) 5 (0, 0)) :: (gw, .cells #[.int .i64 (Z : Int), .slice A N c] 129 (0, 0)) :: X2)) (B := R6) (R := R5) HO.out)))) ?_
                      refine hK.out _ _ (HO.out.dropAll) (fun hHeld => ?_)
                      clear hK K
                      refine norm_ (a' := ?_) ?_ ?_
                      rotate_left
                      · show Act.put _ (some 161) _ = _
                        simp only [Act.put, List.setIfInBounds_toArray, List.set_cons_zero, List.set_cons_succ, i64_w, i32_w]
                        rfl
                      exact norm_ (by simp only [putAll, Act.put, List.setIfInBounds_toArray, List.set_cons_zero, List.set_cons_succ]) (hCont (v5, v6) _ (Own.droptail (S := ((ga, .cells #[.int .i64 (Z : Int), .slice (some ⟨gb, 0, none⟩) NN NN] 126 (0, 0)) :: (gb, .cells (u8s (D1).flatten) 5 (0, 0)) :: (gw, .cells #[.int .i64 (Z : Int), .slice A N c] 129 (0, 0)) :: X2)) (Own.droptail (S := ((ga, .cells #[.int .i64 (Z : Int), .slice (some ⟨gb, 0, none⟩) NN NN] 126 (0, 0)) :: (gb, .cells (u8s (D1).flatten) 5 (0, 0)) :: (gw, .cells #[.int .i64 (Z : Int), .slice A N c] 129 (0, 0)) :: X2)) HO.out)))
                rintro ⟨v5, v6⟩ wj hO_
                clear HO
                have HO := Aside0.mk hO_
                have hHeld := HO.out.dropAll
                clear hO_
                refine norm_ (a' := ?_) ?_ ?_
                rotate_left
                · simp only [putAll, Act.put, List.setIfInBounds_toArray, List.set_cons_zero, List.set_cons_succ]
                  rfl
                refine Hp.pu_ 6 165 (Hp.up 7 7) ?_
                refine done_ (by kernel_rfl) ?_
                clear hHeld
                go_wp2
                go_roundg gk
                case measure => omega
                case rel => exact ⟨i + 1, D1, X2, Y, rfl, ⟨by have := HI.out; omega⟩, HDw, HX2, HC, HO⟩
          · have HW : Aside0 (wrote D Z kx ax cx = D) := ⟨if_neg (by have := HD.out.1; omega)⟩
            have HK : Aside0 (kx < 0 ∨ (N : Int) ≤ kx) := ⟨by omega⟩
            by_cases hk0 : 0 ≤ kx
            · have c5 : decide (0 ≤ kx) = true := decide_eq_true hk0
              have c6 : decide (kx < (N : Int)) = false := decide_eq_false (by omega)
              clear hk hk0
              go_wp2_with (first | ((with_reducible refine gate_callee (f := 19) rfl ?_); (with_reducible refine gate_dst (N := 71) rfl ?_); refine goesL_ (some 71) rfl rfl Try.func19 (by kernel_rfl) rfl #[.pointer (some ⟨ga, 0, none⟩), .int .i64 kx] rfl (by (try simp only [List.map_toArray, List.map_cons, List.map_nil]); first | done | rfl) ?_; (with_reducible refine (slot_none w _ ((gw, .cells #[.int .i64 (Z : Int), .slice A N c] 129 (0, 0)) :: (X ++ (Y ++ []))) ga gb (Z : Int) NN D.flatten kx (N : Int) HZ.out HN.out.1 HS.out HK.out HO.out).mono ?_); rintro e wx ⟨rfl, hO_⟩; refine ⟨_, rfl, ?_⟩; clear HO; have HO := Aside0.mk hO_; clear hO_; (try clear hx0 hx1 hx2); have hx0 := (HO.out.bel.cell (World.block_lt_of_cell? w _ HX.out.1)).trans HX.out.1; have hx1 := (HO.out.bel.cell (World.block_lt_of_cell? w _ HX.out.2.1)).trans HX.out.2.1; have hx2 := (HO.out.bel.cell (World.block_lt_of_cell? w _ HX.out.2.2)).trans HX.out.2.2) | ((with_reducible refine gate_dst (N := 140) rfl ?_); refine own_lit HO.out ?hg (N := 140) ?hd (cs := #[.int .u8 77]) (t := 5) (n := 1) (m := 1) ?hr ?_; (case hd => rfl); (case hg => rfl); (case hr => first | (go_simp; done) | (go_simp; rfl) | kernel_rfl); intro g140 w140 hO_; clear HO; have HO := Aside0.mk hO_; clear hO_) | ((with_reducible refine gate_dst (N := 141) rfl ?_); refine own_append (z := .int .u8 0) (size := 1) (bytes := 1) (R := []) (L := (g140, .cells #[.int .u8 77] 5 (0, 0)) :: _) [] HO.out rfl rfl hul (by kernel_rfl) rfl (by rfl) (RowOf.none _ _) (by rfl) (HO.out.src hul .head 0 1 1 [.int .u8 77] rfl rfl (by simp [Value.oneCell'])) (by decide) (by decide) ?_; intro v9 R9 wc hR9 hO_; clear hR9; have hO_ := (Own.last (B := R9) hO_).drop; clear HO; have HO := Aside0.mk hO_; clear hO_; (try clear hx0 hx1 hx2); have hx0 := (HO.out.bel.cell (World.block_lt_of_cell? w _ HX.out.1)).trans HX.out.1; have hx1 := (HO.out.bel.cell (World.block_lt_of_cell? w _ HX.out.2.1)).trans HX.out.2.1; have hx2 := (HO.out.bel.cell (World.block_lt_of_cell? w _ HX.out.2.2)).trans HX.out.2.2))
              have hO_ := HO.out
              rw [← HW.out] at hO_
              clear HO; have HO := Aside0.mk hO_; clear hO_; (try clear hx0 hx1 hx2); have hx0 := (HO.out.bel.cell (World.block_lt_of_cell? w _ HX.out.1)).trans HX.out.1; have hx1 := (HO.out.bel.cell (World.block_lt_of_cell? w _ HX.out.2.1)).trans HX.out.2.1; have hx2 := (HO.out.bel.cell (World.block_lt_of_cell? w _ HX.out.2.2)).trans HX.out.2.2
              refine start_ (n := 17) (S := fun W => Own w W ([])) (ds := [16]) #[false, false, false, false, false, false, false, false, false, false, false, false, false, false, false, false, false] (by kernel_rfl) rfl rfl (Own.drew (HO.out.picks (.nil))) (fun hHeld => ?_)
              have HO_ := Aside0.mk HO.out.drew
              clear HO
              have HO := HO_
              clear HO_
              generalize World.drew _ = wr at HO hHeld ⊢
              refine Hp.pu_ 0 142 (Hp.up 17 1) ?_
              refine Hp.pu_ 1 143 (Hp.up 17 2) ?_
              refine Hp.pu_ 2 144 (Hp.up 17 3) ?_
              refine Hp.pu_ 3 145 (Hp.up 17 4) ?_
              refine Hp.pu_ 4 146 (Hp.up 17 5) ?_
              refine take_ (i := 5) (N := some 147) (v := .int .i64 kx) (a' := ?_) (Hp.up 17 6) rfl rfl (by kernel_rfl) (fun _ _ _ h => h) (Or.inl ⟨by rfl, fun w' hS => old_load rfl (by rfl) hui rfl ((hS.bel.cell (World.block_lt_of_cell? w _ HX.out.1)).trans HX.out.1)⟩) hHeld ?_ ?_
              rotate_left
              · simp only [Act.put, List.setIfInBounds_toArray, List.set_cons_zero, List.set_cons_succ, i64_w, i32_w]
                rfl
              refine Hp.pu_ 6 148 (Hp.up 17 7) ?_
              refine Hp.pu_ 7 149 (Hp.up 17 8) ?_
              refine Hp.pu_ 8 150 (Hp.up 17 9) ?_
              refine Hp.pu_ 9 151 (Hp.up 17 10) ?_
              refine take_ (i := 10) (N := some 152) (v := .int .i64 ax) (a' := ?_) (Hp.up 17 11) rfl rfl (by kernel_rfl) (fun _ _ _ h => h) (Or.inl ⟨by rfl, fun w' hS => old_load rfl (by rfl) hui rfl ((hS.bel.cell (World.block_lt_of_cell? w _ HX.out.2.1)).trans HX.out.2.1)⟩) hHeld ?_ ?_
              rotate_left
              · simp only [Act.put, List.setIfInBounds_toArray, List.set_cons_zero, List.set_cons_succ, i64_w, i32_w]
                rfl
              refine Hp.pu_ 11 153 (Hp.up 17 12) ?_
              refine Hp.pu_ 12 154 (Hp.up 17 13) ?_
              refine Hp.pu_ 13 155 (Hp.up 17 14) ?_
              refine Hp.pu_ 14 156 (Hp.up 17 15) ?_
              refine take_ (i := 15) (N := some 157) (v := .int .u8 cx) (a' := ?_) (Hp.up 17 16) rfl rfl (by kernel_rfl) (fun _ _ _ h => h) (Or.inl ⟨by rfl, fun w' hS => old_load rfl (by rfl) hu8 rfl ((hS.bel.cell (World.block_lt_of_cell? w _ HX.out.2.2)).trans HX.out.2.2)⟩) hHeld ?_ ?_
              rotate_left
              · simp only [Act.put, List.setIfInBounds_toArray, List.set_cons_zero, List.set_cons_succ, i64_w, i32_w]
                rfl
              refine last_ (i := 16) (N := some 158) (Hp.up 17 17) rfl rfl (by kernel_rfl) (by decide) (fun K hK => ?_)
              refine goes_ Try.func20 (by kernel_rfl) rfl #[.pointer (some ⟨gw, 0, none⟩), .int .i64 kx, .int .i64 ax, .int .u8 cx] (by rfl) rfl rfl (by (try simp only [List.map_toArray, List.map_cons, List.map_nil]); first | done | rfl) ?_
              refine (write_calls w _ _ X gw (Z : Int) Z N A c D cx kx ax HNn.out HZn.out rfl HD.out.1 HX0.out HO.out.toW).mono ?_
              rintro e wx ⟨rfl, X2, hX2, hO_⟩
              refine ⟨_, rfl, ?_⟩
              have HX2 := Aside0.mk hX2
              clear hX2
              have hO_ := hO_.fromW
              clear HO; have HO := Aside0.mk hO_; clear hO_
              refine hK.out _ _ ?_
              clear hK K
              refine norm_ (a' := ?_) ?_ ?_
              rotate_left
              · show Act.put _ (some 158) _ = _
                simp only [Act.put, List.setIfInBounds_toArray, List.set_cons_zero, List.set_cons_succ, i64_w, i32_w]
                rfl
              refine done_ (by kernel_rfl) ?_
              clear hHeld
              obtain ⟨D1, hD1⟩ : ∃ D1, (wrote D Z kx ax cx) = D1 := ⟨_, rfl⟩
              rw [hD1] at HO HX2 HDw
              have HB1 : Aside0 (D1.flatten.length = NN) := ⟨by rw [flat_len D1 Z HDw.out.2, HDw.out.1, HS2.out]⟩
              clear hD1
              try clear hx0 hx1 hx2
              try go_wp2
              refine start_ (n := 7) (S := fun W => Own w W ([] : Hl)) (ds := []) #[false, false, false, false, false, false, false] (by kernel_rfl) rfl rfl (Own.drew (HO.out.dropAll)) (fun hHeld => ?_)
              have HO_ := Aside0.mk HO.out.drew
              clear HO
              have HO := HO_
              clear HO_
              generalize World.drew _ = wr at HO hHeld ⊢
              refine Hp.pu_ 0 159 (Hp.up 7 1) ?_
              refine Hp.pu_ 3 162 #[true, false, false, true, false, false, false] ?_
              refine join_ (σ := Value × Value) 1 (Hp.up 7 6) (fun s_ => [(160, s_.1), (161, .string (strOfNums D1.flatten)), (163, s_.2), (164, .string (strOfNums D1.flatten))]) (fun s_ w' => Own w w' ((ga, .cells #[.int .i64 (Z : Int), .slice (some ⟨gb, 0, none⟩) NN NN] 126 (0, 0)) :: (gb, .cells (u8s (D1).flatten) 5 (0, 0)) :: (gw, .cells #[.int .i64 (Z : Int), .slice A N c] 129 (0, 0)) :: (X2 ++ (Y ++ [])))) ?_ ?_
              rotate_left
              · intro hCont
                refine one_ (i := 1) (N := some 160) #[true, true, false, true, false, false, false] rfl rfl (by kernel_rfl) (by decide) (fun K hK => ?_)
                refine goes_ Try.func18 (by kernel_rfl) rfl #[.pointer (some ⟨ga, 0, none⟩)] (by rfl) rfl rfl (by (try simp only [List.map_toArray, List.map_cons, List.map_nil]); first | done | rfl) ?_
                refine (bytes_calls w _ ((gw, .cells #[.int .i64 (Z : Int), .slice A N c] 129 (0, 0)) :: (X2 ++ (Y ++ []))) ga gb (Z : Int) NN D1.flatten HB1.out HM.out HO.out).mono ?_
                rintro e wx ⟨v5, rfl, R5, hR5, hO_⟩
                refine ⟨_, rfl, ?_⟩
                have HR5 := Aside0.mk hR5
                clear hR5
                have hO_ := hO_.intail
                clear HO; have HO := Aside0.mk hO_; clear hO_
                refine hK.out _ _ (HO.out.dropAll) (fun hHeld => ?_)
                clear hK K
                refine norm_ (a' := ?_) ?_ ?_
                rotate_left
                · show Act.put _ (some 160) _ = _
                  simp only [Act.put, List.setIfInBounds_toArray, List.set_cons_zero, List.set_cons_succ, i64_w, i32_w]
                  rfl
                refine two_ (i := 2) (j := 4) (Ni := some 161) (Nj := some 163) (Hp.up 7 4) #[true, true, false, true, true, false, false] rfl rfl rfl rfl (by kernel_rfl) (by decide) (by decide) (fun K hK => ?_) (fun K hK => ?_)
                · skip
                  refine event_step (by rfl) (exec_conv rfl (by rfl) (RowOf.string (P := Try.prog) hul hu8 hus HR5.out (Own.swap3 (B := ((ga, .cells #[.int .i64 (Z : Int), .slice (some ⟨gb, 0, none⟩) NN NN] 126 (0, 0)) :: (gb, .cells (u8s (D1).flatten) 5 (0, 0)) :: (gw, .cells #[.int .i64 (Z : Int), .slice A N c] 129 (0, 0)) :: X2)) (R := R5) HO.out))) ?_
                  refine hK.out _ _ (HO.out.dropAll) (fun hHeld => ?_)
                  clear hK K
                  refine norm_ (a' := ?_) ?_ ?_
                  rotate_left
                  · show Act.put _ (some 161) _ = _
                    simp only [Act.put, List.setIfInBounds_toArray, List.set_cons_zero, List.set_cons_succ, i64_w, i32_w]
                    rfl
                  refine one_ (i := 4) (N := some 163) (Hp.up 7 5) rfl rfl (by kernel_rfl) (by decide) (fun K hK => ?_)
                  refine goes_ Try.func21 (by kernel_rfl) rfl #[.pointer (some ⟨gw, 0, none⟩)] (by rfl) rfl rfl (by (try simp only [List.map_toArray, List.map_cons, List.map_nil]); first | done | rfl) ?_
                  refine (rbytes_calls w _ ((ga, .cells #[.int .i64 (Z : Int), .slice (some ⟨gb, 0, none⟩) NN NN] 126 (0, 0)) :: (gb, .cells (u8s (D1).flatten) 5 (0, 0)) :: (R5 ++ (Y ++ []))) X2 gw (Z : Int) Z N A c D1 HNn.out HZn.out rfl HDw.out.1 HX2.out HO.out.toW).mono ?_
                  rintro e wx ⟨v6, rfl, R6, hR6, hO_⟩
                  refine ⟨_, rfl, ?_⟩
                  have HR6 := Aside0.mk hR6
                  clear hR6
                  have hO_ := hO_.fromW2
                  clear HO; have HO := Aside0.mk hO_; clear hO_
                  refine hK.out _ _ (HO.out.dropAll) (fun hHeld => ?_)
                  clear hK K
                  refine norm_ (a' := ?_) ?_ ?_
                  rotate_left
                  · show Act.put _ (some 163) _ = _
                    simp only [Act.put, List.setIfInBounds_toArray, List.set_cons_zero, List.set_cons_succ, i64_w, i32_w]
                    rfl
                  refine one_ (i := 5) (N := some 164) (Hp.up 7 6) rfl rfl (by kernel_rfl) (by decide) (fun K hK => ?_)
                  refine event_step (by rfl) (exec_conv rfl (by rfl) (RowOf.string (P := Try.prog) hul hu8 hus HR6.out (Own.swap3 (B := ((ga, .cells #[.int .i64 (Z : Int), .slice (some ⟨gb, 0, none⟩) NN NN] 126 (0, 0)) :: (gb, .cells (u8s (D1).flatten) 5 (0, 0)) :: (gw, .cells #[.int .i64 (Z : Int), .slice A N c] 129 (0, 0)) :: X2)) (R := R6) HO.out))) ?_
                  refine hK.out _ _ (HO.out.dropAll) (fun hHeld => ?_)
                  clear hK K
                  refine norm_ (a' := ?_) ?_ ?_
                  rotate_left
                  · show Act.put _ (some 164) _ = _
                    simp only [Act.put, List.setIfInBounds_toArray, List.set_cons_zero, List.set_cons_succ, i64_w, i32_w]
                    rfl
                  exact norm_ (by simp only [putAll, Act.put, List.setIfInBounds_toArray, List.set_cons_zero, List.set_cons_succ]) (hCont (v5, v6) _ (Own.droptail (S := ((ga, .cells #[.int .i64 (Z : Int), .slice (some ⟨gb, 0, none⟩) NN NN] 126 (0, 0)) :: (gb, .cells (u8s (D1).flatten) 5 (0, 0)) :: (gw, .cells #[.int .i64 (Z : Int), .slice A N c] 129 (0, 0)) :: X2)) (Own.droptail (S := ((ga, .cells #[.int .i64 (Z : Int), .slice (some ⟨gb, 0, none⟩) NN NN] 126 (0, 0)) :: (gb, .cells (u8s (D1).flatten) 5 (0, 0)) :: (gw, .cells #[.int .i64 (Z : Int), .slice A N c] 129 (0, 0)) :: X2)) HO.out)))
                · skip
                  refine goes_ Try.func21 (by kernel_rfl) rfl #[.pointer (some ⟨gw, 0, none⟩)] (by rfl) rfl rfl (by (try simp only [List.map_toArray, List.map_cons, List.map_nil]); first | done | rfl) ?_
                  refine (rbytes_calls w _ ((ga, .cells #[.int .i64 (Z : Int), .slice (some ⟨gb, 0, none⟩) NN NN] 126 (0, 0)) :: (gb, .cells (u8s (D1).flatten) 5 (0, 0)) :: (R5 ++ (Y ++ []))) X2 gw (Z : Int) Z N A c D1 HNn.out HZn.out rfl HDw.out.1 HX2.out HO.out.toW).mono ?_
                  rintro e wx ⟨v6, rfl, R6, hR6, hO_⟩
                  refine ⟨_, rfl, ?_⟩
                  have HR6 := Aside0.mk hR6
                  clear hR6
                  have hO_ := hO_.fromW2
                  clear HO; have HO := Aside0.mk hO_; clear hO_
                  refine hK.out _ _ (HO.out.dropAll) (fun hHeld => ?_)
                  clear hK K
                  refine norm_ (a' := ?_) ?_ ?_
                  rotate_left
                  · show Act.put _ (some 163) _ = _
                    simp only [Act.put, List.setIfInBounds_toArray, List.set_cons_zero, List.set_cons_succ, i64_w, i32_w]
                    rfl
                  refine two_ (i := 2) (j := 5) (Ni := some 161) (Nj := some 164) (Hp.up 7 5) #[true, true, false, true, true, true, false] rfl rfl rfl rfl (by kernel_rfl) (by decide) (by decide) (fun K hK => ?_) (fun K hK => ?_)
                  · skip
                    refine event_step (by rfl) (exec_conv rfl (by rfl) (RowOf.string (P := Try.prog) hul hu8 hus HR5.out (Own.swap3 (B := ((ga, .cells #[.int .i64 (Z : Int), .slice (some ⟨gb, 0, none⟩) NN NN] 126 (0, 0)) :: (gb, .cells (u8s (D1).flatten) 5 (0, 0)) :: (gw, .cells #[.int .i64 (Z : Int), .slice A N c] 129 (0, 0)) :: X2)) (R := R5) (Own.swap4 (S := ((ga, .cells #[.int .i64 (Z : Int), .slice (some ⟨gb, 0, none⟩) NN NN] 126 (0, 0)) :: (gb, .cells (u8s (D1).flatten) 5 (0, 0)) :: (gw, .cells #[.int .i64 (Z : Int), .slice A N c] 129 (0, 0)) :: X2)) (B := R6) (R := R5) HO.out)))) ?_
                    refine hK.out _ _ (HO.out.dropAll) (fun hHeld => ?_)
                    clear hK K
                    refine norm_ (a' := ?_) ?_ ?_
                    rotate_left
                    · show Act.put _ (some 161) _ = _
                      simp only [Act.put, List.setIfInBounds_toArray, List.set_cons_zero, List.set_cons_succ, i64_w, i32_w]
                      rfl
                    refine one_ (i := 5) (N := some 164) (Hp.up 7 6) rfl rfl (by kernel_rfl) (by decide) (fun K hK => ?_)
                    refine event_step (by rfl) (exec_conv rfl (by rfl) (RowOf.string (P := Try.prog) hul hu8 hus HR6.out (Own.swap3 (B := ((ga, .cells #[.int .i64 (Z : Int), .slice (some ⟨gb, 0, none⟩) NN NN] 126 (0, 0)) :: (gb, .cells (u8s (D1).flatten) 5 (0, 0)) :: (gw, .cells #[.int .i64 (Z : Int), .slice A N c] 129 (0, 0)) :: X2)) (R := R6) HO.out))) ?_
                    refine hK.out _ _ (HO.out.dropAll) (fun hHeld => ?_)
                    clear hK K
                    refine norm_ (a' := ?_) ?_ ?_
                    rotate_left
                    · show Act.put _ (some 164) _ = _
                      simp only [Act.put, List.setIfInBounds_toArray, List.set_cons_zero, List.set_cons_succ, i64_w, i32_w]
                      rfl
                    exact norm_ (by simp only [putAll, Act.put, List.setIfInBounds_toArray, List.set_cons_zero, List.set_cons_succ]) (hCont (v5, v6) _ (Own.droptail (S := ((ga, .cells #[.int .i64 (Z : Int), .slice (some ⟨gb, 0, none⟩) NN NN] 126 (0, 0)) :: (gb, .cells (u8s (D1).flatten) 5 (0, 0)) :: (gw, .cells #[.int .i64 (Z : Int), .slice A N c] 129 (0, 0)) :: X2)) (Own.droptail (S := ((ga, .cells #[.int .i64 (Z : Int), .slice (some ⟨gb, 0, none⟩) NN NN] 126 (0, 0)) :: (gb, .cells (u8s (D1).flatten) 5 (0, 0)) :: (gw, .cells #[.int .i64 (Z : Int), .slice A N c] 129 (0, 0)) :: X2)) HO.out)))
                  · skip
                    refine event_step (by rfl) (exec_conv rfl (by rfl) (RowOf.string (P := Try.prog) hul hu8 hus HR6.out (Own.swap3 (B := ((ga, .cells #[.int .i64 (Z : Int), .slice (some ⟨gb, 0, none⟩) NN NN] 126 (0, 0)) :: (gb, .cells (u8s (D1).flatten) 5 (0, 0)) :: (gw, .cells #[.int .i64 (Z : Int), .slice A N c] 129 (0, 0)) :: X2)) (R := R6) HO.out))) ?_
                    refine hK.out _ _ (HO.out.dropAll) (fun hHeld => ?_)
                    clear hK K
                    refine norm_ (a' := ?_) ?_ ?_
                    rotate_left
                    · show Act.put _ (some 164) _ = _
                      simp only [Act.put, List.setIfInBounds_toArray, List.set_cons_zero, List.set_cons_succ, i64_w, i32_w]
                      rfl
                    refine one_ (i := 2) (N := some 161) (Hp.up 7 6) rfl rfl (by kernel_rfl) (by decide) (fun K hK => ?_)
                    refine event_step (by rfl) (exec_conv rfl (by rfl) (RowOf.string (P := Try.prog) hul hu8 hus HR5.out (Own.swap3 (B := ((ga, .cells #[.int .i64 (Z : Int), .slice (some ⟨gb, 0, none⟩) NN NN] 126 (0, 0)) :: (gb, .cells (u8s (D1).flatten) 5 (0, 0)) :: (gw, .cells #[.int .i64 (Z : Int), .slice A N c] 129 (0, 0)) :: X2)) (R := R5) (Own.swap4 (S := ((ga, .cells #[.int .i64 (Z : Int), .slice (some ⟨gb, 0, none⟩) NN NN] 126 (0, 0)) :: (gb, .cells (u8s (D1).flatten) 5 (0, 0)) :: (gw, .cells #[.int .i64 (Z : Int), .slice A N c] 129 (0, 0)) :: X2)) (B := R6) (R := R5) HO.out)))) ?_
                    refine hK.out _ _ (HO.out.dropAll) (fun hHeld => ?_)
                    clear hK K
                    refine norm_ (a' := ?_) ?_ ?_
                    rotate_left
                    · show Act.put _ (some 161) _ = _
                      simp only [Act.put, List.setIfInBounds_toArray, List.set_cons_zero, List.set_cons_succ, i64_w, i32_w]
                      rfl
                    exact norm_ (by simp only [putAll, Act.put, List.setIfInBounds_toArray, List.set_cons_zero, List.set_cons_succ]) (hCont (v5, v6) _ (Own.droptail (S := ((ga, .cells #[.int .i64 (Z : Int), .slice (some ⟨gb, 0, none⟩) NN NN] 126 (0, 0)) :: (gb, .cells (u8s (D1).flatten) 5 (0, 0)) :: (gw, .cells #[.int .i64 (Z : Int), .slice A N c] 129 (0, 0)) :: X2)) (Own.droptail (S := ((ga, .cells #[.int .i64 (Z : Int), .slice (some ⟨gb, 0, none⟩) NN NN] 126 (0, 0)) :: (gb, .cells (u8s (D1).flatten) 5 (0, 0)) :: (gw, .cells #[.int .i64 (Z : Int), .slice A N c] 129 (0, 0)) :: X2)) HO.out)))
              rintro ⟨v5, v6⟩ wj hO_
              clear HO
              have HO := Aside0.mk hO_
              have hHeld := HO.out.dropAll
              clear hO_
              refine norm_ (a' := ?_) ?_ ?_
              rotate_left
              · simp only [putAll, Act.put, List.setIfInBounds_toArray, List.set_cons_zero, List.set_cons_succ]
                rfl
              refine Hp.pu_ 6 165 (Hp.up 7 7) ?_
              refine done_ (by kernel_rfl) ?_
              clear hHeld
              go_wp2
              go_roundg gk
              case measure => omega
              case rel => exact ⟨i + 1, D1, X2, Y, rfl, ⟨by have := HI.out; omega⟩, HDw, HX2, HC, HO⟩
            · have c5 : decide (0 ≤ kx) = false := decide_eq_false hk0
              clear hk hk0
              go_wp2_with (first | ((with_reducible refine gate_callee (f := 19) rfl ?_); (with_reducible refine gate_dst (N := 71) rfl ?_); refine goesL_ (some 71) rfl rfl Try.func19 (by kernel_rfl) rfl #[.pointer (some ⟨ga, 0, none⟩), .int .i64 kx] rfl (by (try simp only [List.map_toArray, List.map_cons, List.map_nil]); first | done | rfl) ?_; (with_reducible refine (slot_none w _ ((gw, .cells #[.int .i64 (Z : Int), .slice A N c] 129 (0, 0)) :: (X ++ (Y ++ []))) ga gb (Z : Int) NN D.flatten kx (N : Int) HZ.out HN.out.1 HS.out HK.out HO.out).mono ?_); rintro e wx ⟨rfl, hO_⟩; refine ⟨_, rfl, ?_⟩; clear HO; have HO := Aside0.mk hO_; clear hO_; (try clear hx0 hx1 hx2); have hx0 := (HO.out.bel.cell (World.block_lt_of_cell? w _ HX.out.1)).trans HX.out.1; have hx1 := (HO.out.bel.cell (World.block_lt_of_cell? w _ HX.out.2.1)).trans HX.out.2.1; have hx2 := (HO.out.bel.cell (World.block_lt_of_cell? w _ HX.out.2.2)).trans HX.out.2.2) | ((with_reducible refine gate_dst (N := 140) rfl ?_); refine own_lit HO.out ?hg (N := 140) ?hd (cs := #[.int .u8 77]) (t := 5) (n := 1) (m := 1) ?hr ?_; (case hd => rfl); (case hg => rfl); (case hr => first | (go_simp; done) | (go_simp; rfl) | kernel_rfl); intro g140 w140 hO_; clear HO; have HO := Aside0.mk hO_; clear hO_) | ((with_reducible refine gate_dst (N := 141) rfl ?_); refine own_append (z := .int .u8 0) (size := 1) (bytes := 1) (R := []) (L := (g140, .cells #[.int .u8 77] 5 (0, 0)) :: _) [] HO.out rfl rfl hul (by kernel_rfl) rfl (by rfl) (RowOf.none _ _) (by rfl) (HO.out.src hul .head 0 1 1 [.int .u8 77] rfl rfl (by simp [Value.oneCell'])) (by decide) (by decide) ?_; intro v9 R9 wc hR9 hO_; clear hR9; have hO_ := (Own.last (B := R9) hO_).drop; clear HO; have HO := Aside0.mk hO_; clear hO_; (try clear hx0 hx1 hx2); have hx0 := (HO.out.bel.cell (World.block_lt_of_cell? w _ HX.out.1)).trans HX.out.1; have hx1 := (HO.out.bel.cell (World.block_lt_of_cell? w _ HX.out.2.1)).trans HX.out.2.1; have hx2 := (HO.out.bel.cell (World.block_lt_of_cell? w _ HX.out.2.2)).trans HX.out.2.2))
              have hO_ := HO.out
              rw [← HW.out] at hO_
              clear HO; have HO := Aside0.mk hO_; clear hO_; (try clear hx0 hx1 hx2); have hx0 := (HO.out.bel.cell (World.block_lt_of_cell? w _ HX.out.1)).trans HX.out.1; have hx1 := (HO.out.bel.cell (World.block_lt_of_cell? w _ HX.out.2.1)).trans HX.out.2.1; have hx2 := (HO.out.bel.cell (World.block_lt_of_cell? w _ HX.out.2.2)).trans HX.out.2.2
              refine start_ (n := 17) (S := fun W => Own w W ([])) (ds := [16]) #[false, false, false, false, false, false, false, false, false, false, false, false, false, false, false, false, false] (by kernel_rfl) rfl rfl (Own.drew (HO.out.picks (.nil))) (fun hHeld => ?_)
              have HO_ := Aside0.mk HO.out.drew
              clear HO
              have HO := HO_
              clear HO_
              generalize World.drew _ = wr at HO hHeld ⊢
              refine Hp.pu_ 0 142 (Hp.up 17 1) ?_
              refine Hp.pu_ 1 143 (Hp.up 17 2) ?_
              refine Hp.pu_ 2 144 (Hp.up 17 3) ?_
              refine Hp.pu_ 3 145 (Hp.up 17 4) ?_
              refine Hp.pu_ 4 146 (Hp.up 17 5) ?_
              refine take_ (i := 5) (N := some 147) (v := .int .i64 kx) (a' := ?_) (Hp.up 17 6) rfl rfl (by kernel_rfl) (fun _ _ _ h => h) (Or.inl ⟨by rfl, fun w' hS => old_load rfl (by rfl) hui rfl ((hS.bel.cell (World.block_lt_of_cell? w _ HX.out.1)).trans HX.out.1)⟩) hHeld ?_ ?_
              rotate_left
              · simp only [Act.put, List.setIfInBounds_toArray, List.set_cons_zero, List.set_cons_succ, i64_w, i32_w]
                rfl
              refine Hp.pu_ 6 148 (Hp.up 17 7) ?_
              refine Hp.pu_ 7 149 (Hp.up 17 8) ?_
              refine Hp.pu_ 8 150 (Hp.up 17 9) ?_
              refine Hp.pu_ 9 151 (Hp.up 17 10) ?_
              refine take_ (i := 10) (N := some 152) (v := .int .i64 ax) (a' := ?_) (Hp.up 17 11) rfl rfl (by kernel_rfl) (fun _ _ _ h => h) (Or.inl ⟨by rfl, fun w' hS => old_load rfl (by rfl) hui rfl ((hS.bel.cell (World.block_lt_of_cell? w _ HX.out.2.1)).trans HX.out.2.1)⟩) hHeld ?_ ?_
              rotate_left
              · simp only [Act.put, List.setIfInBounds_toArray, List.set_cons_zero, List.set_cons_succ, i64_w, i32_w]
                rfl
              refine Hp.pu_ 11 153 (Hp.up 17 12) ?_
              refine Hp.pu_ 12 154 (Hp.up 17 13) ?_
              refine Hp.pu_ 13 155 (Hp.up 17 14) ?_
              refine Hp.pu_ 14 156 (Hp.up 17 15) ?_
              refine take_ (i := 15) (N := some 157) (v := .int .u8 cx) (a' := ?_) (Hp.up 17 16) rfl rfl (by kernel_rfl) (fun _ _ _ h => h) (Or.inl ⟨by rfl, fun w' hS => old_load rfl (by rfl) hu8 rfl ((hS.bel.cell (World.block_lt_of_cell? w _ HX.out.2.2)).trans HX.out.2.2)⟩) hHeld ?_ ?_
              rotate_left
              · simp only [Act.put, List.setIfInBounds_toArray, List.set_cons_zero, List.set_cons_succ, i64_w, i32_w]
                rfl
              refine last_ (i := 16) (N := some 158) (Hp.up 17 17) rfl rfl (by kernel_rfl) (by decide) (fun K hK => ?_)
              refine goes_ Try.func20 (by kernel_rfl) rfl #[.pointer (some ⟨gw, 0, none⟩), .int .i64 kx, .int .i64 ax, .int .u8 cx] (by rfl) rfl rfl (by (try simp only [List.map_toArray, List.map_cons, List.map_nil]); first | done | rfl) ?_
              refine (write_calls w _ _ X gw (Z : Int) Z N A c D cx kx ax HNn.out HZn.out rfl HD.out.1 HX0.out HO.out.toW).mono ?_
              rintro e wx ⟨rfl, X2, hX2, hO_⟩
              refine ⟨_, rfl, ?_⟩
              have HX2 := Aside0.mk hX2
              clear hX2
              have hO_ := hO_.fromW
              clear HO; have HO := Aside0.mk hO_; clear hO_
              refine hK.out _ _ ?_
              clear hK K
              refine norm_ (a' := ?_) ?_ ?_
              rotate_left
              · show Act.put _ (some 158) _ = _
                simp only [Act.put, List.setIfInBounds_toArray, List.set_cons_zero, List.set_cons_succ, i64_w, i32_w]
                rfl
              refine done_ (by kernel_rfl) ?_
              clear hHeld
              obtain ⟨D1, hD1⟩ : ∃ D1, (wrote D Z kx ax cx) = D1 := ⟨_, rfl⟩
              rw [hD1] at HO HX2 HDw
              have HB1 : Aside0 (D1.flatten.length = NN) := ⟨by rw [flat_len D1 Z HDw.out.2, HDw.out.1, HS2.out]⟩
              clear hD1
              try clear hx0 hx1 hx2
              try go_wp2
              refine start_ (n := 7) (S := fun W => Own w W ([] : Hl)) (ds := []) #[false, false, false, false, false, false, false] (by kernel_rfl) rfl rfl (Own.drew (HO.out.dropAll)) (fun hHeld => ?_)
              have HO_ := Aside0.mk HO.out.drew
              clear HO
              have HO := HO_
              clear HO_
              generalize World.drew _ = wr at HO hHeld ⊢
              refine Hp.pu_ 0 159 (Hp.up 7 1) ?_
              refine Hp.pu_ 3 162 #[true, false, false, true, false, false, false] ?_
              refine join_ (σ := Value × Value) 1 (Hp.up 7 6) (fun s_ => [(160, s_.1), (161, .string (strOfNums D1.flatten)), (163, s_.2), (164, .string (strOfNums D1.flatten))]) (fun s_ w' => Own w w' ((ga, .cells #[.int .i64 (Z : Int), .slice (some ⟨gb, 0, none⟩) NN NN] 126 (0, 0)) :: (gb, .cells (u8s (D1).flatten) 5 (0, 0)) :: (gw, .cells #[.int .i64 (Z : Int), .slice A N c] 129 (0, 0)) :: (X2 ++ (Y ++ [])))) ?_ ?_
              rotate_left
              · intro hCont
                refine one_ (i := 1) (N := some 160) #[true, true, false, true, false, false, false] rfl rfl (by kernel_rfl) (by decide) (fun K hK => ?_)
                refine goes_ Try.func18 (by kernel_rfl) rfl #[.pointer (some ⟨ga, 0, none⟩)] (by rfl) rfl rfl (by (try simp only [List.map_toArray, List.map_cons, List.map_nil]); first | done | rfl) ?_
                refine (bytes_calls w _ ((gw, .cells #[.int .i64 (Z : Int), .slice A N c] 129 (0, 0)) :: (X2 ++ (Y ++ []))) ga gb (Z : Int) NN D1.flatten HB1.out HM.out HO.out).mono ?_
                rintro e wx ⟨v5, rfl, R5, hR5, hO_⟩
                refine ⟨_, rfl, ?_⟩
                have HR5 := Aside0.mk hR5
                clear hR5
                have hO_ := hO_.intail
                clear HO; have HO := Aside0.mk hO_; clear hO_
                refine hK.out _ _ (HO.out.dropAll) (fun hHeld => ?_)
                clear hK K
                refine norm_ (a' := ?_) ?_ ?_
                rotate_left
                · show Act.put _ (some 160) _ = _
                  simp only [Act.put, List.setIfInBounds_toArray, List.set_cons_zero, List.set_cons_succ, i64_w, i32_w]
                  rfl
                refine two_ (i := 2) (j := 4) (Ni := some 161) (Nj := some 163) (Hp.up 7 4) #[true, true, false, true, true, false, false] rfl rfl rfl rfl (by kernel_rfl) (by decide) (by decide) (fun K hK => ?_) (fun K hK => ?_)
                · skip
                  refine event_step (by rfl) (exec_conv rfl (by rfl) (RowOf.string (P := Try.prog) hul hu8 hus HR5.out (Own.swap3 (B := ((ga, .cells #[.int .i64 (Z : Int), .slice (some ⟨gb, 0, none⟩) NN NN] 126 (0, 0)) :: (gb, .cells (u8s (D1).flatten) 5 (0, 0)) :: (gw, .cells #[.int .i64 (Z : Int), .slice A N c] 129 (0, 0)) :: X2)) (R := R5) HO.out))) ?_
                  refine hK.out _ _ (HO.out.dropAll) (fun hHeld => ?_)
                  clear hK K
                  refine norm_ (a' := ?_) ?_ ?_
                  rotate_left
                  · show Act.put _ (some 161) _ = _
                    simp only [Act.put, List.setIfInBounds_toArray, List.set_cons_zero, List.set_cons_succ, i64_w, i32_w]
                    rfl
                  refine one_ (i := 4) (N := some 163) (Hp.up 7 5) rfl rfl (by kernel_rfl) (by decide) (fun K hK => ?_)
                  refine goes_ Try.func21 (by kernel_rfl) rfl #[.pointer (some ⟨gw, 0, none⟩)] (by rfl) rfl rfl (by (try simp only [List.map_toArray, List.map_cons, List.map_nil]); first | done | rfl) ?_
                  refine (rbytes_calls w _ ((ga, .cells #[.int .i64 (Z : Int), .slice (some ⟨gb, 0, none⟩) NN NN] 126 (0, 0)) :: (gb, .cells (u8s (D1).flatten) 5 (0, 0)) :: (R5 ++ (Y ++ []))) X2 gw (Z : Int) Z N A c D1 HNn.out HZn.out rfl HDw.out.1 HX2.out HO.out.toW).mono ?_
                  rintro e wx ⟨v6, rfl, R6, hR6, hO_⟩
                  refine ⟨_, rfl, ?_⟩
                  have HR6 := Aside0.mk hR6
                  clear hR6
                  have hO_ := hO_.fromW2
                  clear HO; have HO := Aside0.mk hO_; clear hO_
                  refine hK.out _ _ (HO.out.dropAll) (fun hHeld => ?_)
                  clear hK K
                  refine norm_ (a' := ?_) ?_ ?_
                  rotate_left
                  · show Act.put _ (some 163) _ = _
                    simp only [Act.put, List.setIfInBounds_toArray, List.set_cons_zero, List.set_cons_succ, i64_w, i32_w]
                    rfl
                  refine one_ (i := 5) (N := some 164) (Hp.up 7 6) rfl rfl (by kernel_rfl) (by decide) (fun K hK => ?_)
                  refine event_step (by rfl) (exec_conv rfl (by rfl) (RowOf.string (P := Try.prog) hul hu8 hus HR6.out (Own.swap3 (B := ((ga, .cells #[.int .i64 (Z : Int), .slice (some ⟨gb, 0, none⟩) NN NN] 126 (0, 0)) :: (gb, .cells (u8s (D1).flatten) 5 (0, 0)) :: (gw, .cells #[.int .i64 (Z : Int), .slice A N c] 129 (0, 0)) :: X2)) (R := R6) HO.out))) ?_
                  refine hK.out _ _ (HO.out.dropAll) (fun hHeld => ?_)
                  clear hK K
                  refine norm_ (a' := ?_) ?_ ?_
                  rotate_left
                  · show Act.put _ (some 164) _ = _
                    simp only [Act.put, List.setIfInBounds_toArray, List.set_cons_zero, List.set_cons_succ, i64_w, i32_w]
                    rfl
                  exact norm_ (by simp only [putAll, Act.put, List.setIfInBounds_toArray, List.set_cons_zero, List.set_cons_succ]) (hCont (v5, v6) _ (Own.droptail (S := ((ga, .cells #[.int .i64 (Z : Int), .slice (some ⟨gb, 0, none⟩) NN NN] 126 (0, 0)) :: (gb, .cells (u8s (D1).flatten) 5 (0, 0)) :: (gw, .cells #[.int .i64 (Z : Int), .slice A N c] 129 (0, 0)) :: X2)) (Own.droptail (S := ((ga, .cells #[.int .i64 (Z : Int), .slice (some ⟨gb, 0, none⟩) NN NN] 126 (0, 0)) :: (gb, .cells (u8s (D1).flatten) 5 (0, 0)) :: (gw, .cells #[.int .i64 (Z : Int), .slice A N c] 129 (0, 0)) :: X2)) HO.out)))
                · skip
                  refine goes_ Try.func21 (by kernel_rfl) rfl #[.pointer (some ⟨gw, 0, none⟩)] (by rfl) rfl rfl (by (try simp only [List.map_toArray, List.map_cons, List.map_nil]); first | done | rfl) ?_
                  refine (rbytes_calls w _ ((ga, .cells #[.int .i64 (Z : Int), .slice (some ⟨gb, 0, none⟩) NN NN] 126 (0, 0)) :: (gb, .cells (u8s (D1).flatten) 5 (0, 0)) :: (R5 ++ (Y ++ []))) X2 gw (Z : Int) Z N A c D1 HNn.out HZn.out rfl HDw.out.1 HX2.out HO.out.toW).mono ?_
                  rintro e wx ⟨v6, rfl, R6, hR6, hO_⟩
                  refine ⟨_, rfl, ?_⟩
                  have HR6 := Aside0.mk hR6
                  clear hR6
                  have hO_ := hO_.fromW2
                  clear HO; have HO := Aside0.mk hO_; clear hO_
                  refine hK.out _ _ (HO.out.dropAll) (fun hHeld => ?_)
                  clear hK K
                  refine norm_ (a' := ?_) ?_ ?_
                  rotate_left
                  · show Act.put _ (some 163) _ = _
                    simp only [Act.put, List.setIfInBounds_toArray, List.set_cons_zero, List.set_cons_succ, i64_w, i32_w]
                    rfl
                  refine two_ (i := 2) (j := 5) (Ni := some 161) (Nj := some 164) (Hp.up 7 5) #[true, true, false, true, true, true, false] rfl rfl rfl rfl (by kernel_rfl) (by decide) (by decide) (fun K hK => ?_) (fun K hK => ?_)
                  · skip
                    refine event_step (by rfl) (exec_conv rfl (by rfl) (RowOf.string (P := Try.prog) hul hu8 hus HR5.out (Own.swap3 (B := ((ga, .cells #[.int .i64 (Z : Int), .slice (some ⟨gb, 0, none⟩) NN NN] 126 (0, 0)) :: (gb, .cells (u8s (D1).flatten) 5 (0, 0)) :: (gw, .cells #[.int .i64 (Z : Int), .slice A N c] 129 (0, 0)) :: X2)) (R := R5) (Own.swap4 (S := ((ga, .cells #[.int .i64 (Z : Int), .slice (some ⟨gb, 0, none⟩) NN NN] 126 (0, 0)) :: (gb, .cells (u8s (D1).flatten) 5 (0, 0)) :: (gw, .cells #[.int .i64 (Z : Int), .slice A N c] 129 (0, 0)) :: X2)) (B := R6) (R := R5) HO.out)))) ?_
                    refine hK.out _ _ (HO.out.dropAll) (fun hHeld => ?_)
                    clear hK K
                    refine norm_ (a' := ?_) ?_ ?_
                    rotate_left
                    · show Act.put _ (some 161) _ = _
                      simp only [Act.put, List.setIfInBounds_toArray, List.set_cons_zero, List.set_cons_succ, i64_w, i32_w]
                      rfl
                    refine one_ (i := 5) (N := some 164) (Hp.up 7 6) rfl rfl (by kernel_rfl) (by decide) (fun K hK => ?_)
                    refine event_step (by rfl) (exec_conv rfl (by rfl) (RowOf.string (P := Try.prog) hul hu8 hus HR6.out (Own.swap3 (B := ((ga, .cells #[.int .i64 (Z : Int), .slice (some ⟨gb, 0, none⟩) NN NN] 126 (0, 0)) :: (gb, .cells (u8s (D1).flatten) 5 (0, 0)) :: (gw, .cells #[.int .i64 (Z : Int), .slice A N c] 129 (0, 0)) :: X2)) (R := R6) HO.out))) ?_
                    refine hK.out _ _ (HO.out.dropAll) (fun hHeld => ?_)
                    clear hK K
                    refine norm_ (a' := ?_) ?_ ?_
                    rotate_left
                    · show Act.put _ (some 164) _ = _
                      simp only [Act.put, List.setIfInBounds_toArray, List.set_cons_zero, List.set_cons_succ, i64_w, i32_w]
                      rfl
                    exact norm_ (by simp only [putAll, Act.put, List.setIfInBounds_toArray, List.set_cons_zero, List.set_cons_succ]) (hCont (v5, v6) _ (Own.droptail (S := ((ga, .cells #[.int .i64 (Z : Int), .slice (some ⟨gb, 0, none⟩) NN NN] 126 (0, 0)) :: (gb, .cells (u8s (D1).flatten) 5 (0, 0)) :: (gw, .cells #[.int .i64 (Z : Int), .slice A N c] 129 (0, 0)) :: X2)) (Own.droptail (S := ((ga, .cells #[.int .i64 (Z : Int), .slice (some ⟨gb, 0, none⟩) NN NN] 126 (0, 0)) :: (gb, .cells (u8s (D1).flatten) 5 (0, 0)) :: (gw, .cells #[.int .i64 (Z : Int), .slice A N c] 129 (0, 0)) :: X2)) HO.out)))
                  · skip
                    refine event_step (by rfl) (exec_conv rfl (by rfl) (RowOf.string (P := Try.prog) hul hu8 hus HR6.out (Own.swap3 (B := ((ga, .cells #[.int .i64 (Z : Int), .slice (some ⟨gb, 0, none⟩) NN NN] 126 (0, 0)) :: (gb, .cells (u8s (D1).flatten) 5 (0, 0)) :: (gw, .cells #[.int .i64 (Z : Int), .slice A N c] 129 (0, 0)) :: X2)) (R := R6) HO.out))) ?_
                    refine hK.out _ _ (HO.out.dropAll) (fun hHeld => ?_)
                    clear hK K
                    refine norm_ (a' := ?_) ?_ ?_
                    rotate_left
                    · show Act.put _ (some 164) _ = _
                      simp only [Act.put, List.setIfInBounds_toArray, List.set_cons_zero, List.set_cons_succ, i64_w, i32_w]
                      rfl
                    refine one_ (i := 2) (N := some 161) (Hp.up 7 6) rfl rfl (by kernel_rfl) (by decide) (fun K hK => ?_)
                    refine event_step (by rfl) (exec_conv rfl (by rfl) (RowOf.string (P := Try.prog) hul hu8 hus HR5.out (Own.swap3 (B := ((ga, .cells #[.int .i64 (Z : Int), .slice (some ⟨gb, 0, none⟩) NN NN] 126 (0, 0)) :: (gb, .cells (u8s (D1).flatten) 5 (0, 0)) :: (gw, .cells #[.int .i64 (Z : Int), .slice A N c] 129 (0, 0)) :: X2)) (R := R5) (Own.swap4 (S := ((ga, .cells #[.int .i64 (Z : Int), .slice (some ⟨gb, 0, none⟩) NN NN] 126 (0, 0)) :: (gb, .cells (u8s (D1).flatten) 5 (0, 0)) :: (gw, .cells #[.int .i64 (Z : Int), .slice A N c] 129 (0, 0)) :: X2)) (B := R6) (R := R5) HO.out)))) ?_
                    refine hK.out _ _ (HO.out.dropAll) (fun hHeld => ?_)
                    clear hK K
                    refine norm_ (a' := ?_) ?_ ?_
                    rotate_left
                    · show Act.put _ (some 161) _ = _
                      simp only [Act.put, List.setIfInBounds_toArray, List.set_cons_zero, List.set_cons_succ, i64_w, i32_w]
                      rfl
                    exact norm_ (by simp only [putAll, Act.put, List.setIfInBounds_toArray, List.set_cons_zero, List.set_cons_succ]) (hCont (v5, v6) _ (Own.droptail (S := ((ga, .cells #[.int .i64 (Z : Int), .slice (some ⟨gb, 0, none⟩) NN NN] 126 (0, 0)) :: (gb, .cells (u8s (D1).flatten) 5 (0, 0)) :: (gw, .cells #[.int .i64 (Z : Int), .slice A N c] 129 (0, 0)) :: X2)) (Own.droptail (S := ((ga, .cells #[.int .i64 (Z : Int), .slice (some ⟨gb, 0, none⟩) NN NN] 126 (0, 0)) :: (gb, .cells (u8s (D1).flatten) 5 (0, 0)) :: (gw, .cells #[.int .i64 (Z : Int), .slice A N c] 129 (0, 0)) :: X2)) HO.out)))
              rintro ⟨v5, v6⟩ wj hO_
              clear HO
              have HO := Aside0.mk hO_
              have hHeld := HO.out.dropAll
              clear hO_
              refine norm_ (a' := ?_) ?_ ?_
              rotate_left
              · simp only [putAll, Act.put, List.setIfInBounds_toArray, List.set_cons_zero, List.set_cons_succ]
                rfl
              refine Hp.pu_ 6 165 (Hp.up 7 7) ?_
              refine done_ (by kernel_rfl) ?_
              clear hHeld
              go_wp2
              go_roundg gk
              case measure => omega
              case rel => exact ⟨i + 1, D1, X2, Y, rfl, ⟨by have := HI.out; omega⟩, HDw, HX2, HC, HO⟩
    · have c1 : decide ((i : Int) < (l2.length : Int)) = false := decide_eq_false (by omega)
      have c1n : decide (i < l2.length) = false := decide_eq_false hl
      clear hl c2 c2n
      rcases HC.out with ⟨rfl, rfl, s, rfl⟩ | ⟨gc, A2, c3, R2, B0, rfl, rfl, rfl, hR2⟩
      · go_wp2_with (first | ((with_reducible refine gate_callee (f := 22) rfl ?_); (with_reducible refine gate_dst (N := 167) rfl ?_); refine goesL_ (some 167) rfl rfl Try.func22 (by kernel_rfl) rfl #[.pointer (some ⟨ga, 0, none⟩)] rfl (by (try simp only [List.map_toArray, List.map_cons, List.map_nil]); first | done | rfl) ?_; (with_reducible refine (len_calls w _ ((gw, .cells #[.int .i64 (Z : Int), .slice A N c] 129 (0, 0)) :: (X ++ ([] ++ []))) ga gb (Z : Int) NN D.flatten (N : Int) HZ.out.1 HN.out.1 HS.out HO.out).mono ?_); rintro e wx ⟨rfl, hO_⟩; refine ⟨_, rfl, ?_⟩; clear HO; have HO := Aside0.mk hO_; clear hO_) | (go_at_call 23; refine (size_calls w _ ((gw, .cells #[.int .i64 (Z : Int), .slice A N c] 129 (0, 0)) :: (X ++ ([] ++ []))) ga gb (Z : Int) NN D.flatten HO.out).mono ?_; rintro e wk ⟨rfl, hO_⟩; clear HO; have HO := Aside0.mk hO_; clear hO_; dsimp only))
        go_ret
        exact ⟨rfl, HO.out.bel⟩
      · have HR2 := Aside0.mk hR2
        clear hR2
        go_wp2_with (first | ((with_reducible refine gate_callee (f := 22) rfl ?_); (with_reducible refine gate_dst (N := 167) rfl ?_); refine goesL_ (some 167) rfl rfl Try.func22 (by kernel_rfl) rfl #[.pointer (some ⟨ga, 0, none⟩)] rfl (by (try simp only [List.map_toArray, List.map_cons, List.map_nil]); first | done | rfl) ?_; (with_reducible refine (len_calls w _ ((gw, .cells #[.int .i64 (Z : Int), .slice A N c] 129 (0, 0)) :: (X ++ (((gc, .cells #[.int .i64 (Z : Int), .slice A2 NN c3] 126 (0, 0)) :: R2) ++ []))) ga gb (Z : Int) NN D.flatten (N : Int) HZ.out.1 HN.out.1 HS.out HO.out).mono ?_); rintro e wx ⟨rfl, hO_⟩; refine ⟨_, rfl, ?_⟩; clear HO; have HO := Aside0.mk hO_; clear hO_) | (go_at_call 23; refine (size_calls w _ ((gw, .cells #[.int .i64 (Z : Int), .slice A N c] 129 (0, 0)) :: (X ++ (((gc, .cells #[.int .i64 (Z : Int), .slice A2 NN c3] 126 (0, 0)) :: R2) ++ []))) ga gb (Z : Int) NN D.flatten HO.out).mono ?_; rintro e wk ⟨rfl, hO_⟩; clear HO; have HO := Aside0.mk hO_; clear hO_; have hO_ : Own w wk ((gc, .cells #[.int .i64 (Z : Int), .slice A2 NN c3] 126 (0, 0)) :: (R2 ++ [])) := Own.behind HO.out; clear HO; have HO := Aside0.mk hO_; clear hO_; dsimp only) | (go_at_call 18; refine (bytes_row w _ [] R2 gc (Z : Int) (.slice A2 NN c3) NN B0 HR2.out HM.out HO.out).mono ?_; rintro e wk ⟨v3, rfl, R3, hR3, hO_⟩; have hcv := RowOf.string (P := Try.prog) (L := R2 ++ ((gc, .cells #[.int .i64 (Z : Int), .slice A2 NN c3] 126 (0, 0)) :: [])) hul hu8 hus hR3 (Own.rearr3 hO_); have hO_ : Own w wk [] := hO_.dropAll; clear hR3; clear HO; have HO := Aside0.mk hO_; clear hO_; dsimp only))
        go_ret
        exact ⟨rfl, HO.out.bel⟩
def halberdlaw10_ArrayPlays.f (a0 : Int) (a1 : Int) (l2 : List S37) (a3 : Int) : Option Bool := some true
set_option maxHeartbeats 8000000 in
set_option maxRecDepth 100000 in
theorem halberdlaw10_ArrayPlays.calls (a0 : Int) (a1 : Int) (A2 : Option Addr) (c2 : Nat) (l2 : List S37) (a3 : Int) (r : Bool) (w : World) (hr2 : Kd.C k37 w A2 l2.length l2) (hc2 : l2.length ≤ c2) (hr_ : Aside0 (r = true)) (h : halberdlaw10_ArrayPlays.f a0 a1 l2 a3 = some r) :
    Calls Try.prog 3 #[.int .i64 a0, .int .i64 a1, .slice A2 l2.length c2, .int .u8 a3] w fun e w' => e = .returned (.bool r) ∧ Below w.heap.size w w' := by
  obtain rfl := hr_.out
  clear h
  by_cases hb : 1 ≤ a0 ∧ a0 ≤ 32 ∧ 1 ≤ a1 ∧ a1 ≤ 16
  · obtain ⟨Z, rfl⟩ : ∃ Z : Nat, a0 = (Z : Int) := ⟨a0.toNat, by omega⟩
    obtain ⟨N, rfl⟩ : ∃ N : Nat, a1 = (N : Int) := ⟨a1.toNat, by omega⟩
    have hm : N * Z ≤ 16 * 32 := Nat.mul_le_mul (by omega) (by omega)
    exact array_plays_ok Z N (N * Z) A2 c2 l2 a3 w hr2 hc2 ⟨by omega, by omega⟩ ⟨by omega, by omega⟩ (by rw [Int.mul_comm]; simp) (by omega) rfl
  · have HB := Aside0.mk hb
    have HO := Aside0.mk (Own.refl w)
    clear hb hr2 hc2
    go_enter Try.func3, Try.ntmps3
    go_wp2_with (first | ((with_reducible refine gate_callee (f := 13) rfl ?_); (with_reducible refine gate_dst (N := 17) rfl ?_); refine goesL_ (some 17) rfl rfl Try.func13 (by kernel_rfl) rfl #[] rfl (by (try simp only [List.map_toArray, List.map_cons, List.map_nil]); first | done | rfl) ?_; (with_reducible refine (array_alive _).mono ?_); rintro e wx ⟨rfl, hb⟩; refine ⟨_, rfl, ?_⟩; have hO_ := HO.out.below hb; clear hb; clear HO; have HO := Aside0.mk hO_; clear hO_) | ((with_reducible refine gate_callee (f := 14) rfl ?_); (with_reducible refine gate_dst (N := 22) rfl ?_); refine goesL_ (some 22) rfl rfl Try.func14 (by kernel_rfl) rfl #[.int .i64 a0, .int .i64 a1] rfl (by (try simp only [List.map_toArray, List.map_cons, List.map_nil]); first | done | rfl) ?_; (with_reducible refine (new_bad a0 a1 _ HB.out).mono ?_); rintro e wx ⟨rfl, rfl⟩; refine ⟨_, rfl, ?_⟩; skip) | ((with_reducible refine gate_callee (f := 15) rfl ?_); (with_reducible refine gate_dst (N := 27) rfl ?_); refine goesL_ (some 27) rfl rfl Try.func15 (by kernel_rfl) rfl #[.int .i64 a0, .int .i64 a1] rfl (by (try simp only [List.map_toArray, List.map_cons, List.map_nil]); first | done | rfl) ?_; (with_reducible refine (may_no a0 a1 _ HB.out).mono ?_); rintro e wx ⟨rfl, rfl⟩; refine ⟨_, rfl, ?_⟩; skip))
    go_ret
    exact ⟨rfl, HO.out.bel⟩

/-- THE ONE PURE STATEMENT of halberdlaw10_ArrayPlays. -/
def halberdlaw10_ArrayPlays.Pure : Prop := ∀ (a0 : Int) (a1 : Int) (l2 : List (S37)) (a3 : Int), ((Lit.int .i64 a0).wf = true) → ((Lit.int .i64 a1).wf = true) → (l2.length ≤ maxLen ∧ l2.length * 24 ≤ 140737488351232 ∧ ∀ y_ ∈ l2, ((Lit.int .i64 y_.f0).wf = true) ∧ ((Lit.int .i64 y_.f1).wf = true) ∧ ((Lit.int .u8 y_.f2).wf = true)) → ((Lit.int .u8 a3).wf = true) → halberdlaw10_ArrayPlays.f a0 a1 l2 a3 = some true

end Go.Proofs.Ytgkdbhkbkpfbpaa.PArrayPlays
