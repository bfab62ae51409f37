/- How values that came in read as data, of whatever kind: whole numbers, bools, strings, structs and slices of these; no conditions. -/
import Derived.SizedLaws
import Derived.ChangeArms
import Derived.WideShapes
import Derived.Deep.Slices
import Derived.Test.YtgkdbhkbkpfbpaaWMore
set_option linter.unusedVariables false
set_option linter.unusedSimpArgs false
namespace Go.Proofs.Ytgkdbhkbkpfbpaa.RD
open Go.RowKit Go.ChangeShapes Go.WideShapes Go.Proofs.YtgkdbhkbkpfbpaaW.PrintWords Go.Proofs.YtgkdbhkbkpfbpaaW.PrintLast Go.Proofs.YtgkdbhkbkpfbpaaW.PrintMore

/-- Every reading of type t is a value of the kind d of which Q holds. -/
structure Opens {α : Type} (P : Program) (t : TypeId) (d : Kd α) (Q : α → Prop) : Prop where
  mk ::
  (h1 : P.cellsOf t = d.sz)
  (h2 : ∀ {H : Type} (enc : TypeId × Value → H) (w : World) (fuel : Nat) (cs : List Value) (y : DataW H × List MemPlace),
    DataW.trod enc P w 0 (fun _ => true) true fuel t cs = some y → (∀ m ∈ DataW.weights P t y.1, m ≤ reachBytes) → ∃ x, d.K w x cs ∧ Q x)

section
variable {P : Program} {t : TypeId}
theorem opens_int {k : IntKind} (hu : P.underlying t = some (.int k)) (hc : P.cellsOf t = 1) : Opens P t (Kd.int k) (fun x => (Lit.int k x).wf = true) :=
  ⟨hc, fun enc w fuel cs y h _ => by
    obtain ⟨n, rfl, rfl, hw⟩ := DataW.trod_int hu h
    exact ⟨n, rfl, hw⟩⟩
theorem opens_bool (hu : P.underlying t = some .bool) (hc : P.cellsOf t = 1) : Opens P t Kd.bool (fun _ => True) :=
  ⟨hc, fun enc w fuel cs y h _ => by
    obtain ⟨n, rfl, rfl⟩ := DataW.trod_bool hu h
    exact ⟨n, rfl, trivial⟩⟩
theorem opens_string (hu : P.underlying t = some .string) (hc : P.cellsOf t = 1) : Opens P t Kd.string (fun s => s.size ≤ 140737488351232) :=
  ⟨hc, fun enc w fuel cs y h hm => by
    obtain ⟨s, rfl, rfl, hw⟩ := DataW.trod_string hu h
    refine ⟨s, rfl, ?_⟩
    have := hm s.data.toList.length (by simp [DataW.weights])
    have e : reachBytes = 140737488351232 := rfl
    rw [e] at this
    simpa using this⟩
theorem opens_iso {α β : Type} {d : Kd α} {Q : α → Prop} (f : β → α) (g : α → β) (hfg : ∀ a, f (g a) = a) (h : Opens P t d Q) : Opens P t (Kd.iso d f) (fun b => Q (f b)) :=
  ⟨h.h1, fun enc w fuel cs y hy hm => by
    obtain ⟨x, hK, hQ⟩ := h.h2 enc w fuel cs y hy hm
    refine ⟨g x, ?_, ?_⟩
    · show d.K w (f (g x)) cs
      rw [hfg]; exact hK
    · show Q (f (g x))
      rw [hfg]; exact hQ⟩

/-- Fields one behind the other, from a place on. -/
structure OpensF {α : Type} (P : Program) (fs : List Field) (off : Nat) (d : Kd α) (Q : α → Prop) : Prop where
  mk ::
  (h : ∀ {H : Type} (enc : TypeId × Value → H) (w : World) (n : Nat) (cs : List Value) (ys : List (DataW H × List MemPlace)), cs.length = off + d.sz → ys.length = fs.length →
    (∀ (i : Nat) (f : Field), fs[i]? = some f → DataW.trod enc P w 0 (fun _ => true) true n f.type ((cs.drop f.offset).take (P.cellsOf f.type)) = ys[i]?) →
    (∀ m ∈ DataW.weightsEach P (fs.map (·.type)) (ys.map (·.1)), m ≤ reachBytes) → ∃ x, d.K w x (cs.drop off) ∧ Q x)
theorem opensF_one {α : Type} {d : Kd α} {Q : α → Prop} {f : Field} {off u : Nat} (hu : f.type = u) (ho : f.offset = off) (h : Opens P u d Q) : OpensF P [f] off d Q := by
  subst hu
  refine ⟨?_⟩
  intro H enc w n cs ys hl hn hy hm
  obtain ⟨y, rfl⟩ : ∃ y, ys = [y] := by
    match ys, hn with
    | [y], _ => exact ⟨y, rfl⟩
  have h0 := hy 0 f rfl
  rw [ho, h.h1, List.take_of_length_le (by simp; omega)] at h0
  exact h.h2 enc w n _ y h0 (fun m hmm => hm m (by simp [DataW.weightsEach, hmm]))
theorem opensF_cons {α β : Type} {d0 : Kd α} {d1 : Kd β} {Q0 : α → Prop} {Q1 : β → Prop} {f : Field} {fs : List Field} {off u : Nat} (hu : f.type = u) (ho : f.offset = off) (h0 : Opens P u d0 Q0) (h1 : OpensF P fs (off + d0.sz) d1 Q1) :
    OpensF P (f :: fs) off (Kd.pair d0 d1) (fun x => Q0 x.1 ∧ Q1 x.2) := by
  subst hu
  refine ⟨?_⟩
  intro H enc w n cs ys hl hn hy hm
  obtain ⟨y, ys', rfl⟩ : ∃ y ys', ys = y :: ys' := by
    match ys, hn with
    | y :: ys', _ => exact ⟨y, ys', rfl⟩
  have hl' : cs.length = off + (d0.sz + d1.sz) := hl
  have a0 := hy 0 f rfl
  rw [ho, h0.h1] at a0
  obtain ⟨x0, K0, q0⟩ := h0.h2 enc w n _ y a0 (fun m hmm => hm m (by simp [DataW.weightsEach, hmm]))
  obtain ⟨x1, K1, q1⟩ := h1.h enc w n cs ys' (by omega) (by simpa using hn) (fun i g hg => by simpa using hy (i + 1) g (by simpa using hg)) (fun m hmm => hm m (by simp [DataW.weightsEach]; exact Or.inr (by simpa using hmm)))
  refine ⟨(x0, x1), ⟨_, _, ?_, K0, K1⟩, q0, q1⟩
  rw [← List.drop_drop, List.take_append_drop]
theorem opens_struct {α : Type} {d : Kd α} {Q : α → Prop} {fs : Array Field} (hu : P.underlying t = some (.struct fs)) (hc : P.cellsOf t = d.sz) (h : OpensF P fs.toList 0 d Q) : Opens P t d Q :=
  ⟨hc, fun enc w fuel cs y hy hm => by
    obtain ⟨xs, n, _, rfl, hl, hn, hf⟩ := DataW.trod_struct hu hy
    have := h.h enc w n cs xs (by omega) (by simpa using hn) (fun i f hi => hf i f (by simpa using hi)) (by simpa [DataW.weights, hu] using hm)
    simpa using this⟩

theorem weightsAll_mem {H : Type} {e : TypeId} {d : DataW H} {m : Nat} (hm : m ∈ DataW.weights P e d) : ∀ {l : List (DataW H)}, d ∈ l → m ∈ DataW.weightsAll P e l
  | a :: l, h => by
    rw [DataW.weightsAll]
    rcases List.mem_cons.1 h with h | h
    · subst h; exact List.mem_append_left _ hm
    · exact List.mem_append_right _ (weightsAll_mem hm h)

theorem opens_slice {α : Type} {d : Kd α} {Q : α → Prop} {e : TypeId} {B : Nat} (hu : P.underlying t = some (.slice e)) (hc : P.cellsOf t = 1) (hB : P.bytesOf e = B) (h : Opens P e d Q) :
    Opens P t (Kd.slice e d) (fun xs => xs.length ≤ maxLen ∧ xs.length * B ≤ 140737488351232 ∧ ∀ x ∈ xs, Q x) :=
  ⟨hc, fun {H} enc w fuel cs y hy hm => by
    rcases Go.Deep.open_slice hu hy with ⟨rfl, rfl⟩ | ⟨a, len, cap, m, n, D, Pl, rfl, _, hl, hmax, hmm, rfl, hx⟩
    · refine ⟨[], ⟨none, 0, rfl, Nat.le_refl _, rfl, by simp, fun h0 => absurd h0 (by simp)⟩, by simp, by simp, by simp⟩
    · have hmc : m = cap := by simpa using hmm
      subst hmc
      have hw := hm
      simp only [DataW.weights, hu] at hw
      have hX : ∀ i, i < len → ∃ x : α, (∃ c, c.length = d.sz ∧ d.K w x c ∧ ∀ j u, c[j]? = some u → w.cell? (a.add (i * d.sz + j)) = some u) ∧ Q x := by
        intro i hi
        obtain ⟨cs', h1, h2⟩ := hx i (by omega)
        rw [h.h1] at h1
        obtain ⟨_, hlen, hcell⟩ := World.cells?_some h1
        obtain ⟨x, hK, hQ⟩ := h.h2 enc w n cs' _ h2 (fun k hk => hw k (by
          refine List.mem_cons_of_mem _ (List.mem_append_left _ (weightsAll_mem hk ?_))
          exact List.mem_map.2 ⟨i, by simpa using hi, rfl⟩))
        refine ⟨x, ⟨cs', hlen, hK, fun j u hj => ?_⟩, hQ⟩
        have hjl : j < d.sz := by
          have := (List.getElem?_eq_some_iff.1 hj).1
          omega
        have := hcell j hjl
        rw [Go.Deep.add_add] at this
        exact this.trans hj
      obtain ⟨xs, hxl, hxs⟩ : ∃ xs : List α, xs.length = len ∧ ∀ i x, xs[i]? = some x → (∃ c, c.length = d.sz ∧ d.K w x c ∧ ∀ j u, c[j]? = some u → w.cell? (a.add (i * d.sz + j)) = some u) ∧ Q x := by
        have key : ∀ k, k ≤ len → ∃ xs : List α, xs.length = k ∧ ∀ i x, xs[i]? = some x → (∃ c, c.length = d.sz ∧ d.K w x c ∧ ∀ j u, c[j]? = some u → w.cell? (a.add (i * d.sz + j)) = some u) ∧ Q x := by
          intro k
          induction k with
          | zero => intro _; exact ⟨[], rfl, fun i x hi => by simp at hi⟩
          | succ k ih =>
            intro hk
            obtain ⟨xs, hxl, hxs⟩ := ih (by omega)
            obtain ⟨x, hx⟩ := hX k (by omega)
            refine ⟨xs ++ [x], by simp [hxl], fun i z hi => ?_⟩
            by_cases hik : i < xs.length
            · rw [List.getElem?_append_left hik] at hi
              exact hxs i z hi
            · have hi' := (List.getElem?_eq_some_iff.1 hi).1
              simp at hi'
              obtain rfl : i = k := by omega
              rw [List.getElem?_append_right (by omega)] at hi
              simp [hxl] at hi
              subst hi
              exact hx
        exact key len (Nat.le_refl _)
      have hmax' : m ≤ 9223372036854775807 := hmax
      refine ⟨xs, ⟨some a, m, by rw [hxl], by omega, hxl ▸ rfl, by omega, fun _ => ⟨a, rfl, fun j p hj => (hxs j p hj).1⟩⟩, ?_, ?_, ?_⟩
      · show xs.length ≤ 9223372036854775807
        omega
      · have := hw ((len + (m - len)) * P.bytesOf e) (by simp)
        have er : reachBytes = 140737488351232 := rfl
        rw [er, hB] at this
        refine Nat.le_trans (Nat.mul_le_mul_right _ ?_) this
        omega
      · intro x hx
        obtain ⟨i, hi⟩ := List.mem_iff_getElem?.1 hx
        exact (hxs i x hi).2⟩
end

/-- An argument's reading, opened. -/
theorem Opens.arg {α : Type} {P : Program} {t : TypeId} {d : Kd α} {Q : α → Prop} (h : Opens P t d Q) {H : Type} {enc : TypeId × Value → H} {w : World} {v : Value} {y : DataW H} {ps : List MemPlace} {ts : List TypeId} {ds : List (DataW H)} {j : Nat}
    (hsz : (DataW.weightsEach P ts ds).all (· ≤ reachBytes) = true) (ht : ts[j]? = some t) (hd : ds[j]? = some y) (ht0 : DataW.Trod enc P w 0 (fun _ => true) true t v y ps) : ∃ x, d.K w x v.cells.toList ∧ Q x := by
  obtain ⟨fuel, hf⟩ := ht0
  refine h.h2 enc w fuel _ _ hf (fun m hm => ?_)
  have := List.all_eq_true.1 hsz _ (DataW.weights_mem_each ht hd m hm)
  simpa using this
theorem agg_cells {cs : Array Value} {l : List Value} (h : (Value.agg cs).cells.toList = l) : Value.agg cs = .agg l.toArray := by
  have : cs.toList = l := h
  subst this
  simp
end Go.Proofs.Ytgkdbhkbkpfbpaa.RD
