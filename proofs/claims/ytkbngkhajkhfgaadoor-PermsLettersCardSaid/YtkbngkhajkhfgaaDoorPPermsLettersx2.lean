/- Functions of the program that some laws reach, as Lean functions, and proofs that the program's calls come to what they say: written by a program, for the texts that import it; each theorem bears its own conditions. -/
import Derived.Test.YtkbngkhajkhfgaaDoorPPermsLettersx0
import Derived.Test.YtkbngkhajkhfgaaDoorPPermsLettersx1
namespace Go.Proofs.YtkbngkhajkhfgaaDoor.PPermsLetters
open Go.RowKit Go.Proofs.YtkbngkhajkhfgaaDoorW.PrintWords Go.Proofs.YtkbngkhajkhfgaaDoorW.PrintLast Go.Proofs.YtkbngkhajkhfgaaDoorW.PrintMore
attribute [local go_sem] max2_int min2_int max_two min_two max_three min_three max_four min_four   -- for this text's walks alone
set_option linter.unusedVariables false
set_option linter.unusedSimpArgs false

/-! ### perms_Letters: function 16 -/
open Go.Proofs.Hp Go.Proofs.Ev
def pl_b (j : Nat) : Int := if j % 3 = 0 then 114 else if j % 3 = 1 then 119 else 120
def pl_c (a0 : Int) (j : Nat) : Int := if Go.bits .and .i64 (shr .i64 a0 (8 - (j : Int))) 1 = 0 then 45 else pl_b j
def pl_row (a0 : Int) (i : Nat) : List Int := (List.range 9).map fun j => if j < i then pl_c a0 j else pl_b j
def perms_Letters.f (a0 : Int) : Option (ByteArray) := some (strOfNums ((List.range 9).map (pl_c a0)))
theorem pl_row_len (a0 : Int) (i : Nat) : (pl_row a0 i).length = 9 := by simp [pl_row]
theorem pl_row_end (a0 : Int) : pl_row a0 9 = (List.range 9).map (pl_c a0) := by
  unfold pl_row
  refine List.map_congr_left (fun j hj => ?_)
  rw [if_pos (List.mem_range.1 hj)]
theorem pl_row_same (a0 : Int) (i : Nat) (h : ¬ Go.bits .and .i64 (shr .i64 a0 (8 - (i : Int))) 1 = 0) : pl_row a0 (i + 1) = pl_row a0 i := by
  unfold pl_row
  refine List.map_congr_left (fun j hj => ?_)
  by_cases h1 : j < i
  · rw [if_pos (by omega), if_pos h1]
  · by_cases h2 : j = i
    · subst h2
      rw [if_pos (by omega), if_neg h1, pl_c, if_neg h]
    · rw [if_neg (by omega), if_neg h1]
theorem pl_row_set (a0 : Int) (i : Nat) (hi : i < 9) (h : Go.bits .and .i64 (shr .i64 a0 (8 - (i : Int))) 1 = 0) : pl_row a0 (i + 1) = (pl_row a0 i).set i 45 := by
  apply List.ext_getElem
  · simp [pl_row]
  · intro j h1 h2
    have hj : j < 9 := by simpa [pl_row] using h1
    rw [List.getElem_set]
    simp only [pl_row, List.getElem_map, List.getElem_range]
    by_cases h3 : i = j
    · subst h3
      rw [if_pos rfl, if_pos (by omega), pl_c, if_pos h]
    · rw [if_neg h3]
      by_cases h4 : j < i
      · rw [if_pos h4, if_pos (by omega)]
      · rw [if_neg h4, if_neg (by omega)]
theorem mark_run {P : Program} {W : World} {g n c : Nat} {t e : TypeId} {C : Array Value} (ht : P.underlying t = some (.slice e)) (he : P.underlying e = some (.int .u8)) {te : TypeId} (hb : W.heap[g]? = some (.cells C te (0, 0))) :
    ∃ W1, (convert t t (.slice (some ⟨g, 0, none⟩) n c)).run P W = .ok (.slice (some ⟨g, 0, none⟩) n c) W1 ∧ W1.heap[g]? = some (.cells C te (C.size, C.size + 1)) ∧ (∀ i, i ≠ g → W1.heap[i]? = W.heap[i]?) ∧ ∀ B, B ≤ g → Below B W W1 := by
  have hsh : W.shape? g = some (te, C.size) := by
    unfold World.shape?
    rw [hb]
  refine ⟨W.freeze ⟨g, C.size, none⟩ 1, ?_, ?_, ?_, ?_⟩
  · simp [convert, run_underlying ht, run_underlying he, markStringish, hsh]
  · unfold World.freeze
    rw [if_neg (by decide)]
    simp [Array.getElem?_modify, hb]
  · intro i hi
    unfold World.freeze
    rw [if_neg (by decide)]
    simp only [Array.getElem?_modify]
    rw [if_neg (Ne.symm hi)]
  · intro B hB
    unfold World.freeze
    rw [if_neg (by decide)]
    refine ⟨rfl, rfl, rfl, by simp, fun i hi => ?_⟩
    simp only [Array.getElem?_modify]
    rw [if_neg (by omega)]
section
variable {P : Program} {ops : Array Oper} {rest : List Oper} {o : Oper} {a : Act} {Q : Exit → Act → World → Prop} {w0 W : World} {L L' : Hl} {g : Nat}
theorem own_mark (HO : Own w0 W L) (hgd : o.guard = none) {t e : TypeId} {x : Operand} (ho : o.op = .convert t t x) (ht : P.underlying t = some (.slice e)) (hu : P.underlying e = some (.int .u8)) {n c : Nat} (hx : a.eval x = .slice (some ⟨g, 0, none⟩) n c) {C : Array Value} {te : TypeId} (he : Ext L g (.cells C te (0, 0)) L') {k k1 : Nat} (hk : C.size = k) (hk1 : C.size + 1 = k1)
    (h : ∀ w1, Own w0 w1 ((g, .cells C te (k, k1)) :: L') → wpList P ops Q rest (a.put o.dst (.slice (some ⟨g, 0, none⟩) n c)) w1) : wpList P ops Q (o :: rest) a W := by
  subst hk
  subst hk1
  obtain ⟨W1, hr, h1, h2, h3⟩ := mark_run (P := P) (n := n) (c := c) ht hu (HO.get he)
  refine Kd.event_run hgd (w1 := W1) (v := .slice (some ⟨g, 0, none⟩) n c) ?_ (h W1 (HO.put he h1 h2 h3))
  unfold execOp
  rw [ho]
  simp only [hx, hr, Sem.run_bind, Result.andThen]
  rfl
theorem conv_event (hgd : o.guard = none) {src dst : TypeId} {x : Operand} (ho : o.op = .convert src dst x) {xv v : Value} (hx : a.eval x = xv) (hr : (convert src dst xv).run P W = .ok v W) (h : wpList P ops Q rest (a.put o.dst v) W) : wpList P ops Q (o :: rest) a W := by
  refine Kd.event_run hgd (w1 := W) (v := v) ?_ h
  unfold execOp
  rw [ho]
  simp only [hx, hr, Sem.run_bind, Result.andThen]
  rfl
theorem own_storeF (HO : Own w0 W L) (hgd : o.guard = none) {ty t : TypeId} {x y : Operand} (ho : o.op = .store ty x y) {cs cs' : Array Value} {j : Nat} {v : Value} {fa fb : Nat} (hx : a.eval x = .pointer (some ⟨g, j, none⟩)) (hy : a.eval y = v)
    (he : Ext L g (.cells cs t (fa, fb)) L') (hi : (P.info? ty).map (·.size) = some 1) (h1 : v.oneCell' = true) (hj : j < cs.size) (hfa : j < fa) (hc : cs.setIfInBounds j v = cs')
    (h : ∀ w1, Own w0 w1 ((g, .cells cs' t (fa, fb)) :: L') → wpList P ops Q rest (a.put o.dst undef) w1) : wpList P ops Q (o :: rest) a W := by
  subst hc
  have hb := HO.get he
  have h2 : W.cell? ⟨g, j, none⟩ = some cs[j] := (cell_of_row W g j cs t (fa, fb) hb).trans (Array.getElem?_eq_getElem hj)
  have hcl : v.cells = #[v] := by cases v <;> first | rfl | cases h1
  have hf : W.frozen? ⟨g, j, none⟩ = false := by
    unfold World.frozen?
    rw [hb]
    simp
    omega
  obtain ⟨i, hi1, hi2⟩ : ∃ i, P.info? ty = some i ∧ i.size = 1 := by
    cases hq : P.info? ty with
    | none => rw [hq] at hi; simp at hi
    | some i => exact ⟨i, rfl, by rw [hq] at hi; simpa using hi⟩
  have hs : (sizeOf ty).run P W = .ok 1 W := by
    have := run_sizeOf W hi1
    rw [this]
    simp [Program.cellsOf, hi1, hi2]
  have hst : (storeVar ty ⟨g, j, none⟩ v).run P W = .ok () (W.setCell ⟨g, j, none⟩ v) := by
    unfold storeVar
    simp only [hcl, Sem.run_bind, hs, Result.andThen]
    have ha : (⟨g, j, none⟩ : Addr).add 0 = ⟨g, j, none⟩ := rfl
    simp only [storeCells, ha]
    cases v <;> first | (cases h1; done) | simp [store, Sem.run, h2, hf, Sem.run_bind, Result.andThen]
  refine wpList_plain hgd fun K hK => ?_
  unfold Oper.wp execOp
  rw [ho]
  simp only [hx, hy, Instr.storeAt, Instr.sureAddr, Sem.run_bind, Sem.run_pure, Result.andThen_ok, hst]
  refine hK _ _ (h _ (HO.put he ?_ (fun i hi => Below.heap_setCell _ _ _ _ hi) (fun B hB => (Below.refl _ _).setCell hB _)))
  unfold World.setCell
  simp [Array.getElem?_modify, hb]
end
set_option maxHeartbeats 8000000 in
set_option maxRecDepth 100000 in
theorem perms_Letters.calls (a0 : Int) (r : ByteArray) (w : World) (h : perms_Letters.f a0 = some r) :
    Calls Tryd.prog 16 #[.int .i64 a0] w fun e w' => e = .returned (.string r) ∧ Below w.heap.size w w' := by
  have husl := Tryd.underlying45
  have hu8 := Tryd.underlying5
  have hus := Tryd.underlying9
  obtain rfl := Option.some.inj h
  clear h
  have HO := Aside0.mk (Own.refl w)
  go_enter Tryd.func16, Tryd.ntmps16
  go_wp2_with (first | ((with_reducible refine gate_dst (N := 5) rfl ?_); refine own_lit HO.out ?hg (N := 5) ?hd (cs := #[.int .u8 114, .int .u8 119, .int .u8 120, .int .u8 114, .int .u8 119, .int .u8 120, .int .u8 114, .int .u8 119, .int .u8 120]) (t := 5) (n := 9) (m := 9) ?hr ?_; (case hd => rfl); (case hg => rfl); (case hr => first | (go_simp; done) | (go_simp; rfl) | kernel_rfl); intro g5 w5 hO_; clear HO; have HO := Aside0.mk hO_; clear hO_) | ((with_reducible refine gate_dst (N := 6) rfl ?_); refine own_mark HO.out rfl rfl husl hu8 rfl .head (k := 9) (k1 := 10) rfl rfl ?_; intro w6 hO_; clear HO; have HO := Aside0.mk hO_; clear hO_))
  go_loopg [9] 9 (fun gk v9 w' => ∃ i : Nat, v9 = .int .i64 (i : Int) ∧ Aside0 (i + gk = 9) ∧ Aside0 (Own w w' [(g5, .cells ((pl_row a0 i).map (Value.int .u8)).toArray 5 (9, 10))]))
  case atStart => exact ⟨0, rfl, ⟨rfl⟩, HO⟩
  case round =>
    clear HO
    obtain ⟨i, rfl, HI, HO⟩ := hrel
    cases gk with
    | zero =>
      have c1 : decide ((i : Int) < 9) = false := decide_eq_false (by have := HI.out; omega)
      have HS : Aside0 (∀ W : World, Own w W [(g5, .cells ((pl_row a0 i).map (Value.int .u8)).toArray 5 (9, 10))] → (convert 45 9 (.slice (some ⟨g5, 0, none⟩) 9 9)).run Tryd.prog W = .ok (.string (strOfNums ((List.range 9).map (pl_c a0)))) W) := ⟨by
        intro W hW
        obtain rfl : i = 9 := by have := HI.out; omega
        rw [← pl_row_end]
        refine run_convert_bytes_arg W 45 5 husl hu8 g5 0 9 9 _ (pl_row_len a0 9) (fun j hj => ?_) 9 hus
        have hjl : j < (pl_row a0 9).length := by rw [pl_row_len]; simpa [pl_row_len] using hj
        rw [Nat.zero_add]
        refine ((cell_of_row W g5 j _ _ _ (hW.get .head)).trans ?_)
        simp [List.getElem?_eq_getElem hjl]⟩
      go_wp2_with (first | ((with_reducible refine gate_dst (N := 26) rfl ?_); refine conv_event rfl rfl rfl (HS.out _ HO.out) ?_))
      go_ret
      exact ⟨rfl, HO.out.bel⟩
    | succ n =>
      have c1 : decide ((i : Int) < 9) = true := decide_eq_true (by have := HI.out; omega)
      have hiw : IntKind.i64.wrap ((i : Int) + 1) = ((i + 1 : Nat) : Int) := (IntWalk.i64_in _ (by have := HI.out; omega)).trans (by omega)
      have hiw2 : wrap64 ((i : Int) + 1) = ((i + 1 : Nat) : Int) := (i64_w _).symm.trans hiw
      obtain ⟨s, hs⟩ : ∃ s : Int, 8 - (i : Int) = s := ⟨_, rfl⟩
      have hsw : IntKind.i64.wrap (8 - (i : Int)) = s := (IntWalk.i64_in _ (by have := HI.out; omega)).trans hs
      have hsw2 : wrap64 (8 - (i : Int)) = s := (i64_w _).symm.trans hsw
      have c7b0 := eq_true (show 0 ≤ s by have := HI.out; omega)
      have c7b1 : decide (0 ≤ s) = true := decide_eq_true (by have := HI.out; omega)
      obtain ⟨ji8, hji8⟩ : ∃ j_ : Int, (shr .i64 a0 s) = j_ := ⟨_, rfl⟩
      have hji8_ : (a0 / 2 ^ min s.toNat 64) = ji8 := hji8
      have hji8z : s ≤ 64 → (a0 / 2 ^ s.toNat) = ji8 := shr_small hji8
      have HJ : Aside0 (shr .i64 a0 (8 - (i : Int)) = ji8) := ⟨by rw [hs]; exact hji8⟩
      have hs64 : s ≤ 64 := by have := HI.out; omega
      have hji8y := hji8z hs64
      clear hs hji8
      have p1 := eq_true (show 0 ≤ (i : Int) by omega)
      have q1 := eq_true (show (i : Int) < 9 by have := HI.out; omega)
      by_cases c9 : (Go.bits .and .i64 ji8 1) = 0
      · have HC : Aside0 (((pl_row a0 i).map (Value.int .u8)).toArray.setIfInBounds i (.int .u8 45) = ((pl_row a0 (i + 1)).map (Value.int .u8)).toArray) := ⟨by
          rw [pl_row_set a0 i (by have := HI.out; omega) (by rw [HJ.out]; exact c9)]
          simp [List.map_set]⟩
        have HL1 : Aside0 (i < ((pl_row a0 i).map (Value.int .u8)).toArray.size) := ⟨by rw [List.size_toArray, List.length_map, pl_row_len]; have := HI.out; omega⟩
        have c9b0 : ((Go.bits .and .i64 (ji8) 1) == 0) = true := beq_iff_eq.mpr c9
        have c9b1 : ((Go.bits .and .i64 (ji8) 1) != 0) = false := bne_eq_false_iff_eq.mpr c9
        clear c9
        go_wp2_with (first | ((with_reducible refine gate_store (p := 23) rfl ?_); refine own_storeF HO.out rfl (ty := 5) (x := .tmp 23) (y := .const (.int .u8 45)) (v := .int .u8 45) rfl (by rfl) (by rfl) .head (by kernel_rfl) (by rfl) HL1.out (by have := HI.out; omega) HC.out ?_; intro wc hO_; clear HO; have HO := Aside0.mk hO_; clear hO_))
        go_roundg n
        case measure => omega
        case rel => exact ⟨i + 1, rfl, ⟨by have := HI.out; omega⟩, HO⟩
      · have HC : Aside0 (pl_row a0 (i + 1) = pl_row a0 i) := ⟨pl_row_same a0 i (by rw [HJ.out]; exact c9)⟩
        have c9b0 : ((Go.bits .and .i64 (ji8) 1) == 0) = false := beq_eq_false_iff_ne.mpr c9
        have c9b1 : ((Go.bits .and .i64 (ji8) 1) != 0) = true := bne_iff_ne.mpr c9
        clear c9
        go_wp2
        go_roundg n
        case measure => omega
        case rel => exact ⟨i + 1, rfl, ⟨by have := HI.out; omega⟩, ⟨by rw [HC.out]; exact HO.out⟩⟩


/-! ### perms_Mode: function 17 -/
def perms_Mode.l0 : Nat → ByteArray → Int → Int → Int → Option (Int × Bool)
  | 0, _, _, _, _ => none
  | k + 1, x0, x4, x10, x11 => if x11 < x10 then (if 0 ≤ x11 then (if x11 < (x0.size : Int) then (if x11 < 9 then (if (bt x0 x11) = (bt (⟨#[114, 119, 120, 114, 119, 120, 114, 119, 120]⟩ : ByteArray) x11) then (perms_Mode.l0 k x0 (Go.bits .or .i64 (wrap64 (x4 * 2)) 1) x10 (wrap64 (x11 + 1))) else (if (bt x0 x11) = 45 then (perms_Mode.l0 k x0 (wrap64 (x4 * 2)) x10 (wrap64 (x11 + 1))) else (some (0, false)))) else (none)) else (none)) else (none)) else (some (x4, true))
def perms_Mode.f (k : Nat) (a0 : ByteArray) : Option (Int × Bool) := if (a0.size : Int) = 9 then (perms_Mode.l0 k a0 0 (a0.size : Int) 0) else (some (0, false))
theorem perms_Mode.mono_l : ∀ k, (∀ y0 y1 y2 y3, LeO (perms_Mode.l0 k y0 y1 y2 y3) (perms_Mode.l0 (k + 1) y0 y1 y2 y3))
  | 0 => fun _ _ _ _ r h => by simp [perms_Mode.l0] at h
  | k + 1 => by
    have ih0 := perms_Mode.mono_l k
    · intro y0 y1 y2 y3
      unfold perms_Mode.l0
      repeat' first
      | (with_reducible exact ih0 _ _ _ _)
      | (with_reducible exact LeO.refl _)
      | (with_reducible exact LeO.none _)
      | (with_reducible refine LeO.ite ?_ ?_)
      | (with_reducible refine LeO.bind ?_ (fun _ => ?_))
      | exact ih0 _ _ _ _
      | exact LeO.none _
      | refine LeO.ite ?_ ?_
      | refine LeO.bind ?_ (fun _ => ?_)
theorem perms_Mode.mono : ∀ a0 k, LeO (perms_Mode.f k a0) (perms_Mode.f (k + 1) a0) := by
  intro a0 k
  have ih0 := perms_Mode.mono_l k
  unfold perms_Mode.f
  repeat' first
      | (with_reducible exact ih0 _ _ _ _)
      | (with_reducible exact LeO.refl _)
      | (with_reducible exact LeO.none _)
      | (with_reducible refine LeO.ite ?_ ?_)
      | (with_reducible refine LeO.bind ?_ (fun _ => ?_))
      | exact ih0 _ _ _ _
      | exact LeO.none _
      | refine LeO.ite ?_ ?_
      | refine LeO.bind ?_ (fun _ => ?_)
set_option maxHeartbeats 8000000 in
set_option maxRecDepth 100000 in
theorem perms_Mode.calls (k : Nat) (a0 : ByteArray) (r1 : Int) (r2 : Bool) (w : World) (h : perms_Mode.f k a0 = some (r1, r2)) :
    Calls Tryd.prog 17 #[.string a0] w fun e w' => e = .returned (.tuple #[.int .i64 r1, .bool r2]) ∧ Drawn0 w w' := by
  have H : (if (a0.size : Int) = 9 then (perms_Mode.l0 k a0 0 (a0.size : Int) 0) else (some (0, false))) = some (r1, r2) := h
  clear h
  by_cases c2 : (a0.size : Int) = 9
  · rw [if_pos c2] at H
    have c2b0 : ((a0.size : Int) == 9) = true := beq_iff_eq.mpr c2
    have c2b1 : ((a0.size : Int) != 9) = false := bne_eq_false_iff_eq.mpr c2
    clear c2
    have H' := Aside0.mk H
    clear H
    go_enter Tryd.func17, Tryd.ntmps17
    go_wp2
    go_loopg [4, 11] k (fun kq v4 v11 w' => ∃ (x4_1 : Int) (x11_1 : Int), v4 = .int .i64 x4_1 ∧ v11 = .int .i64 x11_1 ∧ Aside0 (perms_Mode.l0 kq a0 x4_1 (a0.size : Int) x11_1 = some (r1, r2)) ∧ Aside0 (kq ≤ k) ∧ Drawn0 w w')
    case atStart => exact ⟨(0), (0), (by first | rfl | (simp; done) | (simp [*]; done)), (by first | rfl | (simp; done) | (simp [*]; done)), H', ⟨Nat.le_refl _⟩, by repeat (first | exact Drawn0.refl _ | apply Drawn0.step)⟩
    case round =>
      clear H'
      try clear c1
      try clear c2
      try clear c2b0
      try clear c2b1
      try clear p2
      obtain ⟨x4_1, x11_1, rfl, rfl, HA, HK1, ⟨m1, rfl⟩⟩ := hrel
      cases gk with
      | zero => exact absurd HA.out (by simp [perms_Mode.l0])
      | succ k1 =>
        have H := HA.out
        clear HA
        simp only [perms_Mode.l0] at H
        by_cases c3 : x11_1 < (a0.size : Int)
        · rw [if_pos c3] at H
          have c3b0 : decide (x11_1 < (a0.size : Int)) = true := decide_eq_true c3
          clear c3
          by_cases c4 : 0 ≤ x11_1
          · rw [if_pos c4] at H
            have c4b0 : decide (0 ≤ x11_1) = true := decide_eq_true c4
            clear c4
            by_cases c5 : x11_1 < (a0.size : Int)
            · rw [if_pos c5] at H
              have c5b0 : decide (x11_1 < (a0.size : Int)) = true := decide_eq_true c5
              clear c5
              by_cases c7 : x11_1 < 9
              · rw [if_pos c7] at H
                have c7b0 : decide (x11_1 < 9) = true := decide_eq_true c7
                clear c7
                by_cases c9 : (bt a0 x11_1) = (bt (⟨#[114, 119, 120, 114, 119, 120, 114, 119, 120]⟩ : ByteArray) x11_1)
                · rw [if_pos c9] at H
                  have c9b0 : ((bt a0 x11_1) == (bt (⟨#[114, 119, 120, 114, 119, 120, 114, 119, 120]⟩ : ByteArray) x11_1)) = true := beq_iff_eq.mpr c9
                  have c9b1 : ((bt a0 x11_1) != (bt (⟨#[114, 119, 120, 114, 119, 120, 114, 119, 120]⟩ : ByteArray) x11_1)) = false := bne_eq_false_iff_eq.mpr c9
                  clear c9
                  have H' := Aside0.mk H
                  clear H
                  have p6 : 0 ≤ (x11_1 : Int) := of_decide_eq_true (by first | (with_reducible assumption) | assumption)
                  have q6 : x11_1 < (a0.size : Int) := of_decide_eq_true (by first | (with_reducible assumption) | assumption)
                  have hx6 := bt_at a0 x11_1
                  replace p6 := eq_true p6
                  replace q6 := eq_true q6
                  have p8 : 0 ≤ (x11_1 : Int) := of_decide_eq_true (by first | (with_reducible assumption) | assumption)
                  have q8 : x11_1 < (9 : Int) := of_decide_eq_true (by first | (with_reducible assumption) | assumption)
                  have hx8 := bt_at (⟨#[114, 119, 120, 114, 119, 120, 114, 119, 120]⟩ : ByteArray) x11_1
                  replace p8 := eq_true p8
                  replace q8 := eq_true q8
                  go_wp2
                  go_roundg k1
                  case measure => have := HK1.out; omega
                  case rel => exact ⟨(Go.bits .or .i64 (wrap64 (x4_1 * 2)) 1), (wrap64 (x11_1 + 1)), (by first | rfl | (simp; done) | (simp [*]; done)), (by first | rfl | (simp; done) | (simp [*]; done)), H', ⟨by have := HK1.out; omega⟩, by repeat (first | exact Drawn0.refl _ | apply Drawn0.step)⟩
                · rw [if_neg c9] at H
                  have c9b0 : ((bt a0 x11_1) == (bt (⟨#[114, 119, 120, 114, 119, 120, 114, 119, 120]⟩ : ByteArray) x11_1)) = false := beq_eq_false_iff_ne.mpr c9
                  have c9b1 : ((bt a0 x11_1) != (bt (⟨#[114, 119, 120, 114, 119, 120, 114, 119, 120]⟩ : ByteArray) x11_1)) = true := bne_iff_ne.mpr c9
                  by_cases c10 : (bt a0 x11_1) = 45
                  · rw [if_pos c10] at H
                    have c10b0 : ((bt a0 x11_1) == 45) = true := beq_iff_eq.mpr c10
                    have c10b1 : ((bt a0 x11_1) != 45) = false := bne_eq_false_iff_eq.mpr c10
                    clear c10
                    have H' := Aside0.mk H
                    clear H
                    have p6 : 0 ≤ (x11_1 : Int) := of_decide_eq_true (by first | (with_reducible assumption) | assumption)
                    have q6 : x11_1 < (a0.size : Int) := of_decide_eq_true (by first | (with_reducible assumption) | assumption)
                    have hx6 := bt_at a0 x11_1
                    replace p6 := eq_true p6
                    replace q6 := eq_true q6
                    have p8 : 0 ≤ (x11_1 : Int) := of_decide_eq_true (by first | (with_reducible assumption) | assumption)
                    have q8 : x11_1 < (9 : Int) := of_decide_eq_true (by first | (with_reducible assumption) | assumption)
                    have hx8 := bt_at (⟨#[114, 119, 120, 114, 119, 120, 114, 119, 120]⟩ : ByteArray) x11_1
                    replace p8 := eq_true p8
                    replace q8 := eq_true q8
                    go_wp2
                    go_roundg k1
                    case measure => have := HK1.out; omega
                    case rel => exact ⟨(wrap64 (x4_1 * 2)), (wrap64 (x11_1 + 1)), (by first | rfl | (simp; done) | (simp [*]; done)), (by first | rfl | (simp; done) | (simp [*]; done)), H', ⟨by have := HK1.out; omega⟩, by repeat (first | exact Drawn0.refl _ | apply Drawn0.step)⟩
                  · rw [if_neg c10] at H
                    have c10b0 : ((bt a0 x11_1) == 45) = false := beq_eq_false_iff_ne.mpr c10
                    have c10b1 : ((bt a0 x11_1) != 45) = true := bne_iff_ne.mpr c10
                    simp only [Option.some.injEq, Prod.mk.injEq] at H
                    obtain ⟨rfl, rfl⟩ := H
                    have p6 : 0 ≤ (x11_1 : Int) := of_decide_eq_true (by first | (with_reducible assumption) | assumption)
                    have q6 : x11_1 < (a0.size : Int) := of_decide_eq_true (by first | (with_reducible assumption) | assumption)
                    have hx6 := bt_at a0 x11_1
                    replace p6 := eq_true p6
                    replace q6 := eq_true q6
                    have p8 : 0 ≤ (x11_1 : Int) := of_decide_eq_true (by first | (with_reducible assumption) | assumption)
                    have q8 : x11_1 < (9 : Int) := of_decide_eq_true (by first | (with_reducible assumption) | assumption)
                    have hx8 := bt_at (⟨#[114, 119, 120, 114, 119, 120, 114, 119, 120]⟩ : ByteArray) x11_1
                    replace p8 := eq_true p8
                    replace q8 := eq_true q8
                    go_wp2
                    go_ret2
                    exact ⟨by first | rfl | (simp; done) | (simp [*]; done), by repeat (first | exact Drawn0.refl _ | apply Drawn0.step)⟩
              · rw [if_neg c7] at H
                exact absurd H (by simp)
            · rw [if_neg c5] at H
              exact absurd H (by simp)
          · rw [if_neg c4] at H
            exact absurd H (by simp)
        · rw [if_neg c3] at H
          have c3b0 : decide (x11_1 < (a0.size : Int)) = false := decide_eq_false c3
          clear c3
          simp only [Option.some.injEq, Prod.mk.injEq] at H
          obtain ⟨rfl, rfl⟩ := H
          go_wp2
          go_ret2
          exact ⟨by first | rfl | (simp; done) | (simp [*]; done), by repeat (first | exact Drawn0.refl _ | apply Drawn0.step)⟩
  · rw [if_neg c2] at H
    have c2b0 : ((a0.size : Int) == 9) = false := beq_eq_false_iff_ne.mpr c2
    have c2b1 : ((a0.size : Int) != 9) = true := bne_iff_ne.mpr c2
    simp only [Option.some.injEq, Prod.mk.injEq] at H
    obtain ⟨rfl, rfl⟩ := H
    go_enter Tryd.func17, Tryd.ntmps17
    go_wp2
    go_ret2
    exact ⟨by first | rfl | (simp; done) | (simp [*]; done), by repeat (first | exact Drawn0.refl _ | apply Drawn0.step)⟩

/-! ### halberdref23_Letters: function 18 -/
def halberdref23_Letters.l0 : Nat → Int → ByteArray → Int → Int → Option (ByteArray)
  | 0, _, _, _, _ => none
  | k + 1, x0, x3, x4, x5 => if x5 < 9 then (if (Go.bits .and .i64 x0 x4) = 0 then (if x3.size + 1 ≤ 9223372036854775807 then (halberdref23_Letters.l0 k x0 (x3 ++ (⟨#[45]⟩ : ByteArray)) (wrap64 (Int.tdiv x4 2)) (wrap64 (x5 + 1))) else (none)) else (if 0 ≤ (Int.tmod x5 3) then (if (Int.tmod x5 3) ≤ (wrap64 ((Int.tmod x5 3) + 1)) then (if (wrap64 ((Int.tmod x5 3) + 1)) ≤ 3 then (if x3.size + ((⟨#[114, 119, 120]⟩ : ByteArray).extract ((Int.tmod x5 3) : Int).toNat ((wrap64 ((Int.tmod x5 3) + 1)) : Int).toNat).size ≤ 9223372036854775807 then (halberdref23_Letters.l0 k x0 (x3 ++ ((⟨#[114, 119, 120]⟩ : ByteArray).extract ((Int.tmod x5 3) : Int).toNat ((wrap64 ((Int.tmod x5 3) + 1)) : Int).toNat)) (wrap64 (Int.tdiv x4 2)) (wrap64 (x5 + 1))) else (none)) else (none)) else (none)) else (none))) else (some x3)
def halberdref23_Letters.f (k : Nat) (a0 : Int) : Option (ByteArray) := halberdref23_Letters.l0 k a0 (⟨#[]⟩ : ByteArray) 256 0
theorem halberdref23_Letters.mono_l : ∀ k, (∀ y0 y1 y2 y3, LeO (halberdref23_Letters.l0 k y0 y1 y2 y3) (halberdref23_Letters.l0 (k + 1) y0 y1 y2 y3))
  | 0 => fun _ _ _ _ r h => by simp [halberdref23_Letters.l0] at h
  | k + 1 => by
    have ih0 := halberdref23_Letters.mono_l k
    · intro y0 y1 y2 y3
      unfold halberdref23_Letters.l0
      repeat' first
      | (with_reducible exact ih0 _ _ _ _)
      | (with_reducible exact LeO.refl _)
      | (with_reducible exact LeO.none _)
      | (with_reducible refine LeO.ite ?_ ?_)
      | (with_reducible refine LeO.bind ?_ (fun _ => ?_))
      | exact ih0 _ _ _ _
      | exact LeO.none _
      | refine LeO.ite ?_ ?_
      | refine LeO.bind ?_ (fun _ => ?_)
theorem halberdref23_Letters.mono : ∀ a0 k, LeO (halberdref23_Letters.f k a0) (halberdref23_Letters.f (k + 1) a0) := by
  intro a0 k
  have ih0 := halberdref23_Letters.mono_l k
  unfold halberdref23_Letters.f
  repeat' first
      | (with_reducible exact ih0 _ _ _ _)
      | (with_reducible exact LeO.refl _)
      | (with_reducible exact LeO.none _)
      | (with_reducible refine LeO.ite ?_ ?_)
      | (with_reducible refine LeO.bind ?_ (fun _ => ?_))
      | exact ih0 _ _ _ _
      | exact LeO.none _
      | refine LeO.ite ?_ ?_
      | refine LeO.bind ?_ (fun _ => ?_)
set_option maxHeartbeats 8000000 in
set_option maxRecDepth 100000 in
theorem halberdref23_Letters.calls (k : Nat) (a0 : Int) (r : ByteArray) (w : World) (h : halberdref23_Letters.f k a0 = some r) :
    Calls Tryd.prog 18 #[.int .i64 a0] w fun e w' => e = .returned (.string r) ∧ Drawn0 w w' := by
  have H : (halberdref23_Letters.l0 k a0 (⟨#[]⟩ : ByteArray) 256 0) = some r := h
  clear h
  have H' := Aside0.mk H
  clear H
  go_enter Tryd.func18, Tryd.ntmps18
  go_wp2
  go_loopg [3, 4, 5] k (fun kq v3 v4 v5 w' => ∃ (x3_1 : ByteArray) (x4_1 : Int) (x5_1 : Int), v3 = .string x3_1 ∧ v4 = .int .i64 x4_1 ∧ v5 = .int .i64 x5_1 ∧ Aside0 (halberdref23_Letters.l0 kq a0 x3_1 x4_1 x5_1 = some r) ∧ Aside0 (kq ≤ k) ∧ Drawn0 w w')
  case atStart => exact ⟨((⟨#[]⟩ : ByteArray)), (256), (0), (by first | rfl | (simp; done) | (simp [*]; done)), (by first | rfl | (simp; done) | (simp [*]; done)), (by first | rfl | (simp; done) | (simp [*]; done)), H', ⟨Nat.le_refl _⟩, by repeat (first | exact Drawn0.refl _ | apply Drawn0.step)⟩
  case round =>
    clear H'
    try clear c1
    obtain ⟨x3_1, x4_1, x5_1, rfl, rfl, rfl, HA, HK1, ⟨m1, rfl⟩⟩ := hrel
    cases gk with
    | zero => exact absurd HA.out (by simp [halberdref23_Letters.l0])
    | succ k1 =>
      have H := HA.out
      clear HA
      simp only [halberdref23_Letters.l0] at H
      by_cases c2 : x5_1 < 9
      · rw [if_pos c2] at H
        have c2b0 : decide (x5_1 < 9) = true := decide_eq_true c2
        clear c2
        by_cases c3 : (Go.bits .and .i64 a0 x4_1) = 0
        · rw [if_pos c3] at H
          have c3b0 : ((Go.bits .and .i64 a0 x4_1) == 0) = true := beq_iff_eq.mpr c3
          have c3b1 : ((Go.bits .and .i64 a0 x4_1) != 0) = false := bne_eq_false_iff_eq.mpr c3
          clear c3
          by_cases c4 : x3_1.size + 1 ≤ 9223372036854775807
          · rw [if_pos c4] at H
            have c4b0 := eq_true c4
            have c4b1 : decide (x3_1.size + 1 ≤ 9223372036854775807) = true := decide_eq_true c4
            try have c4b2 : (9223372036854775807 < x3_1.size + 1) = False := eq_false (Nat.not_lt.2 c4)
            have H' := Aside0.mk H
            clear H
            go_wp2
            go_roundg k1
            case measure => have := HK1.out; omega
            case rel => exact ⟨(x3_1 ++ (⟨#[45]⟩ : ByteArray)), (wrap64 (Int.tdiv x4_1 2)), (wrap64 (x5_1 + 1)), (by first | rfl | (simp; done) | (simp [*]; done)), (by first | rfl | (simp; done) | (simp [*]; done)), (by first | rfl | (simp; done) | (simp [*]; done)), H', ⟨by have := HK1.out; omega⟩, by repeat (first | exact Drawn0.refl _ | apply Drawn0.step)⟩
          · rw [if_neg c4] at H
            exact absurd H (by simp)
        · rw [if_neg c3] at H
          have c3b0 : ((Go.bits .and .i64 a0 x4_1) == 0) = false := beq_eq_false_iff_ne.mpr c3
          have c3b1 : ((Go.bits .and .i64 a0 x4_1) != 0) = true := bne_iff_ne.mpr c3
          obtain ⟨ji5, hji5⟩ : ∃ j_ : Int, (Int.tmod x5_1 3) = j_ := ⟨_, rfl⟩
          replace H : (if 0 ≤ (ji5) then (if (ji5) ≤ (wrap64 ((ji5) + 1)) then (if (wrap64 ((ji5) + 1)) ≤ 3 then (if x3_1.size + ((⟨#[114, 119, 120]⟩ : ByteArray).extract ((ji5) : Int).toNat ((wrap64 ((ji5) + 1)) : Int).toNat).size ≤ 9223372036854775807 then (halberdref23_Letters.l0 k1 a0 (x3_1 ++ ((⟨#[114, 119, 120]⟩ : ByteArray).extract ((ji5) : Int).toNat ((wrap64 ((ji5) + 1)) : Int).toNat)) (wrap64 (Int.tdiv x4_1 2)) (wrap64 (x5_1 + 1))) else (none)) else (none)) else (none)) else (none)) = some r := by first | (rw [hji5] at H; exact H) | (simp only [hji5] at H ⊢; exact H)
          by_cases c6 : 0 ≤ (ji5)
          · rw [if_pos c6] at H
            have c6b0 := eq_true c6
            have c6b1 : decide (0 ≤ (ji5)) = true := decide_eq_true c6
            clear c6
            by_cases c7 : (ji5) ≤ (wrap64 ((ji5) + 1))
            · rw [if_pos c7] at H
              have c7b0 := eq_true c7
              have c7b1 : decide ((ji5) ≤ (wrap64 ((ji5) + 1))) = true := decide_eq_true c7
              by_cases c8 : (wrap64 ((ji5) + 1)) ≤ 3
              · rw [if_pos c8] at H
                have c8b0 := eq_true c8
                have c8b1 : decide ((wrap64 ((ji5) + 1)) ≤ 3) = true := decide_eq_true c8
                by_cases c9 : x3_1.size + ((⟨#[114, 119, 120]⟩ : ByteArray).extract ((ji5) : Int).toNat ((wrap64 ((ji5) + 1)) : Int).toNat).size ≤ 9223372036854775807
                · rw [if_pos c9] at H
                  have c9b0 := eq_true c9
                  have c9b1 : decide (x3_1.size + ((⟨#[114, 119, 120]⟩ : ByteArray).extract ((ji5) : Int).toNat ((wrap64 ((ji5) + 1)) : Int).toNat).size ≤ 9223372036854775807) = true := decide_eq_true c9
                  try have c9b2 : (9223372036854775807 < x3_1.size + ((⟨#[114, 119, 120]⟩ : ByteArray).extract ((ji5) : Int).toNat ((wrap64 ((ji5) + 1)) : Int).toNat).size) = False := eq_false (Nat.not_lt.2 c9)
                  have H' := Aside0.mk H
                  clear H
                  go_wp2
                  go_roundg k1
                  case measure => have := HK1.out; omega
                  case rel => exact ⟨(x3_1 ++ ((⟨#[114, 119, 120]⟩ : ByteArray).extract ((ji5) : Int).toNat ((wrap64 ((ji5) + 1)) : Int).toNat)), (wrap64 (Int.tdiv x4_1 2)), (wrap64 (x5_1 + 1)), (by first | rfl | (simp; done) | (simp only [← hji5] <;> (first | rfl | simp)) | (simp [*]; done)), (by first | rfl | (simp; done) | (simp [*]; done)), (by first | rfl | (simp; done) | (simp [*]; done)), H', ⟨by have := HK1.out; omega⟩, by repeat (first | exact Drawn0.refl _ | apply Drawn0.step)⟩
                · rw [if_neg c9] at H
                  exact absurd H (by simp)
              · rw [if_neg c8] at H
                exact absurd H (by simp)
            · rw [if_neg c7] at H
              exact absurd H (by simp)
          · rw [if_neg c6] at H
            exact absurd H (by simp)
      · rw [if_neg c2] at H
        have c2b0 : decide (x5_1 < 9) = false := decide_eq_false c2
        clear c2
        obtain rfl := Option.some.inj H
        go_wp2
        go_ret
        exact ⟨by first | rfl | (simp; done) | (simp [*]; done), by repeat (first | exact Drawn0.refl _ | apply Drawn0.step)⟩

/-! ### halberdlaw23_PermsLetters: function 6 -/
mutual
def halberdlaw23_PermsLetters.j0 : Nat → ByteArray → Int → Bool → Bool → Option (Bool)
  | 0, _, _, _, _ => none
  | k + 1, x1, x8, x9, x41 => if x41 = true then (some false) else (if x9 = true then (if x8 ≥ 0 then (if x8 < 512 then ((halberdref23_Letters.f k x8).bind fun t136 => (some (t136.toList == x1.toList))) else (some false)) else (some false)) else (halberdlaw23_PermsLetters.l0 k x1 x8 0))
def halberdlaw23_PermsLetters.l0 : Nat → ByteArray → Int → Int → Option (Bool)
  | 0, _, _, _ => none
  | k + 1, x1, x8, x10 => if x10 < 512 then ((halberdref23_Letters.f k x10).bind fun t137 => (if t137.toList = x1.toList then (some false) else (halberdlaw23_PermsLetters.l0 k x1 x8 (wrap64 (x10 + 1))))) else (some (x8 == 0))
end
def halberdlaw23_PermsLetters.f (k : Nat) (a0 : Int) (a1 : ByteArray) : Option (Bool) := (halberdlaw23_alive.f k).bind fun t129 => (if t129 = true then (if (a1.size : Int) > 100 then (some true) else ((perms_Letters.f a0).bind fun t130 => ((perms_Mode.f k t130).bind fun bt131 => ((perms_Mode.f k a1).bind fun bt133 => ((halberdref23_Letters.f k a0).bind fun t135 => (if t130.toList = t135.toList then (if bt131.2 = true then (halberdlaw23_PermsLetters.j0 k a1 bt133.1 bt133.2 (bt131.1 != (Go.bits .and .i64 a0 511))) else (halberdlaw23_PermsLetters.j0 k a1 bt133.1 bt133.2 true)) else (halberdlaw23_PermsLetters.j0 k a1 bt133.1 bt133.2 true))))))) else (some false))
theorem halberdlaw23_PermsLetters.mono_l : ∀ k, (∀ y0 y1 y2 y3, LeO (halberdlaw23_PermsLetters.j0 k y0 y1 y2 y3) (halberdlaw23_PermsLetters.j0 (k + 1) y0 y1 y2 y3)) ∧ (∀ y0 y1 y2, LeO (halberdlaw23_PermsLetters.l0 k y0 y1 y2) (halberdlaw23_PermsLetters.l0 (k + 1) y0 y1 y2))
  | 0 => ⟨fun _ _ _ _ r h => by simp [halberdlaw23_PermsLetters.j0] at h, fun _ _ _ r h => by simp [halberdlaw23_PermsLetters.l0] at h⟩
  | k + 1 => by
    obtain ⟨ih0, ih1⟩ := halberdlaw23_PermsLetters.mono_l k
    refine ⟨?_, ?_⟩
    · intro y0 y1 y2 y3
      unfold halberdlaw23_PermsLetters.j0
      repeat' first
      | (with_reducible exact ih0 _ _ _ _)
      | (with_reducible exact ih1 _ _ _)
      | (with_reducible exact halberdlaw23_alive.mono _)
      | (with_reducible exact halberdref23_Letters.mono _ _)
      | (with_reducible exact perms_Mode.mono _ _)
      | (with_reducible exact LeO.refl _)
      | (with_reducible exact LeO.none _)
      | (with_reducible refine LeO.ite ?_ ?_)
      | (with_reducible refine LeO.bind ?_ (fun _ => ?_))
      | exact ih0 _ _ _ _
      | exact ih1 _ _ _
      | exact halberdlaw23_alive.mono _
      | exact halberdref23_Letters.mono _ _
      | exact perms_Mode.mono _ _
      | exact LeO.none _
      | refine LeO.ite ?_ ?_
      | refine LeO.bind ?_ (fun _ => ?_)
    · intro y0 y1 y2
      unfold halberdlaw23_PermsLetters.l0
      repeat' first
      | (with_reducible exact ih0 _ _ _ _)
      | (with_reducible exact ih1 _ _ _)
      | (with_reducible exact halberdlaw23_alive.mono _)
      | (with_reducible exact halberdref23_Letters.mono _ _)
      | (with_reducible exact perms_Mode.mono _ _)
      | (with_reducible exact LeO.refl _)
      | (with_reducible exact LeO.none _)
      | (with_reducible refine LeO.ite ?_ ?_)
      | (with_reducible refine LeO.bind ?_ (fun _ => ?_))
      | exact ih0 _ _ _ _
      | exact ih1 _ _ _
      | exact halberdlaw23_alive.mono _
      | exact halberdref23_Letters.mono _ _
      | exact perms_Mode.mono _ _
      | exact LeO.none _
      | refine LeO.ite ?_ ?_
      | refine LeO.bind ?_ (fun _ => ?_)
theorem halberdlaw23_PermsLetters.mono : ∀ a0 a1 k, LeO (halberdlaw23_PermsLetters.f k a0 a1) (halberdlaw23_PermsLetters.f (k + 1) a0 a1) := by
  intro a0 a1 k
  obtain ⟨ih0, ih1⟩ := halberdlaw23_PermsLetters.mono_l k
  unfold halberdlaw23_PermsLetters.f
  repeat' first
      | (with_reducible exact ih0 _ _ _ _)
      | (with_reducible exact ih1 _ _ _)
      | (with_reducible exact halberdlaw23_alive.mono _)
      | (with_reducible exact halberdref23_Letters.mono _ _)
      | (with_reducible exact perms_Mode.mono _ _)
      | (with_reducible exact LeO.refl _)
      | (with_reducible exact LeO.none _)
      | (with_reducible refine LeO.ite ?_ ?_)
      | (with_reducible refine LeO.bind ?_ (fun _ => ?_))
      | exact ih0 _ _ _ _
      | exact ih1 _ _ _
      | exact halberdlaw23_alive.mono _
      | exact halberdref23_Letters.mono _ _
      | exact perms_Mode.mono _ _
      | exact LeO.none _
      | refine LeO.ite ?_ ?_
      | refine LeO.bind ?_ (fun _ => ?_)
set_option maxHeartbeats 8000000 in
set_option maxRecDepth 100000 in
theorem halberdlaw23_PermsLetters.calls (k : Nat) (a0 : Int) (a1 : ByteArray) (r : Bool) (w : World) (hr_ : Aside0 (r = true)) (h : halberdlaw23_PermsLetters.f k a0 a1 = some r) :
    Calls Tryd.prog 6 #[.int .i64 a0, .string a1] w fun e w' => e = .returned (.bool r) ∧ Below w.heap.size w w' := by
  have HB := Aside0.mk (Below.refl w.heap.size w)
  have H : ((halberdlaw23_alive.f k).bind fun t129 => (if t129 = true then (if (a1.size : Int) > 100 then (some true) else ((perms_Letters.f a0).bind fun t130 => ((perms_Mode.f k t130).bind fun bt131 => ((perms_Mode.f k a1).bind fun bt133 => ((halberdref23_Letters.f k a0).bind fun t135 => (if t130.toList = t135.toList then (if bt131.2 = true then (halberdlaw23_PermsLetters.j0 k a1 bt133.1 bt133.2 (bt131.1 != (Go.bits .and .i64 a0 511))) else (halberdlaw23_PermsLetters.j0 k a1 bt133.1 bt133.2 true)) else (halberdlaw23_PermsLetters.j0 k a1 bt133.1 bt133.2 true))))))) else (some false))) = some r := h
  clear h
  replace H := Option.bind_eq_some_iff.mp H
  obtain ⟨t129, A30, H⟩ := H
  replace H : (if t129 = true then (if (a1.size : Int) > 100 then (some true) else ((perms_Letters.f a0).bind fun t130 => ((perms_Mode.f k t130).bind fun bt131 => ((perms_Mode.f k a1).bind fun bt133 => ((halberdref23_Letters.f k a0).bind fun t135 => (if t130.toList = t135.toList then (if bt131.2 = true then (halberdlaw23_PermsLetters.j0 k a1 bt133.1 bt133.2 (bt131.1 != (Go.bits .and .i64 a0 511))) else (halberdlaw23_PermsLetters.j0 k a1 bt133.1 bt133.2 true)) else (halberdlaw23_PermsLetters.j0 k a1 bt133.1 bt133.2 true))))))) else (some false)) = some r := H
  have A3 := Aside0.mk A30
  clear A30
  by_cases c4 : t129 = true
  · subst c4
    have H1 : (if (a1.size : Int) > 100 then (some true) else ((perms_Letters.f a0).bind fun t130 => ((perms_Mode.f k t130).bind fun bt131 => ((perms_Mode.f k a1).bind fun bt133 => ((halberdref23_Letters.f k a0).bind fun t135 => (if t130.toList = t135.toList then (if bt131.2 = true then (halberdlaw23_PermsLetters.j0 k a1 bt133.1 bt133.2 (bt131.1 != (Go.bits .and .i64 a0 511))) else (halberdlaw23_PermsLetters.j0 k a1 bt133.1 bt133.2 true)) else (halberdlaw23_PermsLetters.j0 k a1 bt133.1 bt133.2 true))))))) = some r := by rw [if_pos rfl] at H; exact H
    clear H
    have H := H1
    clear H1
    by_cases c5 : (a1.size : Int) > 100
    · rw [if_pos c5] at H
      have c5b0 : decide (100 < (a1.size : Int)) = true := decide_eq_true c5
      have c5b1 : decide (100 < a1.size) = true := decide_eq_true (by omega)
      clear c5
      obtain rfl := Option.some.inj H
      go_enter Tryd.func6, Tryd.ntmps6
      go_wp2_with (first | ((with_reducible refine gate_callee (f := 7) rfl ?_); refine goesL_ (some 11) rfl rfl Tryd.func7 (by kernel_rfl) rfl #[] rfl (by (try simp only [List.map_toArray, List.map_cons, List.map_nil]); first | done | rfl | (simp only [List.length_drop, List.length_take]; rfl)) ?_; (with_reducible refine (halberdlaw23_alive.calls k  true _ A3.out).mono ?_); rintro e w6 ⟨rfl, hb⟩; refine ⟨_, rfl, ?_⟩; have n0_ := Aside0.mk (below_step (by repeat (first | (with_reducible first | exact HB.out | apply below_alloc | apply pw_below_drewN | apply below_drew1) | exact HB.out)) hb); clear HB; have HB := n0_; clear n0_; (try clear hb); (try clear hb2); (try clear hk); (try clear hi)) | (go_at_call 7; (with_reducible refine (halberdlaw23_alive.calls k  true _ A3.out).mono ?_); rintro e w6 ⟨rfl, hb⟩; have n0_ := Aside0.mk (below_step (by repeat (first | (with_reducible first | exact HB.out | apply below_alloc | apply pw_below_drewN | apply below_drew1) | exact HB.out)) hb); clear HB; have HB := n0_; clear n0_; (try clear hb); (try clear hb2); (try clear hk); (try clear hi)))
      go_ret
      exact ⟨by first | rfl | (simp [errW_none, errW_some] <;> rfl) | (simp [*, errW_none, errW_some] <;> rfl), by repeat (first | (with_reducible first | exact HB.out | apply below_alloc | apply pw_below_drewN | apply below_drew1) | exact HB.out)⟩
    · rw [if_neg c5] at H
      have c5b0 : decide (100 < (a1.size : Int)) = false := decide_eq_false c5
      have c5b1 : decide (100 < a1.size) = false := decide_eq_false (by omega)
      clear c5
      replace H := Option.bind_eq_some_iff.mp H
      obtain ⟨t130, A70, H⟩ := H
      replace H : ((perms_Mode.f k t130).bind fun bt131 => ((perms_Mode.f k a1).bind fun bt133 => ((halberdref23_Letters.f k a0).bind fun t135 => (if t130.toList = t135.toList then (if bt131.2 = true then (halberdlaw23_PermsLetters.j0 k a1 bt133.1 bt133.2 (bt131.1 != (Go.bits .and .i64 a0 511))) else (halberdlaw23_PermsLetters.j0 k a1 bt133.1 bt133.2 true)) else (halberdlaw23_PermsLetters.j0 k a1 bt133.1 bt133.2 true))))) = some r := H
      have A7 := Aside0.mk A70
      clear A70
      replace H := Option.bind_eq_some_iff.mp H
      obtain ⟨⟨t131, t132⟩, A80, H⟩ := H
      replace H : ((perms_Mode.f k a1).bind fun bt133 => ((halberdref23_Letters.f k a0).bind fun t135 => (if t130.toList = t135.toList then (if t132 = true then (halberdlaw23_PermsLetters.j0 k a1 bt133.1 bt133.2 (t131 != (Go.bits .and .i64 a0 511))) else (halberdlaw23_PermsLetters.j0 k a1 bt133.1 bt133.2 true)) else (halberdlaw23_PermsLetters.j0 k a1 bt133.1 bt133.2 true)))) = some r := H
      have A8 := Aside0.mk A80
      clear A80
      replace H := Option.bind_eq_some_iff.mp H
      obtain ⟨⟨t133, t134⟩, A90, H⟩ := H
      replace H : ((halberdref23_Letters.f k a0).bind fun t135 => (if t130.toList = t135.toList then (if t132 = true then (halberdlaw23_PermsLetters.j0 k a1 t133 t134 (t131 != (Go.bits .and .i64 a0 511))) else (halberdlaw23_PermsLetters.j0 k a1 t133 t134 true)) else (halberdlaw23_PermsLetters.j0 k a1 t133 t134 true))) = some r := H
      have A9 := Aside0.mk A90
      clear A90
      have HC10 := Aside0.mk H
      clear H
      go_enter Tryd.func6, Tryd.ntmps6
      go_upto_region 8 with (first | ((with_reducible refine gate_callee (f := 7) rfl ?_); refine goesL_ (some 11) rfl rfl Tryd.func7 (by kernel_rfl) rfl #[] rfl (by (try simp only [List.map_toArray, List.map_cons, List.map_nil]); first | done | rfl | (simp only [List.length_drop, List.length_take]; rfl)) ?_; (with_reducible refine (halberdlaw23_alive.calls k  true _ A3.out).mono ?_); rintro e w11 ⟨rfl, hb⟩; refine ⟨_, rfl, ?_⟩; have n0_ := Aside0.mk (below_step (by repeat (first | (with_reducible first | exact HB.out | apply below_alloc | apply pw_below_drewN | apply below_drew1) | exact HB.out)) hb); clear HB; have HB := n0_; clear n0_; (try clear hb); (try clear hb2); (try clear hk); (try clear hi)) | ((with_reducible refine gate_callee (f := 16) rfl ?_); refine goesL_ (some 17) rfl rfl Tryd.func16 (by kernel_rfl) rfl #[.int .i64 a0] rfl (by (try simp only [List.map_toArray, List.map_cons, List.map_nil]); first | done | rfl | (simp only [List.length_drop, List.length_take]; rfl)) ?_; (with_reducible refine (perms_Letters.calls a0 t130 _ A7.out).mono ?_); rintro e w12 ⟨rfl, hb⟩; refine ⟨_, rfl, ?_⟩; have n0_ := Aside0.mk (below_step (by repeat (first | (with_reducible first | exact HB.out | apply below_alloc | apply pw_below_drewN | apply below_drew1) | exact HB.out)) hb); clear HB; have HB := n0_; clear n0_; (try clear hb); (try clear hb2); (try clear hk); (try clear hi)) | ((with_reducible refine gate_callee (f := 17) rfl ?_); refine goesL_ (some 20) rfl rfl Tryd.func17 (by kernel_rfl) rfl #[.string t130] rfl (by (try simp only [List.map_toArray, List.map_cons, List.map_nil]); first | done | rfl | (simp only [List.length_drop, List.length_take]; rfl)) ?_; (with_reducible refine (perms_Mode.calls k t130 t131 t132 _ A8.out).mono ?_); rintro e w' ⟨rfl, ⟨nd, rfl⟩⟩; refine ⟨_, rfl, ?_⟩) | ((with_reducible refine gate_callee (f := 17) rfl ?_); refine goesL_ (some 25) rfl rfl Tryd.func17 (by kernel_rfl) rfl #[.string a1] rfl (by (try simp only [List.map_toArray, List.map_cons, List.map_nil]); first | done | rfl | (simp only [List.length_drop, List.length_take]; rfl)) ?_; (with_reducible refine (perms_Mode.calls k a1 t133 t134 _ A9.out).mono ?_); rintro e w' ⟨rfl, ⟨nd, rfl⟩⟩; refine ⟨_, rfl, ?_⟩))
      (try simp only [Act.put, List.setIfInBounds_toArray, List.set_cons_zero, List.set_cons_succ])
      go_cut [41] (fun v41 wc => ∃ (kq : Nat) (x41_9 : Bool), v41 = .bool x41_9 ∧ Aside0 (halberdlaw23_PermsLetters.j0 kq a1 t133 t134 x41_9 = some r) ∧ Aside0 (kq ≤ k) ∧ Aside0 (Below w.heap.size w wc))
      case first =>
        have H := HC10.out
        clear HC10
        replace H := Option.bind_eq_some_iff.mp H
        obtain ⟨t135, A130, H⟩ := H
        replace H : (if t130.toList = t135.toList then (if t132 = true then (halberdlaw23_PermsLetters.j0 k a1 t133 t134 (t131 != (Go.bits .and .i64 a0 511))) else (halberdlaw23_PermsLetters.j0 k a1 t133 t134 true)) else (halberdlaw23_PermsLetters.j0 k a1 t133 t134 true)) = some r := H
        have A13 := Aside0.mk A130
        clear A130
        by_cases c14 : t130.toList = t135.toList
        · rw [if_pos c14] at H
          have c14b0 : (t130.toList == t135.toList) = true := beq_iff_eq.mpr c14
          have c14b1 : (t130.toList != t135.toList) = false := bne_eq_false_iff_eq.mpr c14
          clear c14
          (first | rw [c14b0] | (simp only [i64_w, i32_w]; rw [c14b0]) | skip)
          by_cases c15 : t132 = true
          · subst c15
            have H1 : (halberdlaw23_PermsLetters.j0 k a1 t133 t134 (t131 != (Go.bits .and .i64 a0 511))) = some r := by rw [if_pos rfl] at H; exact H
            clear H
            have H := H1
            clear H1
            have H' := Aside0.mk H
            clear H
            go_wp2_with (first | ((with_reducible refine gate_callee (f := 18) rfl ?_); refine goesL_ (some 30) rfl rfl Tryd.func18 (by kernel_rfl) rfl #[.int .i64 a0] rfl (by (try simp only [List.map_toArray, List.map_cons, List.map_nil]); first | done | rfl | (simp only [List.length_drop, List.length_take]; rfl)) ?_; (with_reducible refine (halberdref23_Letters.calls k a0 t135 _ A13.out).mono ?_); rintro e w' ⟨rfl, ⟨nd, rfl⟩⟩; refine ⟨_, rfl, ?_⟩) | (go_at_call 18; (with_reducible refine (halberdref23_Letters.calls k a0 t135 _ A13.out).mono ?_); rintro e w' ⟨rfl, ⟨nd, rfl⟩⟩; refine ⟨_, rfl, ?_⟩))
            go_meet
            case rel => exact ⟨_, ((t131 != (Go.bits .and .i64 a0 511))), (by first | rfl | (simp; done) | (simp [*]; done)), H', ⟨by first | omega | exact Nat.le_refl _⟩, ⟨by repeat (first | (with_reducible first | exact HB.out | apply below_alloc | apply pw_below_drewN | apply below_drew1) | exact HB.out)⟩⟩
          · replace c15 := Bool.eq_false_iff.mpr c15
            subst c15
            have H1 : (halberdlaw23_PermsLetters.j0 k a1 t133 t134 true) = some r := by rw [if_neg (show ¬ (false = true) by decide)] at H; exact H
            clear H
            have H := H1
            clear H1
            have H' := Aside0.mk H
            clear H
            go_wp2_with (first | ((with_reducible refine gate_callee (f := 18) rfl ?_); refine goesL_ (some 30) rfl rfl Tryd.func18 (by kernel_rfl) rfl #[.int .i64 a0] rfl (by (try simp only [List.map_toArray, List.map_cons, List.map_nil]); first | done | rfl | (simp only [List.length_drop, List.length_take]; rfl)) ?_; (with_reducible refine (halberdref23_Letters.calls k a0 t135 _ A13.out).mono ?_); rintro e w' ⟨rfl, ⟨nd, rfl⟩⟩; refine ⟨_, rfl, ?_⟩) | (go_at_call 18; (with_reducible refine (halberdref23_Letters.calls k a0 t135 _ A13.out).mono ?_); rintro e w' ⟨rfl, ⟨nd, rfl⟩⟩; refine ⟨_, rfl, ?_⟩))
            go_meet
            case rel => exact ⟨_, (true), (by first | rfl | (simp; done) | (simp [*]; done)), H', ⟨by first | omega | exact Nat.le_refl _⟩, ⟨by repeat (first | (with_reducible first | exact HB.out | apply below_alloc | apply pw_below_drewN | apply below_drew1) | exact HB.out)⟩⟩
        · rw [if_neg c14] at H
          have c14b0 : (t130.toList == t135.toList) = false := beq_eq_false_iff_ne.mpr c14
          have c14b1 : (t130.toList != t135.toList) = true := bne_iff_ne.mpr c14
          (first | rw [c14b0] | (simp only [i64_w, i32_w]; rw [c14b0]) | skip)
          have H' := Aside0.mk H
          clear H
          go_wp2_with (first | ((with_reducible refine gate_callee (f := 18) rfl ?_); refine goesL_ (some 30) rfl rfl Tryd.func18 (by kernel_rfl) rfl #[.int .i64 a0] rfl (by (try simp only [List.map_toArray, List.map_cons, List.map_nil]); first | done | rfl | (simp only [List.length_drop, List.length_take]; rfl)) ?_; (with_reducible refine (halberdref23_Letters.calls k a0 t135 _ A13.out).mono ?_); rintro e w' ⟨rfl, ⟨nd, rfl⟩⟩; refine ⟨_, rfl, ?_⟩) | (go_at_call 18; (with_reducible refine (halberdref23_Letters.calls k a0 t135 _ A13.out).mono ?_); rintro e w' ⟨rfl, ⟨nd, rfl⟩⟩; refine ⟨_, rfl, ?_⟩))
          go_meet
          case rel => exact ⟨_, (true), (by first | rfl | (simp; done) | (simp [*]; done)), H', ⟨by first | omega | exact Nat.le_refl _⟩, ⟨by repeat (first | (with_reducible first | exact HB.out | apply below_alloc | apply pw_below_drewN | apply below_drew1) | exact HB.out)⟩⟩
      case rest =>
        clear HC10
        try clear c1
        try clear p2
        try clear c4
        try clear c5
        try clear c5b0
        try clear c5b1
        try clear c6
        try clear c7
        try clear c14
        try clear c14b0
        try clear c14b1
        try clear c15
        obtain ⟨kq, x41_9, rfl, HA, HJ9, HB⟩ := hcut
        cases kq with
        | zero => exact absurd HA.out (by simp [halberdlaw23_PermsLetters.j0])
        | succ kj9 =>
          have H := HA.out
          clear HA
          simp only [halberdlaw23_PermsLetters.j0] at H
          by_cases c16 : x41_9 = true
          · subst c16
            have H1 : (some false) = some r := by rw [if_pos rfl] at H; exact H
            clear H
            have H := H1
            clear H1
            exact absurd (Option.some.inj H) (by rw [hr_.out]; decide)
          · replace c16 := Bool.eq_false_iff.mpr c16
            subst c16
            have H1 : (if t134 = true then (if t133 ≥ 0 then (if t133 < 512 then ((halberdref23_Letters.f kj9 t133).bind fun t136 => (some (t136.toList == a1.toList))) else (some false)) else (some false)) else (halberdlaw23_PermsLetters.l0 kj9 a1 t133 0)) = some r := by rw [if_neg (show ¬ (false = true) by decide)] at H; exact H
            clear H
            have H := H1
            clear H1
            by_cases c17 : t134 = true
            · subst c17
              have H1 : (if t133 ≥ 0 then (if t133 < 512 then ((halberdref23_Letters.f kj9 t133).bind fun t136 => (some (t136.toList == a1.toList))) else (some false)) else (some false)) = some r := by rw [if_pos rfl] at H; exact H
              clear H
              have H := H1
              clear H1
              by_cases c18 : t133 ≥ 0
              · rw [if_pos c18] at H
                have c18b0 : decide (0 ≤ t133) = true := decide_eq_true c18
                clear c18
                by_cases c19 : t133 < 512
                · rw [if_pos c19] at H
                  have c19b0 : decide (t133 < 512) = true := decide_eq_true c19
                  clear c19
                  replace H := Option.bind_eq_some_iff.mp H
                  obtain ⟨t136, A200, H⟩ := H
                  replace H : (some (t136.toList == a1.toList)) = some r := H
                  have A20 := Aside0.mk A200
                  clear A200
                  obtain rfl := Option.some.inj H
                  go_wp2_with (first | (go_at_call 18; (with_reducible refine (halberdref23_Letters.calls kj9 t133 t136 _ A20.out).mono ?_); rintro e w' ⟨rfl, ⟨nd, rfl⟩⟩))
                  go_ret
                  exact ⟨by first | rfl | (simp [errW_none, errW_some] <;> rfl) | (simp [*, errW_none, errW_some] <;> rfl), by repeat (first | (with_reducible first | exact HB.out | apply below_alloc | apply pw_below_drewN | apply below_drew1) | exact HB.out)⟩
                · rw [if_neg c19] at H
                  have c19b0 : decide (t133 < 512) = false := decide_eq_false c19
                  clear c19
                  exact absurd (Option.some.inj H) (by rw [hr_.out]; decide)
              · rw [if_neg c18] at H
                have c18b0 : decide (0 ≤ t133) = false := decide_eq_false c18
                clear c18
                exact absurd (Option.some.inj H) (by rw [hr_.out]; decide)
            · replace c17 := Bool.eq_false_iff.mpr c17
              subst c17
              have H1 : (halberdlaw23_PermsLetters.l0 kj9 a1 t133 0) = some r := by rw [if_neg (show ¬ (false = true) by decide)] at H; exact H
              clear H
              have H := H1
              clear H1
              have H' := Aside0.mk H
              clear H
              go_wp2
              go_loopg [10] kj9 (fun kq v10 w' => ∃ (x10_2 : Int), v10 = .int .i64 x10_2 ∧ Aside0 (halberdlaw23_PermsLetters.l0 kq a1 t133 x10_2 = some r) ∧ Aside0 (kq ≤ kj9) ∧ Aside0 (Below w.heap.size w w'))
              case atStart => exact ⟨(0), (by first | rfl | (simp; done) | (simp [*]; done)), H', ⟨Nat.le_refl _⟩, ⟨by repeat (first | (with_reducible first | exact HB.out | apply below_alloc | apply pw_below_drewN | apply below_drew1) | exact HB.out)⟩⟩
              case round =>
                clear H'
                try clear c1
                try clear p2
                try clear c4
                try clear c5
                try clear c5b0
                try clear c5b1
                try clear c6
                try clear c7
                try clear c14
                try clear c14b0
                try clear c14b1
                try clear c15
                try clear c16
                try clear c17
                try clear c18
                try clear c18b0
                try clear c19
                try clear c19b0
                try clear p2
                obtain ⟨x10_2, rfl, HA, HK2, HB⟩ := hrel
                cases gk with
                | zero => exact absurd HA.out (by simp [halberdlaw23_PermsLetters.l0])
                | succ k2 =>
                  have H := HA.out
                  clear HA
                  simp only [halberdlaw23_PermsLetters.l0] at H
                  by_cases c21 : x10_2 < 512
                  · rw [if_pos c21] at H
                    have c21b0 : decide (x10_2 < 512) = true := decide_eq_true c21
                    clear c21
                    replace H := Option.bind_eq_some_iff.mp H
                    obtain ⟨t137, A220, H⟩ := H
                    replace H : (if t137.toList = a1.toList then (some false) else (halberdlaw23_PermsLetters.l0 k2 a1 t133 (wrap64 (x10_2 + 1)))) = some r := H
                    have A22 := Aside0.mk A220
                    clear A220
                    by_cases c23 : t137.toList = a1.toList
                    · rw [if_pos c23] at H
                      have c23b0 : (t137.toList == a1.toList) = true := beq_iff_eq.mpr c23
                      have c23b1 : (t137.toList != a1.toList) = false := bne_eq_false_iff_eq.mpr c23
                      clear c23
                      exact absurd (Option.some.inj H) (by rw [hr_.out]; decide)
                    · rw [if_neg c23] at H
                      have c23b0 : (t137.toList == a1.toList) = false := beq_eq_false_iff_ne.mpr c23
                      have c23b1 : (t137.toList != a1.toList) = true := bne_iff_ne.mpr c23
                      have H' := Aside0.mk H
                      clear H
                      go_wp2_with (first | ((with_reducible refine gate_callee (f := 18) rfl ?_); refine goesL_ (some 49) rfl rfl Tryd.func18 (by kernel_rfl) rfl #[.int .i64 x10_2] rfl (by (try simp only [List.map_toArray, List.map_cons, List.map_nil]); first | done | rfl | (simp only [List.length_drop, List.length_take]; rfl)) ?_; (with_reducible refine (halberdref23_Letters.calls k2 x10_2 t137 _ A22.out).mono ?_); rintro e w' ⟨rfl, ⟨nd, rfl⟩⟩; refine ⟨_, rfl, ?_⟩) | (go_at_call 18; (with_reducible refine (halberdref23_Letters.calls k2 x10_2 t137 _ A22.out).mono ?_); rintro e w' ⟨rfl, ⟨nd, rfl⟩⟩; refine ⟨_, rfl, ?_⟩))
                      go_roundg k2
                      case measure => have := HJ9.out; have := HK2.out; omega
                      case rel => exact ⟨(wrap64 (x10_2 + 1)), (by first | rfl | (simp; done) | (simp [*]; done)), H', ⟨by have := HJ9.out; have := HK2.out; omega⟩, ⟨by repeat (first | (with_reducible first | exact HB.out | apply below_alloc | apply pw_below_drewN | apply below_drew1) | exact HB.out)⟩⟩
                  · rw [if_neg c21] at H
                    have c21b0 : decide (x10_2 < 512) = false := decide_eq_false c21
                    clear c21
                    obtain rfl := Option.some.inj H
                    go_wp2
                    go_ret
                    exact ⟨by first | rfl | (simp [errW_none, errW_some] <;> rfl) | (simp [*, errW_none, errW_some] <;> rfl), by repeat (first | (with_reducible first | exact HB.out | apply below_alloc | apply pw_below_drewN | apply below_drew1) | exact HB.out)⟩
  · replace c4 := Bool.eq_false_iff.mpr c4
    subst c4
    have H1 : (some false) = some r := by rw [if_neg (show ¬ (false = true) by decide)] at H; exact H
    clear H
    have H := H1
    clear H1
    exact absurd (Option.some.inj H) (by rw [hr_.out]; decide)

/-- THE ONE PURE STATEMENT of halberdlaw23_PermsLetters. -/
def halberdlaw23_PermsLetters.Pure : Prop := ∀ (a0 : Int) (a1 : ByteArray), ((Lit.int .i64 a0).wf = true) → (a1.size ≤ 140737488351232) → ∃ k, halberdlaw23_PermsLetters.f k a0 a1 = some true

end Go.Proofs.YtkbngkhajkhfgaaDoor.PPermsLetters
