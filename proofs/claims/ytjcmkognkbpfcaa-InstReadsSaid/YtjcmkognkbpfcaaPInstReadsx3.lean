/- Functions of the program that some laws reach, as Lean functions, and proofs that the program's calls come to what they say: written by a program, for the texts that import it; each theorem bears its own conditions. -/
import Derived.Test.YtjcmkognkbpfcaaPInstReadsx0
import Derived.Test.YtjcmkognkbpfcaaPInstReadsx2
namespace Go.Proofs.Ytjcmkognkbpfcaa.PInstReads
open Go.RowKit Go.Proofs.YtjcmkognkbpfcaaW.PrintWords Go.Proofs.YtjcmkognkbpfcaaW.PrintLast Go.Proofs.YtjcmkognkbpfcaaW.PrintMore
attribute [local go_sem] max2_int min2_int max_two min_two max_three min_three max_four min_four   -- for this text's walks alone
set_option linter.unusedVariables false
set_option linter.unusedSimpArgs false

/-! ### inst_Read: function 6 -/
open Go.Proofs.Ev Go.Proofs.Hp Go.Proofs.Ck
attribute [local go_sem] eql_slice_nil
attribute [local go_sem] Oper.semAt_some
def icells : List S35 → List Value
  | [] => []
  | x :: l => .int .u8 x.f0 :: .int .u8 x.f1 :: .int .u8 x.f2 :: .int .i16 x.f3 :: .int .i32 x.f4 :: icells l
theorem icells_len : ∀ l : List S35, (icells l).length = l.length * 5
  | [] => rfl
  | x :: l => by simp only [icells, List.length_cons, icells_len l]; omega
theorem icells_app : ∀ l l' : List S35, icells (l ++ l') = icells l ++ icells l'
  | [], _ => rfl
  | x :: l, l' => by simp only [List.cons_append, icells, icells_app l l']
theorem RowOf.shapek {e : TypeId} {size : Nat} {R : Hl} {v : Value} {n : Nat} {xs : List Value} (h : RowOf e size R v n xs) : ∃ A c, v = .slice A n c := by
  rcases h.2 with ⟨rfl, rfl, _⟩ | ⟨g, cap, cur, rfl, _⟩
  · exact ⟨_, _, rfl⟩
  · exact ⟨_, _, rfl⟩
theorem RowOf.areCells {e : TypeId} {size : Nat} {R : Hl} {v : Value} {n : Nat} {xs : List Value} (h : RowOf e size R v n xs) : ∀ p ∈ R, p.2.isCells = true := by
  rcases h.2 with ⟨_, _, rfl⟩ | ⟨g, cap, cur, _, rfl, _⟩
  · intro p hp; cases hp
  · intro p hp
    rw [List.mem_singleton.1 hp]
    rfl
theorem icells_reps (w : World) (base : Nat) (ok : Nat → Prop) : ∀ l : List S35, Reps (Kd.M k35 w base ok) 5 l (icells l) := by
  intro l
  have h : ∀ (k : Nat), k ≤ l.length → Reps (Kd.M k35 w base ok) 5 (l.take k) (icells (l.take k)) := by
    intro k
    induction k with
    | zero => intro _; simp only [List.take_zero, icells]; exact Reps.none _ _
    | succ k ih =>
      intro hk
      have hk' : k < l.length := hk
      rw [List.take_succ_eq_append_getElem hk', icells_app]
      exact (ih (by omega)).snoc (k35_mkM w base ok l[k]) rfl
  have := h l.length (Nat.le_refl _)
  rw [List.take_length] at this
  exact this
theorem RowOf.toR {R : Hl} {v : Value} {n : Nat} {T : List S35} {w w' : World} {L : Hl} (h : RowOf 35 5 R v n (icells T)) (hn : T.length = n) (HO : Hp.Own w w' (R ++ L)) : Kd.R k35 35 w' w.heap.size (fun _ => True) v T := by
  refine ⟨fun _ _ => trivial, icells T, ?_, icells_reps _ _ _ _⟩
  rw [hn]
  obtain ⟨h1, ⟨h2, h3, _⟩ | ⟨g, cap, cur, h2, rfl, h3, h4, h5, h6⟩⟩ := h
  · subst h2 h3
    exact ⟨h1, .inl ⟨rfl, rfl⟩⟩
  · exact ⟨h1, .inr ⟨g, cap, cur, h2, HO.ge .head, HO.get .head, h3, h4, h5, h6⟩⟩
theorem own_initial {w0 W : World} {B L : Hl} (h : Hp.Own w0 W (B ++ L)) : Hp.Own w0 W B :=
  ⟨h.bel, fun p hp => h.blk p (List.mem_append_left _ hp), fun p hp => h.fresh p (List.mem_append_left _ hp), by have := h.nd; rw [List.map_append] at this; exact (List.nodup_append.1 this).1⟩
/-- The eight bytes of an instruction. -/
def ichunk (l0 : List Int) (i : Nat) : List Int := (l0.drop (8 * i)).take 8
/-- ... and what is read of them. -/
def inst_chunk (l0 : List Int) (i : Nat) : Option S35 :=
  (words_Load.f 20 (ichunk l0 i) 2 2).bind fun t => (words_Load.f 20 (ichunk l0 i) 4 4).bind fun u => some ⟨rd (ichunk l0 i) 0, Go.bits .and .u8 (rd (ichunk l0 i) 1) 15, rd (ichunk l0 i) 1 / 16, IntKind.i16.wrap t.1, wrap32 u.1⟩
def inst_chunks (l0 : List Int) : Nat → Option (List S35)
  | 0 => some []
  | q + 1 => (inst_chunks l0 q).bind fun t => (inst_chunk l0 q).bind fun x => some (t ++ [x])
theorem inst_chunks_at (l0 : List Int) : ∀ (q : Nat) (T : List S35), inst_chunks l0 q = some T → T.length = q ∧ ∀ i, i < q → ∃ x, inst_chunk l0 i = some x ∧ T[i]? = some x
  | 0, T, h => by
    simp only [inst_chunks, Option.some.injEq] at h
    subst h
    exact ⟨rfl, fun i hi => absurd hi (Nat.not_lt_zero _)⟩
  | q + 1, T, h => by
    unfold inst_chunks at h
    rw [Option.bind_eq_some_iff] at h
    obtain ⟨t, h1, h2⟩ := h
    rw [Option.bind_eq_some_iff] at h2
    obtain ⟨x, h3, h4⟩ := h2
    simp only [Option.some.injEq] at h4
    subst h4
    obtain ⟨k1, k2⟩ := inst_chunks_at l0 q t h1
    refine ⟨by rw [List.length_append, k1]; rfl, fun i hi => ?_⟩
    by_cases he : i = q
    · subst he
      exact ⟨x, h3, by rw [List.getElem?_append_right (by omega), k1]; simp⟩
    · obtain ⟨y, e1, e2⟩ := k2 i (by omega)
      exact ⟨y, e1, by rw [List.getElem?_append_left (by omega)]; exact e2⟩
theorem load8 (A : Option Addr) (xs : List Int) (hl : xs.length = 8) (a s t : Int) (b : Bool) (w : World) (hr : Kd.C (Kd.int .u8) w A 8 xs) (h : words_Load.f 20 xs a s = some (t, b)) :
    Calls Try.prog 11 #[.slice A 8 8, .int .i64 a, .int .i64 s] w fun e w' => e = .returned (.tuple #[.int .u64 t, .bool b]) ∧ Drawn0 w w' := by
  have := words_Load.calls 20 A 8 xs a s t b w (by rw [hl]; exact hr) (by omega) h
  rw [hl] at this
  exact this
set_option maxHeartbeats 8000000 in
set_option maxRecDepth 100000 in
theorem read_ok (w : World) (ad : Addr) (l0 : List Int) (m cap q : Nat) (hm : m = 8 * q) (hl : l0.length = m) (hq : 1 ≤ q ∧ q ≤ 64) (hcap : m ≤ cap) (hr0 : Kd.C (Kd.int .u8) w (some ad) m l0) (T : List S35) (hT : inst_chunks l0 q = some T) :
    CallsIn Fence.wide 6 Try.prog 6 #[.slice (some ad) m cap] w fun e w' => ∃ v, e = .returned (.tuple #[v, .int .i64 0]) ∧ ∃ R, RowOf 35 5 R v q (icells T) ∧ Hp.Own w w' R := by
  have hui := Try.underlying3
  have hul := Try.underlying22
  have hu8 := Try.underlying5
  have huis := Try.underlying24
  have HM := Aside0.mk hm
  have HL := Aside0.mk hl
  have HQ := Aside0.mk hq
  have HCAP := Aside0.mk hcap
  have HDAT := Aside0.mk hr0
  have HT := Aside0.mk (inst_chunks_at l0 q T hT)
  have z1 : ((m : Int) == 0) = false := beq_eq_false_iff_ne.mpr (by omega)
  have z2 : ((m : Int) = 0) = False := eq_false (by omega)
  have z3 : (m == 0) = false := beq_eq_false_iff_ne.mpr (by omega)
  have z4 : (m = 0) = False := eq_false (by omega)
  have z5 : Int.tmod (m : Int) 8 = 0 := by rw [Int.tmod_eq_emod_of_nonneg (by omega)]; omega
  have z6 : decide (512 < (m : Int)) = false := decide_eq_false (by omega)
  have z7 : decide (512 < m) = false := decide_eq_false (by omega)
  clear hm hl hq hcap hr0 hT
  refine callsIn_of_wp_marks Try.func6 rfl trivial ?_ rfl
  simp only [Try.ntmps6, List.size_toArray, List.length_cons, List.length_nil, Nat.reduceAdd, Nat.reduceSub, Array.replicate_succ, Array.replicate_zero, List.push_toArray, List.append_toArray, List.nil_append, List.cons_append]
  gi_wp2_with (refine ⟨trivial, ?_⟩; gi_at_call 10; refine (callsIn_wide.2 (chunk_calls _ (some ad) m cap)).mono ?_; rintro e wx ⟨Bs, Bn, rfl, hO_⟩; dsimp only)
  have HO0 : Hp.Own w wx ((w.heap.size, .cells #[.slice none 0 0] 24 (0, 0)) :: [(Bn, .cells #[.int .i64 8] 3 (0, 0)), (Bs, .cells #[.slice (some ad) m cap] 22 (0, 0))]) := Hp.Own.join (L := [(w.heap.size, .cells #[.slice none 0 0] 24 (0, 0))]) ((Hp.Own.refl w).alloc _) hO_
  clear hO_
  have hsz : w.heap.size ≤ w.heap.size := Nat.le_refl _
  have hlow := HO0.bel.size
  generalize hg : w.heap.size = gout at HO0 ⊢
  obtain ⟨BX, hBX⟩ : ∃ BX : Hl, BX = [(Bn, .cells #[.int .i64 8] 3 (0, 0)), (Bs, .cells #[.slice (some ad) m cap] 22 (0, 0))] := ⟨_, rfl⟩
  have HBXC : Aside0 (∀ p ∈ BX, p.2.isCells = true) := ⟨fun p hp => by rw [hBX] at hp; simp only [List.mem_cons, List.not_mem_nil, or_false] at hp; rcases hp with rfl | rfl <;> rfl⟩
  have HBXN : Aside0 ((Bn, Obj.cells #[.int .i64 8] 3 (0, 0)) ∈ BX) := ⟨by rw [hBX]; simp⟩
  have HBXS : Aside0 ((Bs, Obj.cells #[.slice (some ad) m cap] 22 (0, 0)) ∈ BX) := ⟨by rw [hBX]; simp⟩
  have hbs : Bs < wx.heap.size := blk_lt (HO0.get (.tail (.tail .head)))
  have hbn : Bn < wx.heap.size := blk_lt (HO0.get (.tail .head))
  have hcs : wx.cell? ⟨Bs, 0, none⟩ = some (.slice (some ad) m cap) := (HO0.cell (.tail (.tail .head)) 0).trans rfl
  have hcn : wx.cell? ⟨Bn, 0, none⟩ = some (.int .i64 8) := (HO0.cell (.tail .head) 0).trans rfl
  rw [← hBX] at HO0
  refine wpIn_rangeFunc_ownF (F := Fence.wide) (n := 6) rfl (by decide) (gf := 15) (lb := #[.pointer (some ⟨Bs, 0, none⟩), .pointer (some ⟨Bn, 0, none⟩)]) rfl trivial (enters_of Try.func15 (by kernel_rfl) rfl) (chunk_stops 5 (by decide) Bs Bn ad q m cap HM.out HCAP.out HQ.out.2 wx hbs hbn hcs hcn) (fun h k => h.trans k) (Keep2.b hbs hbn) (Below.refl _ _) (fun _ => rfl)
    (fun pre W => ∃ (A : Option Addr) (c : Nat) (RR : Hl), RowOf 35 5 RR (.slice A pre.length c) pre.length (icells (pre.map fun x : Fin q => T.getD x.val z35)) ∧ Hp.Own w W ((gout, .cells #[.slice A pre.length c] 24 (0, 0)) :: (RR ++ BX)))
    (fun _ _ _ => False) ?hI (fun _ _ _ _ _ h _ _ => h) ⟨none, 0, [], RowOf.none _ _, HO0⟩ ?a1 ?assign ?body ?done ?stop
  case hI =>
    rintro pre W W' row ⟨A, c, RR, hrow, hO⟩ hg' hr
    refine ⟨A, c, RR, hrow, hO.grown hg' (fun r e => ⟨by have := (hr r e).1; omega, (hr r e).2⟩) fun p hp => ?_⟩
    rcases List.mem_cons.1 hp with rfl | hp
    · rfl
    · rcases List.mem_append.1 hp with hp | hp
      · exact RowOf.areCells hrow p hp
      · exact HBXC.out p hp
  case stop => exact fun _ _ _ _ _ _ h => h.elim
  case assign =>
    intro l x W K hK
    gi_wp2
    exact hK
  case body =>
    rintro l pre x W ⟨A, c, RR, hrow, hO⟩ hlen
    have HR := Aside0.mk hrow
    have HO := Aside0.mk hO
    have HLN := Aside0.mk hlen
    obtain ⟨y, hy1, hy2⟩ := HT.out.2 x.val x.isLt
    unfold inst_chunk at hy1
    rw [Option.bind_eq_some_iff] at hy1
    obtain ⟨⟨t1, bb1⟩, ht1, hy1⟩ := hy1
    rw [Option.bind_eq_some_iff] at hy1
    obtain ⟨⟨t2, bb2⟩, ht2, hy1⟩ := hy1
    simp only [Option.some.injEq] at hy1
    have HCL : Aside0 ((ichunk l0 x.val).length = 8) := ⟨by unfold ichunk; rw [List.length_take, List.length_drop, HL.out, HM.out]; have := x.isLt; omega⟩
    have HCH : Aside0 (Kd.C (Kd.int .u8) w (some (ad.add (8 * x.val))) 8 (ichunk l0 x.val)) := ⟨C_sub HDAT.out (8 * x.val) 8 (by rw [HM.out]; have := x.isLt; omega)⟩
    have HT1 := Aside0.mk ht1
    have HT2 := Aside0.mk ht2
    have HYT : Aside0 (T.getD x.val z35 = y) := ⟨by rw [List.getD_eq_getElem?_getD, hy2]; rfl⟩
    generalize ad.add (8 * x.val) = ad8 at HCH ⊢
    have HB : Aside0 (∀ j : Nat, j < 8 → ∀ w', Below w.heap.size w w' → w'.cell? (ad8.add j) = some (.int .u8 (rd (ichunk l0 x.val) (j : Int)))) := ⟨fun j hj w' hb => by
      obtain ⟨ad', e, hc⟩ := Kd.at_int (Kd.C_below HCH.out hb) (j : Int) (by omega) (by omega)
      cases e
      exact hc⟩
    have HB0 := Aside0.mk (HB.out 0 (by decide))
    have HB1 := Aside0.mk (HB.out 1 (by decide))
    obtain ⟨b0, hb0⟩ : ∃ b0 : Int, rd (ichunk l0 x.val) ((0 : Nat) : Int) = b0 := ⟨_, rfl⟩
    obtain ⟨b1, hb1⟩ : ∃ b1 : Int, rd (ichunk l0 x.val) ((1 : Nat) : Int) = b1 := ⟨_, rfl⟩
    rw [hb0] at HB0
    rw [hb1] at HB1
    have HY : Aside0 ((⟨b0, Go.bits .and .u8 b1 15, b1 / 16, IntKind.i16.wrap t1, wrap32 t2⟩ : S35) = y) := ⟨by rw [← hy1, ← hb0, ← hb1]; rfl⟩
    have HK := Aside0.mk (KeepsOthers.refl W)
    have HBW : Aside0 (∀ p ∈ BX, W.heap[p.1]? = some p.2) := ⟨fun p hp => HO.out.blk p (List.mem_cons_of_mem _ (List.mem_append_right _ hp))⟩
    clear hrow hO hlen hy1 hy2 ht1 ht2 hb0 hb1 HB
    gi_wp2
    refine ⟨trivial, ?_⟩
    refine CallsIn.mono (CallsIn.inRound l (callsIn_wide.2 (load8 (some ad8) (ichunk l0 x.val) HCL.out 2 2 t1 bb1 _ (Kd.C_below HCH.out HO.out.bel) HT1.out))) ?_
    rintro e wk ⟨rfl, hd_⟩
    have HK := Aside0.mk (HK.out.trans (keeps_below (Drawn0.below hd_)))
    have hO_ := HO.out.below (Drawn0.below hd_)
    clear hd_
    clear HO; have HO := Aside0.mk hO_; clear hO_
    dsimp only
    gi_wp2
    refine ⟨trivial, ?_⟩
    refine CallsIn.mono (CallsIn.inRound l (callsIn_wide.2 (load8 (some ad8) (ichunk l0 x.val) HCL.out 4 4 t2 bb2 _ (Kd.C_below HCH.out HO.out.bel) HT2.out))) ?_
    rintro e wk ⟨rfl, hd_⟩
    have HK := Aside0.mk (HK.out.trans (keeps_below (Drawn0.below hd_)))
    have hO_ := HO.out.below (Drawn0.below hd_)
    clear hd_
    clear HO; have HO := Aside0.mk hO_; clear hO_
    dsimp only
    gi_wp2
    refine start_in (l := l) (m := 20) (S := fun W => Hp.Own w W ((gout, .cells #[.slice A pre.length c] 24 (0, 0)) :: [])) (ds := [19]) #[false, false, false, false, false, false, false, false, false, false, false, false, false, false, false, false, false, false, false, false] (by kernel_rfl) (by rintro ⟨a, w, hv⟩; exact hv) (by kernel_rfl) rfl rfl (Hp.Own.drew (HO.out.picks (.cons (by (repeat (first | exact .head | apply Ext.tail))) (.nil)))) (fun hHeld => ?_)
    have HO_ := Aside0.mk HO.out.drew
    clear HO
    have HO := HO_
    clear HO_
    have HK := Aside0.mk (HK.out.trans (KeepsOthers.drew _))
    generalize World.drew _ = wr at HO HK hHeld ⊢
    refine take_ (i := 0) (N := some 37) (v := .slice A pre.length c) (a' := ?_) (Hp.up 20 1) rfl rfl (by kernel_rfl) (fun _ _ _ h => h) (own_yield1 (by rfl) (x := .tmp 4) rfl (by rfl) (.head) Try.underlying24 (by rfl) (by rfl)) hHeld ?_ ?_
    rotate_left
    · simp only [Act.put, List.setIfInBounds_toArray, List.set_cons_zero, List.set_cons_succ, i64_w, i32_w]
      rfl
    refine Hp.pu_ 1 38 (Hp.up 20 2) ?_
    refine Hp.pu_ 2 39 (Hp.up 20 3) ?_
    refine take_ (i := 3) (N := some 40) (v := .int .u8 b0) (a' := ?_) (Hp.up 20 4) rfl rfl (by kernel_rfl) (fun _ _ _ h => h) (Or.inl ⟨by rfl, fun w' hS => old_loadk rfl (by rfl) hu8 rfl (HB0.out w' hS.bel)⟩) hHeld ?_ ?_
    rotate_left
    · simp only [Act.put, List.setIfInBounds_toArray, List.set_cons_zero, List.set_cons_succ, i64_w, i32_w]
      rfl
    refine Hp.pu_ 4 41 (Hp.up 20 5) ?_
    refine Hp.pu_ 5 42 (Hp.up 20 6) ?_
    refine take_ (i := 6) (N := some 43) (v := .int .u8 b1) (a' := ?_) (Hp.up 20 7) rfl rfl (by kernel_rfl) (fun _ _ _ h => h) (Or.inl ⟨by rfl, fun w' hS => old_loadk rfl (by rfl) hu8 rfl (HB1.out w' hS.bel)⟩) hHeld ?_ ?_
    rotate_left
    · simp only [Act.put, List.setIfInBounds_toArray, List.set_cons_zero, List.set_cons_succ, i64_w, i32_w]
      rfl
    refine Hp.pu_ 7 44 (Hp.up 20 8) ?_
    refine Hp.pu_ 8 45 (Hp.up 20 9) ?_
    refine Hp.pu_ 9 46 (Hp.up 20 10) ?_
    refine take_ (i := 10) (N := some 47) (v := .int .u8 b1) (a' := ?_) (Hp.up 20 11) rfl rfl (by kernel_rfl) (fun _ _ _ h => h) (Or.inl ⟨by rfl, fun w' hS => old_loadk rfl (by rfl) hu8 rfl (HB1.out w' hS.bel)⟩) hHeld ?_ ?_
    rotate_left
    · simp only [Act.put, List.setIfInBounds_toArray, List.set_cons_zero, List.set_cons_succ, i64_w, i32_w]
      rfl
    refine Hp.pu_ 11 48 (Hp.up 20 12) ?_
    refine Hp.pu_ 12 49 (Hp.up 20 13) ?_
    refine Hp.pu_ 13 50 (Hp.up 20 14) ?_
    refine Hp.pu_ 14 51 (Hp.up 20 15) ?_
    refine Hp.pu_ 15 52 (Hp.up 20 16) ?_
    refine Hp.pu_ 16 53 (Hp.up 20 17) ?_
    refine one_ (i := 17) (N := some 54) (Hp.up 20 18) rfl rfl (by kernel_rfl) (by decide) (fun K hK => ?_)
    refine own_lit_kK HO.out (by rfl) (N := 54) rfl (cs := #[.int .u8 b0, .int .u8 (Go.bits .and .u8 b1 15), .int .u8 (b1 / 16), .int .i16 (IntKind.i16.wrap t1), .int .i32 (wrap32 t2)]) (t := 35) (n := 1) (m := 1) (by first | (go_simp; done) | (go_simp; rfl) | kernel_rfl) ?_
    intro g54 w54 hO_ hk_
    have HK := Aside0.mk (HK.out.trans hk_)
    clear hk_
    clear HO; have HO := Aside0.mk hO_; clear hO_
    refine hK.out _ _ (HO.out.picks (.cons (by (repeat (first | exact .head | apply Ext.tail))) (.nil))) (fun hHeld => ?_)
    clear hK K
    refine norm_ (a' := ?_) ?_ ?_
    rotate_left
    · show Act.put _ (some 54) _ = _
      simp only [Act.put, List.setIfInBounds_toArray, List.set_cons_zero, List.set_cons_succ, i64_w, i32_w]
      rfl
    refine one_ (i := 18) (N := some 55) (Hp.up 20 19) rfl rfl (by kernel_rfl) (by decide) (fun K hK => ?_)
    refine own_append_kK (z := .agg #[.int .u8 0, .int .u8 0, .int .u8 0, .int .i16 0, .int .i32 0]) (size := 5) (bytes := 12) (R := RR) (L := BX) [(g54, .cells #[.int .u8 b0, .int .u8 (Go.bits .and .u8 b1 15), .int .u8 (b1 / 16), .int .i16 (IntKind.i16.wrap t1), .int .i32 (wrap32 t2)] 35 (0, 0)), (gout, .cells #[.slice A pre.length c] 24 (0, 0))] HO.out (by rfl) (N := 55) rfl rfl huis (by kernel_rfl) rfl (by rfl) HR.out (by rfl) (HO.out.src huis .head 0 1 1 [.int .u8 b0, .int .u8 (Go.bits .and .u8 b1 15), .int .u8 (b1 / 16), .int .i16 (IntKind.i16.wrap t1), .int .i32 (wrap32 t2)] rfl rfl (by simp [Value.oneCell'])) (by have := HQ.out; have := HLN.out; show pre.length + 1 ≤ 9223372036854775807; omega) (by have := HQ.out; have := HLN.out; omega) ?_
    intro v2 R2 wc hR2 hO_ hk_
    obtain ⟨A2, c2, rfl⟩ := RowOf.shapek hR2
    have HR2 := Aside0.mk hR2
    clear hR2
    have HK := Aside0.mk (HK.out.trans hk_)
    clear hk_
    have hO_ : Hp.Own w wc ((g54, .cells #[.int .u8 b0, .int .u8 (Go.bits .and .u8 b1 15), .int .u8 (b1 / 16), .int .i16 (IntKind.i16.wrap t1), .int .i32 (wrap32 t2)] 35 (0, 0)) :: (gout, .cells #[.slice A pre.length c] 24 (0, 0)) :: (R2 ++ BX)) := hO_
    clear HO; have HO := Aside0.mk hO_; clear hO_
    refine hK.out _ _ (HO.out.picks (.cons (by (repeat (first | exact .head | apply Ext.tail))) (.nil))) (fun hHeld => ?_)
    clear hK K
    refine norm_ (a' := ?_) ?_ ?_
    rotate_left
    · show Act.put _ (some 55) _ = _
      simp only [Act.put, List.setIfInBounds_toArray, List.set_cons_zero, List.set_cons_succ, i64_w, i32_w]
      rfl
    refine last_ (i := 19) (N := none) (Hp.up 20 20) rfl rfl (by kernel_rfl) (by decide) (fun K hK => ?_)
    refine own_store_kK HO.out (by rfl) rfl (ty := 24) (x := .tmp 4) (y := .tmp 55) (v := .slice A2 (pre.length + 1) c2) (cs' := #[.slice A2 (pre.length + 1) c2]) rfl (by rfl) (by rfl) (.tail .head) (by kernel_rfl) (by rfl) (by simp) (by rfl) ?_
    intro wc hO_ hk_
    have HK := Aside0.mk (HK.out.trans hk_)
    clear hk_
    clear HO; have HO := Aside0.mk hO_; clear hO_
    refine hK.out _ _ ?_
    clear hK K
    refine done_ (by kernel_rfl) ?_
    clear hHeld
    have hL : ∀ p ∈ BX, p ∈ ((gout, Obj.cells #[Value.slice A2 (pre.length + 1) c2] 24 (0, 0)) :: (g54, .cells #[.int .u8 b0, .int .u8 (Go.bits .and .u8 b1 15), .int .u8 (b1 / 16), .int .i16 (IntKind.i16.wrap t1), .int .i32 (wrap32 t2)] 35 (0, 0)) :: (R2 ++ BX)) := fun p hp => List.mem_cons_of_mem _ (List.mem_cons_of_mem _ (List.mem_append_right _ hp))
    have hL0 : ∀ p ∈ BX, W.heap[p.1]? = some p.2 := HBW.out
    have hO2 : Hp.Own w wc ((gout, Obj.cells #[Value.slice A2 (pre.length + 1) c2] 24 (0, 0)) :: (R2 ++ BX)) := (HO.out.perm (List.Perm.swap _ _ _)).drop
    refine ⟨HK.out, ⟨(HO.out.blk _ (hL _ HBXS.out)).trans (hL0 _ HBXS.out).symm, (HO.out.blk _ (hL _ HBXN.out)).trans (hL0 _ HBXN.out).symm⟩, A2, c2, R2, ?_, ?_⟩
    · rw [List.length_append, List.map_append, icells_app]
      have := HR2.out
      rw [← HYT.out] at HY
      have e : icells ([x].map fun x : Fin q => T.getD x.val z35) = [.int .u8 b0, .int .u8 (Go.bits .and .u8 b1 15), .int .u8 (b1 / 16), .int .i16 (IntKind.i16.wrap t1), .int .i32 (wrap32 t2)] := by
        simp only [List.map_cons, List.map_nil]
        rw [← HY.out]
        rfl
      rw [e]
      exact this
    · rw [List.length_append]
      exact hO2
  case done =>
    rintro D ys W hD hS ⟨A, c, RR, hrow, hO⟩ hK
    have HR := Aside0.mk hrow
    have HO := Aside0.mk hO
    have HS := Aside0.mk hS
    have HD := Aside0.mk hD
    have hg0 := (hO.cell .head 0).trans rfl
    clear hrow hO hS hD
    gi_wp2
    have hyl : ys.length = q := by have e := congrArg List.length HS.out; rw [List.length_map, List.length_range] at e; exact e
    have hyT : ys.map (fun x : Fin q => T.getD x.val z35) = T := by
      have e : ys.map (fun x : Fin q => T.getD x.val z35) = (ys.map (·.val)).map (fun i => T.getD i z35) := by rw [List.map_map]; rfl
      rw [e, HS.out]
      apply List.ext_getElem
      · rw [List.length_map, List.length_range, HT.out.1]
      · intro i h1 h2
        simp [List.getD_eq_getElem?_getD, List.getElem?_eq_getElem h2]
    refine ⟨by simp, .inl ⟨_, _, rfl, run_takeDeferred hK, ?_⟩⟩
    refine ⟨_, results_tmp2 rfl _ _ _, _, rfl, RR, ?_, ?_⟩
    · have := HR.out
      rw [hyT, hyl] at this
      rw [hyl]
      exact this
    · have h1 := own_initial HO.out.drop
      exact h1.grown (grownBy_putObj' W D _) (fun r e => by cases e; exact ⟨by have := HD.out; omega, _, hK, rfl⟩) (RowOf.areCells HR.out)
def inst_Read.f (k : Nat) (l0 : List Int) : Option (List S35 × Int) := if l0.length = 0 ∨ l0.length % 8 ≠ 0 ∨ 512 < l0.length then some ([], 22) else (inst_chunks l0 (l0.length / 8)).bind fun t => some (t, 0)
theorem inst_Read.mono : ∀ a0 k, LeO (inst_Read.f k a0) (inst_Read.f (k + 1) a0) := fun _ _ _ h => h
set_option maxHeartbeats 8000000 in
set_option maxRecDepth 100000 in
theorem read_bad (w : World) (A : Option Addr) (n c : Nat) (h : n = 0 ∨ n % 8 ≠ 0 ∨ 512 < n) : Calls Try.prog 6 #[.slice A n c] w fun e w' => e = .returned (.tuple #[.slice none 0 0, .int .i64 22]) ∧ w' = w := by
  have ht : Int.tmod (n : Int) 8 = ((n % 8 : Nat) : Int) := by rw [Int.tmod_eq_emod_of_nonneg (by omega)]; omega
  obtain ⟨d, hd⟩ : ∃ d : Nat, d = n % 8 := ⟨_, rfl⟩
  rw [← hd] at ht h
  by_cases h0 : n = 0
  · subst h0
    clear h ht hd
    go_enter Try.func6, Try.ntmps6
    go_wp2
    refine bodyPost_ret (results_tmp2 rfl _ _ _) rfl ?_
    exact ⟨rfl, rfl⟩
  · have z1 : ((n : Int) == 0) = false := beq_eq_false_iff_ne.mpr (by omega)
    have z2 : ((n : Int) = 0) = False := eq_false (by omega)
    have z3 : (n == 0) = false := beq_eq_false_iff_ne.mpr h0
    have z4 : (n = 0) = False := eq_false h0
    by_cases h1 : d = 0
    · have z6 : decide (512 < (n : Int)) = true := decide_eq_true (by omega)
      have z7 : decide (512 < n) = true := decide_eq_true (by omega)
      have z8 : (512 < (n : Int)) = True := eq_true (by omega)
      have z9 : (512 < n) = True := eq_true (by omega)
      subst h1
      clear h h0 hd
      go_enter Try.func6, Try.ntmps6
      go_wp2
      refine bodyPost_ret (results_tmp2 rfl _ _ _) rfl ?_
      exact ⟨rfl, rfl⟩
    · have y1 : ((d : Int) == 0) = false := beq_eq_false_iff_ne.mpr (by omega)
      have y2 : ((d : Int) = 0) = False := eq_false (by omega)
      have y3 : (d = 0) = False := eq_false h1
      have y4 : (d == 0) = false := beq_eq_false_iff_ne.mpr h1
      clear h h0 h1 hd
      go_enter Try.func6, Try.ntmps6
      go_wp2
      refine bodyPost_ret (results_tmp2 rfl _ _ _) rfl ?_
      exact ⟨rfl, rfl⟩
set_option maxHeartbeats 8000000 in
set_option maxRecDepth 100000 in
theorem inst_Read.calls (k : Nat) (A0 : Option Addr) (c0 : Nat) (l0 : List Int) (r1 : List S35) (r2 : Int) (w : World) (hr0 : Kd.C (Kd.int .u8) w A0 l0.length l0) (hc0 : l0.length ≤ c0) (h : inst_Read.f k l0 = some (r1, r2)) :
    Calls Try.prog 6 #[.slice A0 l0.length c0] w fun e w' => ∃ v0_ : Value, e = .returned (.tuple #[v0_, .int .i64 r2]) ∧ Kd.R k35 35 w' w.heap.size (fun _ => True) v0_ r1 ∧ Below w.heap.size w w' := by
  unfold inst_Read.f at h
  split at h
  · rename_i hc
    simp only [Option.some.injEq, Prod.mk.injEq] at h
    obtain ⟨rfl, rfl⟩ := h
    refine (read_bad w A0 l0.length c0 hc).mono ?_
    rintro e w' ⟨rfl, rfl⟩
    exact ⟨_, rfl, Kd.R_nil _ _ _ _ _, Below.refl _ _⟩
  · rename_i hc
    rw [Option.bind_eq_some_iff] at h
    obtain ⟨T, hT, h2⟩ := h
    simp only [Option.some.injEq, Prod.mk.injEq] at h2
    obtain ⟨rfl, rfl⟩ := h2
    obtain ⟨ad, rfl, _⟩ := Kd.at_int hr0 0 (by decide) (by omega)
    refine (callsIn_wide.1 (read_ok w ad l0 l0.length c0 (l0.length / 8) (by omega) rfl (by omega) hc0 hr0 T hT)).mono ?_
    rintro e w' ⟨v, rfl, R, hR, hO⟩
    have hO' : Hp.Own w w' (R ++ []) := by rw [List.append_nil]; exact hO
    exact ⟨v, rfl, RowOf.toR hR (inst_chunks_at l0 _ T hT).1 hO', hO.bel⟩


/-! ### halberdref01_Size: function 17 -/
def halberdref01_Size.f (a0 : Int) : Option (Bool) := if a0 = 1 then (some true) else (if a0 = 2 then (some true) else (if a0 = 4 then (some true) else (some (a0 == 8))))
set_option maxHeartbeats 8000000 in
set_option maxRecDepth 100000 in
theorem halberdref01_Size.calls (a0 : Int) (r : Bool) (w : World) (h : halberdref01_Size.f a0 = some r) :
    Calls Try.prog 17 #[.int .i64 a0] w fun e w' => e = .returned (.bool r) ∧ Drawn0 w w' := by
  have H : (if a0 = 1 then (some true) else (if a0 = 2 then (some true) else (if a0 = 4 then (some true) else (some (a0 == 8))))) = some r := h
  clear h
  by_cases c2 : a0 = 1
  · rw [if_pos c2] at H
    have c2b0 : (a0 == 1) = true := beq_iff_eq.mpr c2
    have c2b1 : (a0 != 1) = false := bne_eq_false_iff_eq.mpr c2
    clear c2
    obtain rfl := Option.some.inj H
    go_enter Try.func17, Try.ntmps17
    go_wp2
    go_ret
    exact ⟨by first | rfl | (simp; done) | (simp [*]; done), by repeat (first | exact Drawn0.refl _ | apply Drawn0.step)⟩
  · rw [if_neg c2] at H
    have c2b0 : (a0 == 1) = false := beq_eq_false_iff_ne.mpr c2
    have c2b1 : (a0 != 1) = true := bne_iff_ne.mpr c2
    by_cases c3 : a0 = 2
    · rw [if_pos c3] at H
      have c3b0 : (a0 == 2) = true := beq_iff_eq.mpr c3
      have c3b1 : (a0 != 2) = false := bne_eq_false_iff_eq.mpr c3
      clear c3
      obtain rfl := Option.some.inj H
      go_enter Try.func17, Try.ntmps17
      go_wp2
      go_ret
      exact ⟨by first | rfl | (simp; done) | (simp [*]; done), by repeat (first | exact Drawn0.refl _ | apply Drawn0.step)⟩
    · rw [if_neg c3] at H
      have c3b0 : (a0 == 2) = false := beq_eq_false_iff_ne.mpr c3
      have c3b1 : (a0 != 2) = true := bne_iff_ne.mpr c3
      by_cases c4 : a0 = 4
      · rw [if_pos c4] at H
        have c4b0 : (a0 == 4) = true := beq_iff_eq.mpr c4
        have c4b1 : (a0 != 4) = false := bne_eq_false_iff_eq.mpr c4
        clear c4
        obtain rfl := Option.some.inj H
        go_enter Try.func17, Try.ntmps17
        go_wp2
        go_ret
        exact ⟨by first | rfl | (simp; done) | (simp [*]; done), by repeat (first | exact Drawn0.refl _ | apply Drawn0.step)⟩
      · rw [if_neg c4] at H
        have c4b0 : (a0 == 4) = false := beq_eq_false_iff_ne.mpr c4
        have c4b1 : (a0 != 4) = true := bne_iff_ne.mpr c4
        obtain rfl := Option.some.inj H
        go_enter Try.func17, Try.ntmps17
        go_wp2
        go_ret
        exact ⟨by first | rfl | (simp; done) | (simp [*]; done), by repeat (first | exact Drawn0.refl _ | apply Drawn0.step)⟩

/-! ### halberdref01_Power: function 18 -/
def halberdref01_Power.l0 : Nat → Int → Int → Int → Option (Int)
  | 0, _, _, _ => none
  | k + 1, x0, x3, x4 => if x4 < x0 then (halberdref01_Power.l0 k x0 (IntKind.u64.wrap (x3 * 2)) (wrap64 (x4 + 1))) else (some x3)
def halberdref01_Power.f (k : Nat) (a0 : Int) : Option (Int) := halberdref01_Power.l0 k a0 1 0
theorem halberdref01_Power.mono_l : ∀ k, (∀ y0 y1 y2, LeO (halberdref01_Power.l0 k y0 y1 y2) (halberdref01_Power.l0 (k + 1) y0 y1 y2))
  | 0 => fun _ _ _ r h => by simp [halberdref01_Power.l0] at h
  | k + 1 => by
    have ih0 := halberdref01_Power.mono_l k
    · intro y0 y1 y2
      unfold halberdref01_Power.l0
      repeat' first
      | (with_reducible exact ih0 _ _ _)
      | (with_reducible exact LeO.refl _)
      | (with_reducible exact LeO.none _)
      | (with_reducible refine LeO.ite ?_ ?_)
      | (with_reducible refine LeO.bind ?_ (fun _ => ?_))
      | exact ih0 _ _ _
      | exact LeO.none _
      | refine LeO.ite ?_ ?_
      | refine LeO.bind ?_ (fun _ => ?_)
theorem halberdref01_Power.mono : ∀ a0 k, LeO (halberdref01_Power.f k a0) (halberdref01_Power.f (k + 1) a0) := by
  intro a0 k
  have ih0 := halberdref01_Power.mono_l k
  unfold halberdref01_Power.f
  repeat' first
      | (with_reducible exact ih0 _ _ _)
      | (with_reducible exact LeO.refl _)
      | (with_reducible exact LeO.none _)
      | (with_reducible refine LeO.ite ?_ ?_)
      | (with_reducible refine LeO.bind ?_ (fun _ => ?_))
      | exact ih0 _ _ _
      | exact LeO.none _
      | refine LeO.ite ?_ ?_
      | refine LeO.bind ?_ (fun _ => ?_)
set_option maxHeartbeats 8000000 in
set_option maxRecDepth 100000 in
theorem halberdref01_Power.calls (k : Nat) (a0 : Int) (r : Int) (w : World) (h : halberdref01_Power.f k a0 = some r) :
    Calls Try.prog 18 #[.int .i64 a0] w fun e w' => e = .returned (.int .u64 r) ∧ Drawn0 w w' := by
  have H : (halberdref01_Power.l0 k a0 1 0) = some r := h
  clear h
  have H' := Aside0.mk H
  clear H
  go_enter Try.func18, Try.ntmps18
  go_wp2
  go_loopg [3, 4] k (fun kq v3 v4 w' => ∃ (x3_1 : Int) (x4_1 : Int), v3 = .int .u64 x3_1 ∧ v4 = .int .i64 x4_1 ∧ Aside0 (halberdref01_Power.l0 kq a0 x3_1 x4_1 = some r) ∧ Aside0 (kq ≤ k) ∧ Drawn0 w w')
  case atStart => exact ⟨(1), (0), (by first | rfl | (simp; done) | (simp [*]; done)), (by first | rfl | (simp; done) | (simp [*]; done)), H', ⟨Nat.le_refl _⟩, by repeat (first | exact Drawn0.refl _ | apply Drawn0.step)⟩
  case round =>
    clear H'
    try clear c1
    obtain ⟨x3_1, x4_1, rfl, rfl, HA, HK1, ⟨m1, rfl⟩⟩ := hrel
    cases gk with
    | zero => exact absurd HA.out (by simp [halberdref01_Power.l0])
    | succ k1 =>
      have H := HA.out
      clear HA
      simp only [halberdref01_Power.l0] at H
      by_cases c2 : x4_1 < a0
      · rw [if_pos c2] at H
        have c2b0 : decide (x4_1 < a0) = true := decide_eq_true c2
        clear c2
        have H' := Aside0.mk H
        clear H
        go_wp2
        go_roundg k1
        case measure => have := HK1.out; omega
        case rel => exact ⟨(IntKind.u64.wrap (x3_1 * 2)), (wrap64 (x4_1 + 1)), (by first | rfl | (simp; done) | (simp [*]; done)), (by first | rfl | (simp; done) | (simp [*]; done)), H', ⟨by have := HK1.out; omega⟩, by repeat (first | exact Drawn0.refl _ | apply Drawn0.step)⟩
      · rw [if_neg c2] at H
        have c2b0 : decide (x4_1 < a0) = false := decide_eq_false c2
        clear c2
        obtain rfl := Option.some.inj H
        go_wp2
        go_ret
        exact ⟨by first | rfl | (simp; done) | (simp [*]; done), by repeat (first | exact Drawn0.refl _ | apply Drawn0.step)⟩

/-! ### halberdref01_Sext: function 12 -/
def halberdref01_Sext.j0 : Nat → Int → Int → Bool → Option (Int)
  | 0, _, _, _ => none
  | k + 1, x0, x1, x12 => if x12 = true then (some x0) else ((halberdref01_Power.f k (wrap64 (8 * x1))).bind fun t121 => (if t121 = 0 then (none) else ((halberdref01_Power.f k (wrap64 ((wrap64 (8 * x1)) - 1))).bind fun t122 => (if (Int.tmod x0 t121) ≥ t122 then ((halberdref01_Power.f k (wrap64 (8 * x1))).bind fun t123 => (some (IntKind.u64.wrap ((Int.tmod x0 t121) - t123)))) else (some (Int.tmod x0 t121))))))
def halberdref01_Sext.f (k : Nat) (a0 : Int) (a1 : Int) : Option (Int) := (halberdref01_Size.f a1).bind fun t120 => (if t120 = true then (halberdref01_Sext.j0 k a0 a1 (a1 == 8)) else (halberdref01_Sext.j0 k a0 a1 true))
theorem halberdref01_Sext.mono_l : ∀ k, (∀ y0 y1 y2, LeO (halberdref01_Sext.j0 k y0 y1 y2) (halberdref01_Sext.j0 (k + 1) y0 y1 y2))
  | 0 => fun _ _ _ r h => by simp [halberdref01_Sext.j0] at h
  | k + 1 => by
    have ih0 := halberdref01_Sext.mono_l k
    · intro y0 y1 y2
      unfold halberdref01_Sext.j0
      repeat' first
      | (with_reducible exact ih0 _ _ _)
      | (with_reducible exact halberdref01_Power.mono _ _)
      | (with_reducible exact LeO.refl _)
      | (with_reducible exact LeO.none _)
      | (with_reducible refine LeO.ite ?_ ?_)
      | (with_reducible refine LeO.bind ?_ (fun _ => ?_))
      | exact ih0 _ _ _
      | exact halberdref01_Power.mono _ _
      | exact LeO.none _
      | refine LeO.ite ?_ ?_
      | refine LeO.bind ?_ (fun _ => ?_)
theorem halberdref01_Sext.mono : ∀ a0 a1 k, LeO (halberdref01_Sext.f k a0 a1) (halberdref01_Sext.f (k + 1) a0 a1) := by
  intro a0 a1 k
  have ih0 := halberdref01_Sext.mono_l k
  unfold halberdref01_Sext.f
  repeat' first
      | (with_reducible exact ih0 _ _ _)
      | (with_reducible exact halberdref01_Power.mono _ _)
      | (with_reducible exact LeO.refl _)
      | (with_reducible exact LeO.none _)
      | (with_reducible refine LeO.ite ?_ ?_)
      | (with_reducible refine LeO.bind ?_ (fun _ => ?_))
      | exact ih0 _ _ _
      | exact halberdref01_Power.mono _ _
      | exact LeO.none _
      | refine LeO.ite ?_ ?_
      | refine LeO.bind ?_ (fun _ => ?_)
set_option maxHeartbeats 8000000 in
set_option maxRecDepth 100000 in
theorem halberdref01_Sext.calls (k : Nat) (a0 : Int) (a1 : Int) (r : Int) (w : World) (h : halberdref01_Sext.f k a0 a1 = some r) :
    Calls Try.prog 12 #[.int .u64 a0, .int .i64 a1] w fun e w' => e = .returned (.int .u64 r) ∧ Drawn0 w w' := by
  have H : ((halberdref01_Size.f a1).bind fun t120 => (if t120 = true then (halberdref01_Sext.j0 k a0 a1 (a1 == 8)) else (halberdref01_Sext.j0 k a0 a1 true))) = some r := h
  clear h
  have HC3 := Aside0.mk H
  clear H
  go_enter Try.func12, Try.ntmps12
  go_upto_region 1 with (fail)
  go_cut [12] (fun v12 wc => ∃ (kq : Nat) (x12_2 : Bool), v12 = .bool x12_2 ∧ Aside0 (halberdref01_Sext.j0 kq a0 a1 x12_2 = some r) ∧ Aside0 (kq ≤ k) ∧ Drawn0 w wc)
  case first =>
    have H := HC3.out
    clear HC3
    replace H := Option.bind_eq_some_iff.mp H
    obtain ⟨t120, A40, H⟩ := H
    replace H : (if t120 = true then (halberdref01_Sext.j0 k a0 a1 (a1 == 8)) else (halberdref01_Sext.j0 k a0 a1 true)) = some r := H
    have A4 := Aside0.mk A40
    clear A40
    by_cases c5 : t120 = true
    · subst c5
      have H1 : (halberdref01_Sext.j0 k a0 a1 (a1 == 8)) = some r := by rw [if_pos rfl] at H; exact H
      clear H
      have H := H1
      clear H1
      have H' := Aside0.mk H
      clear H
      go_wp2_with (first | ((with_reducible refine gate_callee (f := 17) rfl ?_); refine goesL_ (some 7) rfl rfl Try.func17 (by kernel_rfl) rfl #[.int .i64 a1] rfl (by (try simp only [List.map_toArray, List.map_cons, List.map_nil]); first | done | rfl | (simp only [List.length_drop, List.length_take]; rfl)) ?_; (with_reducible refine (halberdref01_Size.calls a1 true _ A4.out).mono ?_); rintro e w' ⟨rfl, ⟨nd, rfl⟩⟩; refine ⟨_, rfl, ?_⟩))
      go_meet
      case rel => exact ⟨_, ((a1 == 8)), (by first | rfl | (simp; done) | (simp [*]; done)), H', ⟨by first | omega | exact Nat.le_refl _⟩, by repeat (first | exact Drawn0.refl _ | apply Drawn0.step)⟩
    · replace c5 := Bool.eq_false_iff.mpr c5
      subst c5
      have H1 : (halberdref01_Sext.j0 k a0 a1 true) = some r := by rw [if_neg (show ¬ (false = true) by decide)] at H; exact H
      clear H
      have H := H1
      clear H1
      have H' := Aside0.mk H
      clear H
      go_wp2_with (first | ((with_reducible refine gate_callee (f := 17) rfl ?_); refine goesL_ (some 7) rfl rfl Try.func17 (by kernel_rfl) rfl #[.int .i64 a1] rfl (by (try simp only [List.map_toArray, List.map_cons, List.map_nil]); first | done | rfl | (simp only [List.length_drop, List.length_take]; rfl)) ?_; (with_reducible refine (halberdref01_Size.calls a1 false _ A4.out).mono ?_); rintro e w' ⟨rfl, ⟨nd, rfl⟩⟩; refine ⟨_, rfl, ?_⟩))
      go_meet
      case rel => exact ⟨_, (true), (by first | rfl | (simp; done) | (simp [*]; done)), H', ⟨by first | omega | exact Nat.le_refl _⟩, by repeat (first | exact Drawn0.refl _ | apply Drawn0.step)⟩
  case rest =>
    clear HC3
    try clear c1
    try clear p2
    try clear c5
    obtain ⟨kq, x12_2, rfl, HA, HJ2, ⟨mc2, rfl⟩⟩ := hcut
    cases kq with
    | zero => exact absurd HA.out (by simp [halberdref01_Sext.j0])
    | succ kj2 =>
      have H := HA.out
      clear HA
      simp only [halberdref01_Sext.j0] at H
      by_cases c6 : x12_2 = true
      · subst c6
        have H1 : (some a0) = some r := by rw [if_pos rfl] at H; exact H
        clear H
        have H := H1
        clear H1
        obtain rfl := Option.some.inj H
        go_wp2
        go_ret
        exact ⟨by first | rfl | (simp; done) | (simp [*]; done), by repeat (first | exact Drawn0.refl _ | apply Drawn0.step)⟩
      · replace c6 := Bool.eq_false_iff.mpr c6
        subst c6
        have H1 : ((halberdref01_Power.f kj2 (wrap64 (8 * a1))).bind fun t121 => (if t121 = 0 then (none) else ((halberdref01_Power.f kj2 (wrap64 ((wrap64 (8 * a1)) - 1))).bind fun t122 => (if (Int.tmod a0 t121) ≥ t122 then ((halberdref01_Power.f kj2 (wrap64 (8 * a1))).bind fun t123 => (some (IntKind.u64.wrap ((Int.tmod a0 t121) - t123)))) else (some (Int.tmod a0 t121)))))) = some r := by rw [if_neg (show ¬ (false = true) by decide)] at H; exact H
        clear H
        have H := H1
        clear H1
        replace H := Option.bind_eq_some_iff.mp H
        obtain ⟨t121, A70, H⟩ := H
        replace H : (if t121 = 0 then (none) else ((halberdref01_Power.f kj2 (wrap64 ((wrap64 (8 * a1)) - 1))).bind fun t122 => (if (Int.tmod a0 t121) ≥ t122 then ((halberdref01_Power.f kj2 (wrap64 (8 * a1))).bind fun t123 => (some (IntKind.u64.wrap ((Int.tmod a0 t121) - t123)))) else (some (Int.tmod a0 t121))))) = some r := H
        have A7 := Aside0.mk A70
        clear A70
        by_cases c8 : t121 = 0
        · rw [if_pos c8] at H
          exact absurd H (by simp)
        · rw [if_neg c8] at H
          have c8b0 : (t121 == 0) = false := beq_eq_false_iff_ne.mpr c8
          have c8b1 : (t121 != 0) = true := bne_iff_ne.mpr c8
          replace H := Option.bind_eq_some_iff.mp H
          obtain ⟨t122, A90, H⟩ := H
          replace H : (if (Int.tmod a0 t121) ≥ t122 then ((halberdref01_Power.f kj2 (wrap64 (8 * a1))).bind fun t123 => (some (IntKind.u64.wrap ((Int.tmod a0 t121) - t123)))) else (some (Int.tmod a0 t121))) = some r := H
          have A9 := Aside0.mk A90
          clear A90
          by_cases c10 : (Int.tmod a0 t121) ≥ t122
          · rw [if_pos c10] at H
            have c10b0 : decide (t122 ≤ (Int.tmod a0 t121)) = true := decide_eq_true c10
            clear c10
            replace H := Option.bind_eq_some_iff.mp H
            obtain ⟨t123, A110, H⟩ := H
            replace H : (some (IntKind.u64.wrap ((Int.tmod a0 t121) - t123))) = some r := H
            have A11 := Aside0.mk A110
            clear A110
            obtain rfl := Option.some.inj H
            go_wp2_with (first | ((with_reducible refine gate_callee (f := 18) rfl ?_); refine goesL_ (some 17) rfl rfl Try.func18 (by kernel_rfl) rfl #[.int .i64 (wrap64 (8 * a1))] rfl (by (try simp only [List.map_toArray, List.map_cons, List.map_nil]); first | done | rfl | (simp only [List.length_drop, List.length_take]; rfl)) ?_; (with_reducible refine (halberdref01_Power.calls kj2 (wrap64 (8 * a1)) t121 _ A7.out).mono ?_); rintro e w' ⟨rfl, ⟨nd, rfl⟩⟩; refine ⟨_, rfl, ?_⟩) | ((with_reducible refine gate_callee (f := 18) rfl ?_); refine goesL_ (some 23) rfl rfl Try.func18 (by kernel_rfl) rfl #[.int .i64 (wrap64 ((wrap64 (8 * a1)) - 1))] rfl (by (try simp only [List.map_toArray, List.map_cons, List.map_nil]); first | done | rfl | (simp only [List.length_drop, List.length_take]; rfl)) ?_; (with_reducible refine (halberdref01_Power.calls kj2 (wrap64 ((wrap64 (8 * a1)) - 1)) t122 _ A9.out).mono ?_); rintro e w' ⟨rfl, ⟨nd, rfl⟩⟩; refine ⟨_, rfl, ?_⟩) | ((with_reducible refine gate_callee (f := 18) rfl ?_); refine goesL_ (some 28) rfl rfl Try.func18 (by kernel_rfl) rfl #[.int .i64 (wrap64 (8 * a1))] rfl (by (try simp only [List.map_toArray, List.map_cons, List.map_nil]); first | done | rfl | (simp only [List.length_drop, List.length_take]; rfl)) ?_; (with_reducible refine (halberdref01_Power.calls kj2 (wrap64 (8 * a1)) t123 _ A11.out).mono ?_); rintro e w' ⟨rfl, ⟨nd, rfl⟩⟩; refine ⟨_, rfl, ?_⟩))
            go_ret
            exact ⟨by first | rfl | (simp; done) | (simp [*]; done), by repeat (first | exact Drawn0.refl _ | apply Drawn0.step)⟩
          · rw [if_neg c10] at H
            have c10b0 : decide (t122 ≤ (Int.tmod a0 t121)) = false := decide_eq_false c10
            clear c10
            obtain rfl := Option.some.inj H
            go_wp2_with (first | ((with_reducible refine gate_callee (f := 18) rfl ?_); refine goesL_ (some 17) rfl rfl Try.func18 (by kernel_rfl) rfl #[.int .i64 (wrap64 (8 * a1))] rfl (by (try simp only [List.map_toArray, List.map_cons, List.map_nil]); first | done | rfl | (simp only [List.length_drop, List.length_take]; rfl)) ?_; (with_reducible refine (halberdref01_Power.calls kj2 (wrap64 (8 * a1)) t121 _ A7.out).mono ?_); rintro e w' ⟨rfl, ⟨nd, rfl⟩⟩; refine ⟨_, rfl, ?_⟩) | ((with_reducible refine gate_callee (f := 18) rfl ?_); refine goesL_ (some 23) rfl rfl Try.func18 (by kernel_rfl) rfl #[.int .i64 (wrap64 ((wrap64 (8 * a1)) - 1))] rfl (by (try simp only [List.map_toArray, List.map_cons, List.map_nil]); first | done | rfl | (simp only [List.length_drop, List.length_take]; rfl)) ?_; (with_reducible refine (halberdref01_Power.calls kj2 (wrap64 ((wrap64 (8 * a1)) - 1)) t122 _ A9.out).mono ?_); rintro e w' ⟨rfl, ⟨nd, rfl⟩⟩; refine ⟨_, rfl, ?_⟩))
            go_ret
            exact ⟨by first | rfl | (simp; done) | (simp [*]; done), by repeat (first | exact Drawn0.refl _ | apply Drawn0.step)⟩

/-! ### halberdref01_Load: function 13 -/
def halberdref01_Load.l0 : Nat → List Int → Int → Int → Int → Option (Int)
  | 0, _, _, _, _ => none
  | k + 1, x0, x1, x7, x8 => if x8 ≥ 0 then (if 0 ≤ (wrap64 (x1 + x8)) then (if (wrap64 (x1 + x8)) < (x0.length : Int) then (halberdref01_Load.l0 k x0 x1 (IntKind.u64.wrap ((IntKind.u64.wrap (256 * x7)) + (IntKind.u64.wrap (rd x0 (wrap64 (x1 + x8)))))) (wrap64 (x8 - 1))) else (none)) else (none)) else (some x7)
def halberdref01_Load.f (k : Nat) (l0 : List Int) (a1 : Int) (a2 : Int) : Option (Int) := halberdref01_Load.l0 k l0 a1 0 (wrap64 (a2 - 1))
theorem halberdref01_Load.mono_l : ∀ k, (∀ y0 y1 y2 y3, LeO (halberdref01_Load.l0 k y0 y1 y2 y3) (halberdref01_Load.l0 (k + 1) y0 y1 y2 y3))
  | 0 => fun _ _ _ _ r h => by simp [halberdref01_Load.l0] at h
  | k + 1 => by
    have ih0 := halberdref01_Load.mono_l k
    · intro y0 y1 y2 y3
      unfold halberdref01_Load.l0
      repeat' first
      | (with_reducible exact ih0 _ _ _ _)
      | (with_reducible exact LeO.refl _)
      | (with_reducible exact LeO.none _)
      | (with_reducible refine LeO.ite ?_ ?_)
      | (with_reducible refine LeO.bind ?_ (fun _ => ?_))
      | exact ih0 _ _ _ _
      | exact LeO.none _
      | refine LeO.ite ?_ ?_
      | refine LeO.bind ?_ (fun _ => ?_)
theorem halberdref01_Load.mono : ∀ a0 a1 a2 k, LeO (halberdref01_Load.f k a0 a1 a2) (halberdref01_Load.f (k + 1) a0 a1 a2) := by
  intro a0 a1 a2 k
  have ih0 := halberdref01_Load.mono_l k
  unfold halberdref01_Load.f
  repeat' first
      | (with_reducible exact ih0 _ _ _ _)
      | (with_reducible exact LeO.refl _)
      | (with_reducible exact LeO.none _)
      | (with_reducible refine LeO.ite ?_ ?_)
      | (with_reducible refine LeO.bind ?_ (fun _ => ?_))
      | exact ih0 _ _ _ _
      | exact LeO.none _
      | refine LeO.ite ?_ ?_
      | refine LeO.bind ?_ (fun _ => ?_)
set_option maxHeartbeats 8000000 in
set_option maxRecDepth 100000 in
theorem halberdref01_Load.calls (k : Nat) (A0 : Option Addr) (c0 : Nat) (l0 : List Int) (a1 : Int) (a2 : Int) (r : Int) (w : World) (hr0 : Kd.C (Kd.int .u8) w A0 l0.length l0) (hc0 : l0.length ≤ c0) (h : halberdref01_Load.f k l0 a1 a2 = some r) :
    Calls Try.prog 13 #[.slice A0 l0.length c0, .int .i64 a1, .int .i64 a2] w fun e w' => e = .returned (.int .u64 r) ∧ Drawn0 w w' := by
  have HR0 := Aside0.mk hr0
  have HC0 := Aside0.mk hc0
  clear hr0 hc0
  have H : (halberdref01_Load.l0 k l0 a1 0 (wrap64 (a2 - 1))) = some r := h
  clear h
  have H' := Aside0.mk H
  clear H
  go_enter Try.func13, Try.ntmps13
  go_wp2
  go_loopg [7, 8] k (fun kq v7 v8 w' => ∃ (x7_1 : Int) (x8_1 : Int), v7 = .int .u64 x7_1 ∧ v8 = .int .i64 x8_1 ∧ Aside0 (halberdref01_Load.l0 kq l0 a1 x7_1 x8_1 = some r) ∧ Aside0 (kq ≤ k) ∧ Drawn0 w w')
  case atStart => exact ⟨(0), (wrap64 (a2 - 1)), (by first | rfl | (simp; done) | (simp [*]; done)), (by first | rfl | (simp; done) | (simp [*]; done)), H', ⟨Nat.le_refl _⟩, by repeat (first | exact Drawn0.refl _ | apply Drawn0.step)⟩
  case round =>
    clear H'
    try clear c1
    try clear p2
    obtain ⟨x7_1, x8_1, rfl, rfl, HA, HK1, ⟨m1, rfl⟩⟩ := hrel
    cases gk with
    | zero => exact absurd HA.out (by simp [halberdref01_Load.l0])
    | succ k1 =>
      have H := HA.out
      clear HA
      simp only [halberdref01_Load.l0] at H
      by_cases c4 : x8_1 ≥ 0
      · rw [if_pos c4] at H
        have c4b0 : decide (0 ≤ x8_1) = true := decide_eq_true c4
        clear c4
        obtain ⟨ji5, hji5⟩ : ∃ j_ : Int, (wrap64 (a1 + x8_1)) = j_ := ⟨_, rfl⟩
        replace H : (if 0 ≤ (ji5) then (if (ji5) < (l0.length : Int) then (halberdref01_Load.l0 k1 l0 a1 (IntKind.u64.wrap ((IntKind.u64.wrap (256 * x7_1)) + (IntKind.u64.wrap (rd l0 (ji5))))) (wrap64 (x8_1 - 1))) else (none)) else (none)) = some r := by first | (rw [hji5] at H; exact H) | (simp only [hji5] at H ⊢; exact H)
        have hji5w : (IntKind.i64.wrap (a1 + x8_1)) = ji5 := (i64_w _).trans hji5
        by_cases c6 : 0 ≤ (ji5)
        · rw [if_pos c6] at H
          have c6b0 : decide (0 ≤ (ji5)) = true := decide_eq_true c6
          clear c6
          by_cases c7 : (ji5) < (l0.length : Int)
          · rw [if_pos c7] at H
            have c7b0 : decide ((ji5) < (l0.length : Int)) = true := decide_eq_true c7
            clear c7
            have H' := Aside0.mk H
            clear H
            have p124 : 0 ≤ ((ji5) : Int) := of_decide_eq_true (by first | (with_reducible assumption) | assumption)
            have q124 : (ji5) < (l0.length : Int) := of_decide_eq_true (by first | (with_reducible assumption) | assumption)
            obtain ⟨ad124, e124, hx124_0⟩ := Kd.at_int HR0.out (ji5) p124 q124
            cases e124
            replace p124 := eq_true p124
            replace q124 := eq_true q124
            go_wp2
            go_roundg k1
            case measure => have := HK1.out; omega
            case rel => exact ⟨(IntKind.u64.wrap ((IntKind.u64.wrap (256 * x7_1)) + (IntKind.u64.wrap (rd l0 (ji5))))), (wrap64 (x8_1 - 1)), (by first | rfl | (simp; done) | (simp only [← hji5] <;> (first | rfl | simp)) | (simp [*]; done)), (by first | rfl | (simp; done) | (simp [*]; done)), H', ⟨by have := HK1.out; omega⟩, by repeat (first | exact Drawn0.refl _ | apply Drawn0.step)⟩
          · rw [if_neg c7] at H
            exact absurd H (by simp)
        · rw [if_neg c6] at H
          exact absurd H (by simp)
      · rw [if_neg c4] at H
        have c4b0 : decide (0 ≤ x8_1) = false := decide_eq_false c4
        clear c4
        obtain rfl := Option.some.inj H
        go_wp2
        go_ret
        exact ⟨by first | rfl | (simp; done) | (simp [*]; done), by repeat (first | exact Drawn0.refl _ | apply Drawn0.step)⟩

end Go.Proofs.Ytjcmkognkbpfcaa.PInstReads
