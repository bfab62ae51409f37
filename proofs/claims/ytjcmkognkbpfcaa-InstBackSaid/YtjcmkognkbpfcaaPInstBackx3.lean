/- Functions of the program that some laws reach, as Lean functions, and proofs that the program's calls come to what they say: written by a program, for the texts that import it; each theorem bears its own conditions. -/
import Derived.Test.YtjcmkognkbpfcaaPInstBackx0
import Derived.Test.YtjcmkognkbpfcaaPInstBackx1
import Derived.Test.YtjcmkognkbpfcaaPInstBackx2
namespace Go.Proofs.Ytjcmkognkbpfcaa.PInstBack
open Go.RowKit Go.Proofs.YtjcmkognkbpfcaaW.PrintWords Go.Proofs.YtjcmkognkbpfcaaW.PrintLast Go.Proofs.YtjcmkognkbpfcaaW.PrintMore
attribute [local go_sem] max2_int min2_int max_two min_two max_three min_three max_four min_four   -- for this text's walks alone
set_option linter.unusedVariables false
set_option linter.unusedSimpArgs false

attribute [local go_sem high] eqA35
/-! ### inst_Read: function 6 -/
open Go.Proofs.Ev Go.Proofs.Hp Go.Proofs.Ck
attribute [local go_sem] eql_slice_nil
attribute [local go_sem] Oper.semAt_some
def icells : List S35 → List Value
  | [] => []
  | x :: l => .int .u8 x.f0 :: .int .u8 x.f1 :: .int .u8 x.f2 :: .int .i16 x.f3 :: .int .i32 x.f4 :: icells l
theorem icells_len : ∀ l : List S35, (icells l).length = l.length * 5
  | [] => rfl
  | x :: l => by simp only [icells, List.length_cons, icells_len l]; omega
theorem icells_app : ∀ l l' : List S35, icells (l ++ l') = icells l ++ icells l'
  | [], _ => rfl
  | x :: l, l' => by simp only [List.cons_append, icells, icells_app l l']
theorem RowOf.shapek {e : TypeId} {size : Nat} {R : Hl} {v : Value} {n : Nat} {xs : List Value} (h : RowOf e size R v n xs) : ∃ A c, v = .slice A n c := by
  rcases h.2 with ⟨rfl, rfl, _⟩ | ⟨g, cap, cur, rfl, _⟩
  · exact ⟨_, _, rfl⟩
  · exact ⟨_, _, rfl⟩
theorem RowOf.areCells {e : TypeId} {size : Nat} {R : Hl} {v : Value} {n : Nat} {xs : List Value} (h : RowOf e size R v n xs) : ∀ p ∈ R, p.2.isCells = true := by
  rcases h.2 with ⟨_, _, rfl⟩ | ⟨g, cap, cur, _, rfl, _⟩
  · intro p hp; cases hp
  · intro p hp
    rw [List.mem_singleton.1 hp]
    rfl
theorem icells_reps (w : World) (base : Nat) (ok : Nat → Prop) : ∀ l : List S35, Reps (Kd.M k35 w base ok) 5 l (icells l) := by
  intro l
  have h : ∀ (k : Nat), k ≤ l.length → Reps (Kd.M k35 w base ok) 5 (l.take k) (icells (l.take k)) := by
    intro k
    induction k with
    | zero => intro _; simp only [List.take_zero, icells]; exact Reps.none _ _
    | succ k ih =>
      intro hk
      have hk' : k < l.length := hk
      rw [List.take_succ_eq_append_getElem hk', icells_app]
      exact (ih (by omega)).snoc (k35_mkM w base ok l[k]) rfl
  have := h l.length (Nat.le_refl _)
  rw [List.take_length] at this
  exact this
theorem RowOf.toR {R : Hl} {v : Value} {n : Nat} {T : List S35} {w w' : World} {L : Hl} (h : RowOf 35 5 R v n (icells T)) (hn : T.length = n) (HO : Hp.Own w w' (R ++ L)) : Kd.R k35 35 w' w.heap.size (fun _ => True) v T := by
  refine ⟨fun _ _ => trivial, icells T, ?_, icells_reps _ _ _ _⟩
  rw [hn]
  obtain ⟨h1, ⟨h2, h3, _⟩ | ⟨g, cap, cur, h2, rfl, h3, h4, h5, h6⟩⟩ := h
  · subst h2 h3
    exact ⟨h1, .inl ⟨rfl, rfl⟩⟩
  · exact ⟨h1, .inr ⟨g, cap, cur, h2, HO.ge .head, HO.get .head, h3, h4, h5, h6⟩⟩
theorem own_initial {w0 W : World} {B L : Hl} (h : Hp.Own w0 W (B ++ L)) : Hp.Own w0 W B :=
  ⟨h.bel, fun p hp => h.blk p (List.mem_append_left _ hp), fun p hp => h.fresh p (List.mem_append_left _ hp), by have := h.nd; rw [List.map_append] at this; exact (List.nodup_append.1 this).1⟩
/-- The eight bytes of an instruction. -/
def ichunk (l0 : List Int) (i : Nat) : List Int := (l0.drop (8 * i)).take 8
/-- ... and what is read of them. -/
def inst_chunk (l0 : List Int) (i : Nat) : Option S35 :=
  (words_Load.f 20 (ichunk l0 i) 2 2).bind fun t => (words_Load.f 20 (ichunk l0 i) 4 4).bind fun u => some ⟨rd (ichunk l0 i) 0, Go.bits .and .u8 (rd (ichunk l0 i) 1) 15, rd (ichunk l0 i) 1 / 16, IntKind.i16.wrap t.1, wrap32 u.1⟩
def inst_chunks (l0 : List Int) : Nat → Option (List S35)
  | 0 => some []
  | q + 1 => (inst_chunks l0 q).bind fun t => (inst_chunk l0 q).bind fun x => some (t ++ [x])
theorem inst_chunks_at (l0 : List Int) : ∀ (q : Nat) (T : List S35), inst_chunks l0 q = some T → T.length = q ∧ ∀ i, i < q → ∃ x, inst_chunk l0 i = some x ∧ T[i]? = some x
  | 0, T, h => by
    simp only [inst_chunks, Option.some.injEq] at h
    subst h
    exact ⟨rfl, fun i hi => absurd hi (Nat.not_lt_zero _)⟩
  | q + 1, T, h => by
    unfold inst_chunks at h
    rw [Option.bind_eq_some_iff] at h
    obtain ⟨t, h1, h2⟩ := h
    rw [Option.bind_eq_some_iff] at h2
    obtain ⟨x, h3, h4⟩ := h2
    simp only [Option.some.injEq] at h4
    subst h4
    obtain ⟨k1, k2⟩ := inst_chunks_at l0 q t h1
    refine ⟨by rw [List.length_append, k1]; rfl, fun i hi => ?_⟩
    by_cases he : i = q
    · subst he
      exact ⟨x, h3, by rw [List.getElem?_append_right (by omega), k1]; simp⟩
    · obtain ⟨y, e1, e2⟩ := k2 i (by omega)
      exact ⟨y, e1, by rw [List.getElem?_append_left (by omega)]; exact e2⟩
theorem load8 (A : Option Addr) (xs : List Int) (hl : xs.length = 8) (a s t : Int) (b : Bool) (w : World) (hr : Kd.C (Kd.int .u8) w A 8 xs) (h : words_Load.f 20 xs a s = some (t, b)) :
    Calls Try.prog 11 #[.slice A 8 8, .int .i64 a, .int .i64 s] w fun e w' => e = .returned (.tuple #[.int .u64 t, .bool b]) ∧ Drawn0 w w' := by
  have := words_Load.calls 20 A 8 xs a s t b w (by rw [hl]; exact hr) (by omega) h
  rw [hl] at this
  exact this
set_option maxHeartbeats 8000000 in
set_option maxRecDepth 100000 in
theorem read_ok (w : World) (ad : Addr) (l0 : List Int) (m cap q : Nat) (hm : m = 8 * q) (hl : l0.length = m) (hq : 1 ≤ q ∧ q ≤ 64) (hcap : m ≤ cap) (hr0 : Kd.C (Kd.int .u8) w (some ad) m l0) (T : List S35) (hT : inst_chunks l0 q = some T) :
    CallsIn Fence.wide 6 Try.prog 6 #[.slice (some ad) m cap] w fun e w' => ∃ v, e = .returned (.tuple #[v, .int .i64 0]) ∧ ∃ R, RowOf 35 5 R v q (icells T) ∧ Hp.Own w w' R := by
  have hui := Try.underlying3
  have hul := Try.underlying22
  have hu8 := Try.underlying5
  have huis := Try.underlying24
  have HM := Aside0.mk hm
  have HL := Aside0.mk hl
  have HQ := Aside0.mk hq
  have HCAP := Aside0.mk hcap
  have HDAT := Aside0.mk hr0
  have HT := Aside0.mk (inst_chunks_at l0 q T hT)
  have z1 : ((m : Int) == 0) = false := beq_eq_false_iff_ne.mpr (by omega)
  have z2 : ((m : Int) = 0) = False := eq_false (by omega)
  have z3 : (m == 0) = false := beq_eq_false_iff_ne.mpr (by omega)
  have z4 : (m = 0) = False := eq_false (by omega)
  have z5 : Int.tmod (m : Int) 8 = 0 := by rw [Int.tmod_eq_emod_of_nonneg (by omega)]; omega
  have z6 : decide (512 < (m : Int)) = false := decide_eq_false (by omega)
  have z7 : decide (512 < m) = false := decide_eq_false (by omega)
  clear hm hl hq hcap hr0 hT
  refine callsIn_of_wp_marks Try.func6 rfl trivial ?_ rfl
  simp only [Try.ntmps6, List.size_toArray, List.length_cons, List.length_nil, Nat.reduceAdd, Nat.reduceSub, Array.replicate_succ, Array.replicate_zero, List.push_toArray, List.append_toArray, List.nil_append, List.cons_append]
  gi_wp2_with (refine ⟨trivial, ?_⟩; gi_at_call 10; refine (callsIn_wide.2 (chunk_calls _ (some ad) m cap)).mono ?_; rintro e wx ⟨Bs, Bn, rfl, hO_⟩; dsimp only)
  have HO0 : Hp.Own w wx ((w.heap.size, .cells #[.slice none 0 0] 24 (0, 0)) :: [(Bn, .cells #[.int .i64 8] 3 (0, 0)), (Bs, .cells #[.slice (some ad) m cap] 22 (0, 0))]) := Hp.Own.join (L := [(w.heap.size, .cells #[.slice none 0 0] 24 (0, 0))]) ((Hp.Own.refl w).alloc _) hO_
  clear hO_
  have hsz : w.heap.size ≤ w.heap.size := Nat.le_refl _
  have hlow := HO0.bel.size
  generalize hg : w.heap.size = gout at HO0 ⊢
  obtain ⟨BX, hBX⟩ : ∃ BX : Hl, BX = [(Bn, .cells #[.int .i64 8] 3 (0, 0)), (Bs, .cells #[.slice (some ad) m cap] 22 (0, 0))] := ⟨_, rfl⟩
  have HBXC : Aside0 (∀ p ∈ BX, p.2.isCells = true) := ⟨fun p hp => by rw [hBX] at hp; simp only [List.mem_cons, List.not_mem_nil, or_false] at hp; rcases hp with rfl | rfl <;> rfl⟩
  have HBXN : Aside0 ((Bn, Obj.cells #[.int .i64 8] 3 (0, 0)) ∈ BX) := ⟨by rw [hBX]; simp⟩
  have HBXS : Aside0 ((Bs, Obj.cells #[.slice (some ad) m cap] 22 (0, 0)) ∈ BX) := ⟨by rw [hBX]; simp⟩
  have hbs : Bs < wx.heap.size := blk_lt (HO0.get (.tail (.tail .head)))
  have hbn : Bn < wx.heap.size := blk_lt (HO0.get (.tail .head))
  have hcs : wx.cell? ⟨Bs, 0, none⟩ = some (.slice (some ad) m cap) := (HO0.cell (.tail (.tail .head)) 0).trans rfl
  have hcn : wx.cell? ⟨Bn, 0, none⟩ = some (.int .i64 8) := (HO0.cell (.tail .head) 0).trans rfl
  rw [← hBX] at HO0
  refine wpIn_rangeFunc_ownF (F := Fence.wide) (n := 6) rfl (by decide) (gf := 15) (lb := #[.pointer (some ⟨Bs, 0, none⟩), .pointer (some ⟨Bn, 0, none⟩)]) rfl trivial (enters_of Try.func15 (by kernel_rfl) rfl) (chunk_stops 5 (by decide) Bs Bn ad q m cap HM.out HCAP.out HQ.out.2 wx hbs hbn hcs hcn) (fun h k => h.trans k) (Keep2.b hbs hbn) (Below.refl _ _) (fun _ => rfl)
    (fun pre W => ∃ (A : Option Addr) (c : Nat) (RR : Hl), RowOf 35 5 RR (.slice A pre.length c) pre.length (icells (pre.map fun x : Fin q => T.getD x.val z35)) ∧ Hp.Own w W ((gout, .cells #[.slice A pre.length c] 24 (0, 0)) :: (RR ++ BX)))
    (fun _ _ _ => False) ?hI (fun _ _ _ _ _ h _ _ => h) ⟨none, 0, [], RowOf.none _ _, HO0⟩ ?a1 ?assign ?body ?done ?stop
  case hI =>
    rintro pre W W' row ⟨A, c, RR, hrow, hO⟩ hg' hr
    refine ⟨A, c, RR, hrow, hO.grown hg' (fun r e => ⟨by have := (hr r e).1; omega, (hr r e).2⟩) fun p hp => ?_⟩
    rcases List.mem_cons.1 hp with rfl | hp
    · rfl
    · rcases List.mem_append.1 hp with hp | hp
      · exact RowOf.areCells hrow p hp
      · exact HBXC.out p hp
  case stop => exact fun _ _ _ _ _ _ h => h.elim
  case assign =>
    intro l x W K hK
    gi_wp2
    exact hK
  case body =>
    rintro l pre x W ⟨A, c, RR, hrow, hO⟩ hlen
    have HR := Aside0.mk hrow
    have HO := Aside0.mk hO
    have HLN := Aside0.mk hlen
    obtain ⟨y, hy1, hy2⟩ := HT.out.2 x.val x.isLt
    unfold inst_chunk at hy1
    rw [Option.bind_eq_some_iff] at hy1
    obtain ⟨⟨t1, bb1⟩, ht1, hy1⟩ := hy1
    rw [Option.bind_eq_some_iff] at hy1
    obtain ⟨⟨t2, bb2⟩, ht2, hy1⟩ := hy1
    simp only [Option.some.injEq] at hy1
    have HCL : Aside0 ((ichunk l0 x.val).length = 8) := ⟨by unfold ichunk; rw [List.length_take, List.length_drop, HL.out, HM.out]; have := x.isLt; omega⟩
    have HCH : Aside0 (Kd.C (Kd.int .u8) w (some (ad.add (8 * x.val))) 8 (ichunk l0 x.val)) := ⟨C_sub HDAT.out (8 * x.val) 8 (by rw [HM.out]; have := x.isLt; omega)⟩
    have HT1 := Aside0.mk ht1
    have HT2 := Aside0.mk ht2
    have HYT : Aside0 (T.getD x.val z35 = y) := ⟨by rw [List.getD_eq_getElem?_getD, hy2]; rfl⟩
    generalize ad.add (8 * x.val) = ad8 at HCH ⊢
    have HB : Aside0 (∀ j : Nat, j < 8 → ∀ w', Below w.heap.size w w' → w'.cell? (ad8.add j) = some (.int .u8 (rd (ichunk l0 x.val) (j : Int)))) := ⟨fun j hj w' hb => by
      obtain ⟨ad', e, hc⟩ := Kd.at_int (Kd.C_below HCH.out hb) (j : Int) (by omega) (by omega)
      cases e
      exact hc⟩
    have HB0 := Aside0.mk (HB.out 0 (by decide))
    have HB1 := Aside0.mk (HB.out 1 (by decide))
    obtain ⟨b0, hb0⟩ : ∃ b0 : Int, rd (ichunk l0 x.val) ((0 : Nat) : Int) = b0 := ⟨_, rfl⟩
    obtain ⟨b1, hb1⟩ : ∃ b1 : Int, rd (ichunk l0 x.val) ((1 : Nat) : Int) = b1 := ⟨_, rfl⟩
    rw [hb0] at HB0
    rw [hb1] at HB1
    have HY : Aside0 ((⟨b0, Go.bits .and .u8 b1 15, b1 / 16, IntKind.i16.wrap t1, wrap32 t2⟩ : S35) = y) := ⟨by rw [← hy1, ← hb0, ← hb1]; rfl⟩
    have HK := Aside0.mk (KeepsOthers.refl W)
    have HBW : Aside0 (∀ p ∈ BX, W.heap[p.1]? = some p.2) := ⟨fun p hp => HO.out.blk p (List.mem_cons_of_mem _ (List.mem_append_right _ hp))⟩
    clear hrow hO hlen hy1 hy2 ht1 ht2 hb0 hb1 HB
    gi_wp2
    refine ⟨trivial, ?_⟩
    refine CallsIn.mono (CallsIn.inRound l (callsIn_wide.2 (load8 (some ad8) (ichunk l0 x.val) HCL.out 2 2 t1 bb1 _ (Kd.C_below HCH.out HO.out.bel) HT1.out))) ?_
    rintro e wk ⟨rfl, hd_⟩
    have HK := Aside0.mk (HK.out.trans (keeps_below (Drawn0.below hd_)))
    have hO_ := HO.out.below (Drawn0.below hd_)
    clear hd_
    clear HO; have HO := Aside0.mk hO_; clear hO_
    dsimp only
    gi_wp2
    refine ⟨trivial, ?_⟩
    refine CallsIn.mono (CallsIn.inRound l (callsIn_wide.2 (load8 (some ad8) (ichunk l0 x.val) HCL.out 4 4 t2 bb2 _ (Kd.C_below HCH.out HO.out.bel) HT2.out))) ?_
    rintro e wk ⟨rfl, hd_⟩
    have HK := Aside0.mk (HK.out.trans (keeps_below (Drawn0.below hd_)))
    have hO_ := HO.out.below (Drawn0.below hd_)
    clear hd_
    clear HO; have HO := Aside0.mk hO_; clear hO_
    dsimp only
    gi_wp2
    refine start_in (l := l) (m := 20) (S := fun W => Hp.Own w W ((gout, .cells #[.slice A pre.length c] 24 (0, 0)) :: [])) (ds := [19]) #[false, false, false, false, false, false, false, false, false, false, false, false, false, false, false, false, false, false, false, false] (by kernel_rfl) (by rintro ⟨a, w, hv⟩; exact hv) (by kernel_rfl) rfl rfl (Hp.Own.drew (HO.out.picks (.cons (by (repeat (first | exact .head | apply Ext.tail))) (.nil)))) (fun hHeld => ?_)
    have HO_ := Aside0.mk HO.out.drew
    clear HO
    have HO := HO_
    clear HO_
    have HK := Aside0.mk (HK.out.trans (KeepsOthers.drew _))
    generalize World.drew _ = wr at HO HK hHeld ⊢
    refine take_ (i := 0) (N := some 37) (v := .slice A pre.length c) (a' := ?_) (Hp.up 20 1) rfl rfl (by kernel_rfl) (fun _ _ _ h => h) (own_yield1 (by rfl) (x := .tmp 4) rfl (by rfl) (.head) Try.underlying24 (by rfl) (by rfl)) hHeld ?_ ?_
    rotate_left
    · simp only [Act.put, List.setIfInBounds_toArray, List.set_cons_zero, List.set_cons_succ, i64_w, i32_w]
      rfl
    refine Hp.pu_ 1 38 (Hp.up 20 2) ?_
    refine Hp.pu_ 2 39 (Hp.up 20 3) ?_
    refine take_ (i := 3) (N := some 40) (v := .int .u8 b0) (a' := ?_) (Hp.up 20 4) rfl rfl (by kernel_rfl) (fun _ _ _ h => h) (Or.inl ⟨by rfl, fun w' hS => old_loadk rfl (by rfl) hu8 rfl (HB0.out w' hS.bel)⟩) hHeld ?_ ?_
    rotate_left
    · simp only [Act.put, List.setIfInBounds_toArray, List.set_cons_zero, List.set_cons_succ, i64_w, i32_w]
      rfl
    refine Hp.pu_ 4 41 (Hp.up 20 5) ?_
    refine Hp.pu_ 5 42 (Hp.up 20 6) ?_
    refine take_ (i := 6) (N := some 43) (v := .int .u8 b1) (a' := ?_) (Hp.up 20 7) rfl rfl (by kernel_rfl) (fun _ _ _ h => h) (Or.inl ⟨by rfl, fun w' hS => old_loadk rfl (by rfl) hu8 rfl (HB1.out w' hS.bel)⟩) hHeld ?_ ?_
    rotate_left
    · simp only [Act.put, List.setIfInBounds_toArray, List.set_cons_zero, List.set_cons_succ, i64_w, i32_w]
      rfl
    refine Hp.pu_ 7 44 (Hp.up 20 8) ?_
    refine Hp.pu_ 8 45 (Hp.up 20 9) ?_
    refine Hp.pu_ 9 46 (Hp.up 20 10) ?_
    refine take_ (i := 10) (N := some 47) (v := .int .u8 b1) (a' := ?_) (Hp.up 20 11) rfl rfl (by kernel_rfl) (fun _ _ _ h => h) (Or.inl ⟨by rfl, fun w' hS => old_loadk rfl (by rfl) hu8 rfl (HB1.out w' hS.bel)⟩) hHeld ?_ ?_
    rotate_left
    · simp only [Act.put, List.setIfInBounds_toArray, List.set_cons_zero, List.set_cons_succ, i64_w, i32_w]
      rfl
    refine Hp.pu_ 11 48 (Hp.up 20 12) ?_
    refine Hp.pu_ 12 49 (Hp.up 20 13) ?_
    refine Hp.pu_ 13 50 (Hp.up 20 14) ?_
    refine Hp.pu_ 14 51 (Hp.up 20 15) ?_
    refine Hp.pu_ 15 52 (Hp.up 20 16) ?_
    refine Hp.pu_ 16 53 (Hp.up 20 17) ?_
    refine one_ (i := 17) (N := some 54) (Hp.up 20 18) rfl rfl (by kernel_rfl) (by decide) (fun K hK => ?_)
    refine own_lit_kK HO.out (by rfl) (N := 54) rfl (cs := #[.int .u8 b0, .int .u8 (Go.bits .and .u8 b1 15), .int .u8 (b1 / 16), .int .i16 (IntKind.i16.wrap t1), .int .i32 (wrap32 t2)]) (t := 35) (n := 1) (m := 1) (by first | (go_simp; done) | (go_simp; rfl) | kernel_rfl) ?_
    intro g54 w54 hO_ hk_
    have HK := Aside0.mk (HK.out.trans hk_)
    clear hk_
    clear HO; have HO := Aside0.mk hO_; clear hO_
    refine hK.out _ _ (HO.out.picks (.cons (by (repeat (first | exact .head | apply Ext.tail))) (.nil))) (fun hHeld => ?_)
    clear hK K
    refine norm_ (a' := ?_) ?_ ?_
    rotate_left
    · show Act.put _ (some 54) _ = _
      simp only [Act.put, List.setIfInBounds_toArray, List.set_cons_zero, List.set_cons_succ, i64_w, i32_w]
      rfl
    refine one_ (i := 18) (N := some 55) (Hp.up 20 19) rfl rfl (by kernel_rfl) (by decide) (fun K hK => ?_)
    refine own_append_kK (z := .agg #[.int .u8 0, .int .u8 0, .int .u8 0, .int .i16 0, .int .i32 0]) (size := 5) (bytes := 12) (R := RR) (L := BX) [(g54, .cells #[.int .u8 b0, .int .u8 (Go.bits .and .u8 b1 15), .int .u8 (b1 / 16), .int .i16 (IntKind.i16.wrap t1), .int .i32 (wrap32 t2)] 35 (0, 0)), (gout, .cells #[.slice A pre.length c] 24 (0, 0))] HO.out (by rfl) (N := 55) rfl rfl huis (by kernel_rfl) rfl (by rfl) HR.out (by rfl) (HO.out.src huis .head 0 1 1 [.int .u8 b0, .int .u8 (Go.bits .and .u8 b1 15), .int .u8 (b1 / 16), .int .i16 (IntKind.i16.wrap t1), .int .i32 (wrap32 t2)] rfl rfl (by simp [Value.oneCell'])) (by have := HQ.out; have := HLN.out; show pre.length + 1 ≤ 9223372036854775807; omega) (by have := HQ.out; have := HLN.out; omega) ?_
    intro v2 R2 wc hR2 hO_ hk_
    obtain ⟨A2, c2, rfl⟩ := RowOf.shapek hR2
    have HR2 := Aside0.mk hR2
    clear hR2
    have HK := Aside0.mk (HK.out.trans hk_)
    clear hk_
    have hO_ : Hp.Own w wc ((g54, .cells #[.int .u8 b0, .int .u8 (Go.bits .and .u8 b1 15), .int .u8 (b1 / 16), .int .i16 (IntKind.i16.wrap t1), .int .i32 (wrap32 t2)] 35 (0, 0)) :: (gout, .cells #[.slice A pre.length c] 24 (0, 0)) :: (R2 ++ BX)) := hO_
    clear HO; have HO := Aside0.mk hO_; clear hO_
    refine hK.out _ _ (HO.out.picks (.cons (by (repeat (first | exact .head | apply Ext.tail))) (.nil))) (fun hHeld => ?_)
    clear hK K
    refine norm_ (a' := ?_) ?_ ?_
    rotate_left
    · show Act.put _ (some 55) _ = _
      simp only [Act.put, List.setIfInBounds_toArray, List.set_cons_zero, List.set_cons_succ, i64_w, i32_w]
      rfl
    refine last_ (i := 19) (N := none) (Hp.up 20 20) rfl rfl (by kernel_rfl) (by decide) (fun K hK => ?_)
    refine own_store_kK HO.out (by rfl) rfl (ty := 24) (x := .tmp 4) (y := .tmp 55) (v := .slice A2 (pre.length + 1) c2) (cs' := #[.slice A2 (pre.length + 1) c2]) rfl (by rfl) (by rfl) (.tail .head) (by kernel_rfl) (by rfl) (by simp) (by rfl) ?_
    intro wc hO_ hk_
    have HK := Aside0.mk (HK.out.trans hk_)
    clear hk_
    clear HO; have HO := Aside0.mk hO_; clear hO_
    refine hK.out _ _ ?_
    clear hK K
    refine done_ (by kernel_rfl) ?_
    clear hHeld
    have hL : ∀ p ∈ BX, p ∈ ((gout, Obj.cells #[Value.slice A2 (pre.length + 1) c2] 24 (0, 0)) :: (g54, .cells #[.int .u8 b0, .int .u8 (Go.bits .and .u8 b1 15), .int .u8 (b1 / 16), .int .i16 (IntKind.i16.wrap t1), .int .i32 (wrap32 t2)] 35 (0, 0)) :: (R2 ++ BX)) := fun p hp => List.mem_cons_of_mem _ (List.mem_cons_of_mem _ (List.mem_append_right _ hp))
    have hL0 : ∀ p ∈ BX, W.heap[p.1]? = some p.2 := HBW.out
    have hO2 : Hp.Own w wc ((gout, Obj.cells #[Value.slice A2 (pre.length + 1) c2] 24 (0, 0)) :: (R2 ++ BX)) := (HO.out.perm (List.Perm.swap _ _ _)).drop
    refine ⟨HK.out, ⟨(HO.out.blk _ (hL _ HBXS.out)).trans (hL0 _ HBXS.out).symm, (HO.out.blk _ (hL _ HBXN.out)).trans (hL0 _ HBXN.out).symm⟩, A2, c2, R2, ?_, ?_⟩
    · rw [List.length_append, List.map_append, icells_app]
      have := HR2.out
      rw [← HYT.out] at HY
      have e : icells ([x].map fun x : Fin q => T.getD x.val z35) = [.int .u8 b0, .int .u8 (Go.bits .and .u8 b1 15), .int .u8 (b1 / 16), .int .i16 (IntKind.i16.wrap t1), .int .i32 (wrap32 t2)] := by
        simp only [List.map_cons, List.map_nil]
        rw [← HY.out]
        rfl
      rw [e]
      exact this
    · rw [List.length_append]
      exact hO2
  case done =>
    rintro D ys W hD hS ⟨A, c, RR, hrow, hO⟩ hK
    have HR := Aside0.mk hrow
    have HO := Aside0.mk hO
    have HS := Aside0.mk hS
    have HD := Aside0.mk hD
    have hg0 := (hO.cell .head 0).trans rfl
    clear hrow hO hS hD
    gi_wp2
    have hyl : ys.length = q := by have e := congrArg List.length HS.out; rw [List.length_map, List.length_range] at e; exact e
    have hyT : ys.map (fun x : Fin q => T.getD x.val z35) = T := by
      have e : ys.map (fun x : Fin q => T.getD x.val z35) = (ys.map (·.val)).map (fun i => T.getD i z35) := by rw [List.map_map]; rfl
      rw [e, HS.out]
      apply List.ext_getElem
      · rw [List.length_map, List.length_range, HT.out.1]
      · intro i h1 h2
        simp [List.getD_eq_getElem?_getD, List.getElem?_eq_getElem h2]
    refine ⟨by simp, .inl ⟨_, _, rfl, run_takeDeferred hK, ?_⟩⟩
    refine ⟨_, results_tmp2 rfl _ _ _, _, rfl, RR, ?_, ?_⟩
    · have := HR.out
      rw [hyT, hyl] at this
      rw [hyl]
      exact this
    · have h1 := own_initial HO.out.drop
      exact h1.grown (grownBy_putObj' W D _) (fun r e => by cases e; exact ⟨by have := HD.out; omega, _, hK, rfl⟩) (RowOf.areCells HR.out)
def inst_Read.f (k : Nat) (l0 : List Int) : Option (List S35 × Int) := if l0.length = 0 ∨ l0.length % 8 ≠ 0 ∨ 512 < l0.length then some ([], 22) else (inst_chunks l0 (l0.length / 8)).bind fun t => some (t, 0)
theorem inst_Read.mono : ∀ a0 k, LeO (inst_Read.f k a0) (inst_Read.f (k + 1) a0) := fun _ _ _ h => h
set_option maxHeartbeats 8000000 in
set_option maxRecDepth 100000 in
theorem read_bad (w : World) (A : Option Addr) (n c : Nat) (h : n = 0 ∨ n % 8 ≠ 0 ∨ 512 < n) : Calls Try.prog 6 #[.slice A n c] w fun e w' => e = .returned (.tuple #[.slice none 0 0, .int .i64 22]) ∧ w' = w := by
  have ht : Int.tmod (n : Int) 8 = ((n % 8 : Nat) : Int) := by rw [Int.tmod_eq_emod_of_nonneg (by omega)]; omega
  obtain ⟨d, hd⟩ : ∃ d : Nat, d = n % 8 := ⟨_, rfl⟩
  rw [← hd] at ht h
  by_cases h0 : n = 0
  · subst h0
    clear h ht hd
    go_enter Try.func6, Try.ntmps6
    go_wp2
    refine bodyPost_ret (results_tmp2 rfl _ _ _) rfl ?_
    exact ⟨rfl, rfl⟩
  · have z1 : ((n : Int) == 0) = false := beq_eq_false_iff_ne.mpr (by omega)
    have z2 : ((n : Int) = 0) = False := eq_false (by omega)
    have z3 : (n == 0) = false := beq_eq_false_iff_ne.mpr h0
    have z4 : (n = 0) = False := eq_false h0
    by_cases h1 : d = 0
    · have z6 : decide (512 < (n : Int)) = true := decide_eq_true (by omega)
      have z7 : decide (512 < n) = true := decide_eq_true (by omega)
      have z8 : (512 < (n : Int)) = True := eq_true (by omega)
      have z9 : (512 < n) = True := eq_true (by omega)
      subst h1
      clear h h0 hd
      go_enter Try.func6, Try.ntmps6
      go_wp2
      refine bodyPost_ret (results_tmp2 rfl _ _ _) rfl ?_
      exact ⟨rfl, rfl⟩
    · have y1 : ((d : Int) == 0) = false := beq_eq_false_iff_ne.mpr (by omega)
      have y2 : ((d : Int) = 0) = False := eq_false (by omega)
      have y3 : (d = 0) = False := eq_false h1
      have y4 : (d == 0) = false := beq_eq_false_iff_ne.mpr h1
      clear h h0 h1 hd
      go_enter Try.func6, Try.ntmps6
      go_wp2
      refine bodyPost_ret (results_tmp2 rfl _ _ _) rfl ?_
      exact ⟨rfl, rfl⟩
set_option maxHeartbeats 8000000 in
set_option maxRecDepth 100000 in
theorem inst_Read.calls (k : Nat) (A0 : Option Addr) (c0 : Nat) (l0 : List Int) (r1 : List S35) (r2 : Int) (w : World) (hr0 : Kd.C (Kd.int .u8) w A0 l0.length l0) (hc0 : l0.length ≤ c0) (h : inst_Read.f k l0 = some (r1, r2)) :
    Calls Try.prog 6 #[.slice A0 l0.length c0] w fun e w' => ∃ v0_ : Value, e = .returned (.tuple #[v0_, .int .i64 r2]) ∧ Kd.R k35 35 w' w.heap.size (fun _ => True) v0_ r1 ∧ Below w.heap.size w w' := by
  unfold inst_Read.f at h
  split at h
  · rename_i hc
    simp only [Option.some.injEq, Prod.mk.injEq] at h
    obtain ⟨rfl, rfl⟩ := h
    refine (read_bad w A0 l0.length c0 hc).mono ?_
    rintro e w' ⟨rfl, rfl⟩
    exact ⟨_, rfl, Kd.R_nil _ _ _ _ _, Below.refl _ _⟩
  · rename_i hc
    rw [Option.bind_eq_some_iff] at h
    obtain ⟨T, hT, h2⟩ := h
    simp only [Option.some.injEq, Prod.mk.injEq] at h2
    obtain ⟨rfl, rfl⟩ := h2
    obtain ⟨ad, rfl, _⟩ := Kd.at_int hr0 0 (by decide) (by omega)
    refine (callsIn_wide.1 (read_ok w ad l0 l0.length c0 (l0.length / 8) (by omega) rfl (by omega) hc0 hr0 T hT)).mono ?_
    rintro e w' ⟨v, rfl, R, hR, hO⟩
    have hO' : Hp.Own w w' (R ++ []) := by rw [List.append_nil]; exact hO
    exact ⟨v, rfl, RowOf.toR hR (inst_chunks_at l0 _ T hT).1 hO', hO.bel⟩


/-! ### halberdref02_Same: function 8 -/
def halberdref02_Same.l0 : Nat → List (S35) → List (S35) → Int → Option (Bool)
  | 0, _, _, _ => none
  | k + 1, x0, x1, x5 => if x5 < (x0.length : Int) then (if 0 ≤ x5 then (if x5 < (x1.length : Int) then (if (!(((rd_T35 x0 x5).f0) == ((rd_T35 x1 x5).f0)) || (!(((rd_T35 x0 x5).f1) == ((rd_T35 x1 x5).f1)) || (!(((rd_T35 x0 x5).f2) == ((rd_T35 x1 x5).f2)) || (!(((rd_T35 x0 x5).f3) == ((rd_T35 x1 x5).f3)) || (!(((rd_T35 x0 x5).f4) == ((rd_T35 x1 x5).f4))))))) = true then (some false) else (halberdref02_Same.l0 k x0 x1 (wrap64 (x5 + 1)))) else (none)) else (none)) else (some true)
def halberdref02_Same.f (k : Nat) (l0 : List (S35)) (l1 : List (S35)) : Option (Bool) := if (l0.length : Int) = (l1.length : Int) then (halberdref02_Same.l0 k l0 l1 0) else (some false)
theorem halberdref02_Same.mono_l : ∀ k, (∀ y0 y1 y2, LeO (halberdref02_Same.l0 k y0 y1 y2) (halberdref02_Same.l0 (k + 1) y0 y1 y2))
  | 0 => fun _ _ _ r h => by simp [halberdref02_Same.l0] at h
  | k + 1 => by
    have ih0 := halberdref02_Same.mono_l k
    · intro y0 y1 y2
      unfold halberdref02_Same.l0
      repeat' first
      | (with_reducible exact ih0 _ _ _)
      | (with_reducible exact LeO.refl _)
      | (with_reducible exact LeO.none _)
      | (with_reducible refine LeO.ite ?_ ?_)
      | (with_reducible refine LeO.bind ?_ (fun _ => ?_))
      | exact ih0 _ _ _
      | exact LeO.none _
      | refine LeO.ite ?_ ?_
      | refine LeO.bind ?_ (fun _ => ?_)
theorem halberdref02_Same.mono : ∀ a0 a1 k, LeO (halberdref02_Same.f k a0 a1) (halberdref02_Same.f (k + 1) a0 a1) := by
  intro a0 a1 k
  have ih0 := halberdref02_Same.mono_l k
  unfold halberdref02_Same.f
  repeat' first
      | (with_reducible exact ih0 _ _ _)
      | (with_reducible exact LeO.refl _)
      | (with_reducible exact LeO.none _)
      | (with_reducible refine LeO.ite ?_ ?_)
      | (with_reducible refine LeO.bind ?_ (fun _ => ?_))
      | exact ih0 _ _ _
      | exact LeO.none _
      | refine LeO.ite ?_ ?_
      | refine LeO.bind ?_ (fun _ => ?_)
set_option maxHeartbeats 8000000 in
set_option maxRecDepth 100000 in
theorem halberdref02_Same.calls (k : Nat) (A0 : Option Addr) (c0 : Nat) (l0 : List (S35)) (A1 : Option Addr) (c1 : Nat) (l1 : List (S35)) (r : Bool) (w : World) (hr0 : Kd.C k35 w A0 l0.length l0) (hc0 : l0.length ≤ c0) (hr1 : Kd.C k35 w A1 l1.length l1) (hc1 : l1.length ≤ c1) (h : halberdref02_Same.f k l0 l1 = some r) :
    Calls Try.prog 8 #[.slice A0 l0.length c0, .slice A1 l1.length c1] w fun e w' => e = .returned (.bool r) ∧ Drawn0 w w' := by
  have hu35 := Try.underlying35
  have HR0 := Aside0.mk hr0
  have HC0 := Aside0.mk hc0
  clear hr0 hc0
  have HR1 := Aside0.mk hr1
  have HC1 := Aside0.mk hc1
  clear hr1 hc1
  have H : (if (l0.length : Int) = (l1.length : Int) then (halberdref02_Same.l0 k l0 l1 0) else (some false)) = some r := h
  clear h
  by_cases c3 : (l0.length : Int) = (l1.length : Int)
  · rw [if_pos c3] at H
    have c3b0 : ((l0.length : Int) == (l1.length : Int)) = true := beq_iff_eq.mpr c3
    have c3b1 : ((l0.length : Int) != (l1.length : Int)) = false := bne_eq_false_iff_eq.mpr c3
    have c3b2 : (l0.length == l1.length) = true := by first | simpa using c3 | (simp at c3 ⊢; omega)
    clear c3
    have H' := Aside0.mk H
    clear H
    go_enter Try.func8, Try.ntmps8
    go_wp2
    repeat (go_quiet (fail); try go_wp2)
    go_loopg [5] k (fun kq v5 w' => ∃ (x5_1 : Int), v5 = .int .i64 x5_1 ∧ Aside0 (halberdref02_Same.l0 kq l0 l1 x5_1 = some r) ∧ Aside0 (kq ≤ k) ∧ Drawn0 w w')
    case atStart => exact ⟨(0), (by first | rfl | (simp; done) | (simp [*]; done)), H', ⟨Nat.le_refl _⟩, by repeat (first | exact Drawn0.refl _ | apply Drawn0.step)⟩
    case round =>
      clear H'
      try clear c1
      try clear p2
      try clear c3
      try clear c3b0
      try clear c3b1
      try clear c3b2
      obtain ⟨x5_1, rfl, HA, HK1, ⟨m1, rfl⟩⟩ := hrel
      cases gk with
      | zero => exact absurd HA.out (by simp [halberdref02_Same.l0])
      | succ k1 =>
        have H := HA.out
        clear HA
        simp only [halberdref02_Same.l0] at H
        by_cases c4 : x5_1 < (l0.length : Int)
        · rw [if_pos c4] at H
          have c4b0 : decide (x5_1 < (l0.length : Int)) = true := decide_eq_true c4
          clear c4
          by_cases c5 : 0 ≤ x5_1
          · rw [if_pos c5] at H
            have c5b0 : decide (0 ≤ x5_1) = true := decide_eq_true c5
            clear c5
            by_cases c6 : x5_1 < (l1.length : Int)
            · rw [if_pos c6] at H
              have c6b0 : decide (x5_1 < (l1.length : Int)) = true := decide_eq_true c6
              clear c6
              by_cases c7 : (!(((rd_T35 l0 x5_1).f0) == ((rd_T35 l1 x5_1).f0)) || (!(((rd_T35 l0 x5_1).f1) == ((rd_T35 l1 x5_1).f1)) || (!(((rd_T35 l0 x5_1).f2) == ((rd_T35 l1 x5_1).f2)) || (!(((rd_T35 l0 x5_1).f3) == ((rd_T35 l1 x5_1).f3)) || (!(((rd_T35 l0 x5_1).f4) == ((rd_T35 l1 x5_1).f4))))))) = true
              · rw [if_pos c7] at H
                have c7b0 : (!(((rd_T35 l0 x5_1).f0) == ((rd_T35 l1 x5_1).f0)) || (!(((rd_T35 l0 x5_1).f1) == ((rd_T35 l1 x5_1).f1)) || (!(((rd_T35 l0 x5_1).f2) == ((rd_T35 l1 x5_1).f2)) || (!(((rd_T35 l0 x5_1).f3) == ((rd_T35 l1 x5_1).f3)) || (!(((rd_T35 l0 x5_1).f4) == ((rd_T35 l1 x5_1).f4))))))) = true := c7
                clear c7
                obtain rfl := Option.some.inj H
                have p120 : 0 ≤ (x5_1 : Int) := of_decide_eq_true (by first | (with_reducible assumption) | assumption)
                have q120 : x5_1 < (l0.length : Int) := of_decide_eq_true (by first | (with_reducible assumption) | assumption)
                obtain ⟨ad120, e120, hx120_0, hx120_1, hx120_2, hx120_3, hx120_4⟩ := at_T35 HR0.out x5_1 p120 q120
                cases e120
                replace p120 := eq_true p120
                replace q120 := eq_true q120
                have p121 : 0 ≤ (x5_1 : Int) := of_decide_eq_true (by first | (with_reducible assumption) | assumption)
                have q121 : x5_1 < (l1.length : Int) := of_decide_eq_true (by first | (with_reducible assumption) | assumption)
                obtain ⟨ad121, e121, hx121_0, hx121_1, hx121_2, hx121_3, hx121_4⟩ := at_T35 HR1.out x5_1 p121 q121
                cases e121
                replace p121 := eq_true p121
                replace q121 := eq_true q121
                go_wp2
                repeat (go_quiet (fail); try go_wp2)
                go_ret
                exact ⟨by first | rfl | (simp; done) | (simp [*]; done), by repeat (first | exact Drawn0.refl _ | apply Drawn0.step)⟩
              · rw [if_neg c7] at H
                have c7b0 : (!(((rd_T35 l0 x5_1).f0) == ((rd_T35 l1 x5_1).f0)) || (!(((rd_T35 l0 x5_1).f1) == ((rd_T35 l1 x5_1).f1)) || (!(((rd_T35 l0 x5_1).f2) == ((rd_T35 l1 x5_1).f2)) || (!(((rd_T35 l0 x5_1).f3) == ((rd_T35 l1 x5_1).f3)) || (!(((rd_T35 l0 x5_1).f4) == ((rd_T35 l1 x5_1).f4))))))) = false := by simpa using c7
                clear c7
                have H' := Aside0.mk H
                clear H
                have p120 : 0 ≤ (x5_1 : Int) := of_decide_eq_true (by first | (with_reducible assumption) | assumption)
                have q120 : x5_1 < (l0.length : Int) := of_decide_eq_true (by first | (with_reducible assumption) | assumption)
                obtain ⟨ad120, e120, hx120_0, hx120_1, hx120_2, hx120_3, hx120_4⟩ := at_T35 HR0.out x5_1 p120 q120
                cases e120
                replace p120 := eq_true p120
                replace q120 := eq_true q120
                have p121 : 0 ≤ (x5_1 : Int) := of_decide_eq_true (by first | (with_reducible assumption) | assumption)
                have q121 : x5_1 < (l1.length : Int) := of_decide_eq_true (by first | (with_reducible assumption) | assumption)
                obtain ⟨ad121, e121, hx121_0, hx121_1, hx121_2, hx121_3, hx121_4⟩ := at_T35 HR1.out x5_1 p121 q121
                cases e121
                replace p121 := eq_true p121
                replace q121 := eq_true q121
                go_wp2
                repeat (go_quiet (fail); try go_wp2)
                go_roundg k1
                case measure => have := HK1.out; omega
                case rel => exact ⟨(wrap64 (x5_1 + 1)), (by first | rfl | (simp; done) | (simp [*]; done)), H', ⟨by have := HK1.out; omega⟩, by repeat (first | exact Drawn0.refl _ | apply Drawn0.step)⟩
            · rw [if_neg c6] at H
              exact absurd H (by simp)
          · rw [if_neg c5] at H
            exact absurd H (by simp)
        · rw [if_neg c4] at H
          have c4b0 : decide (x5_1 < (l0.length : Int)) = false := decide_eq_false c4
          clear c4
          obtain rfl := Option.some.inj H
          go_wp2
          repeat (go_quiet (fail); try go_wp2)
          go_ret
          exact ⟨by first | rfl | (simp; done) | (simp [*]; done), by repeat (first | exact Drawn0.refl _ | apply Drawn0.step)⟩
  · rw [if_neg c3] at H
    have c3b0 : ((l0.length : Int) == (l1.length : Int)) = false := beq_eq_false_iff_ne.mpr c3
    have c3b1 : ((l0.length : Int) != (l1.length : Int)) = true := bne_iff_ne.mpr c3
    have c3b2 : (l0.length == l1.length) = false := by first | simpa using c3 | (simp at c3 ⊢; omega)
    obtain rfl := Option.some.inj H
    go_enter Try.func8, Try.ntmps8
    go_wp2
    repeat (go_quiet (fail); try go_wp2)
    go_ret
    exact ⟨by first | rfl | (simp; done) | (simp [*]; done), by repeat (first | exact Drawn0.refl _ | apply Drawn0.step)⟩

/-! ### halberdlaw02_InstBack: function 4 -/
mutual
def halberdlaw02_InstBack.j0 : Nat → List (S35) → Bool → Option (Bool)
  | 0, _, _ => none
  | k + 1, x0, x15 => if x15 = true then (some true) else (halberdlaw02_InstBack.l0 k x0 0)
def halberdlaw02_InstBack.l0 : Nat → List (S35) → Int → Option (Bool)
  | 0, _, _ => none
  | k + 1, x0, x3 => if x3 < (x0.length : Int) then (if 0 ≤ x3 then (if ((rd_T35 x0 x3).f1) > 15 then (some true) else (if ((rd_T35 x0 x3).f2) > 15 then (some true) else (halberdlaw02_InstBack.l0 k x0 (wrap64 (x3 + 1))))) else (none)) else ((inst_Bytes.f k x0).bind fun t125 => ((inst_Read.f k t125).bind fun bt128 => (if bt128.2 = 0 then ((halberdref02_Same.f k x0 bt128.1).bind fun t132 => (some t132)) else (some false))))
end
def halberdlaw02_InstBack.f (k : Nat) (l0 : List (S35)) : Option (Bool) := (halberdlaw02_alive.f k).bind fun t122 => (if t122 = true then (if (l0.length : Int) < 1 then (halberdlaw02_InstBack.j0 k l0 true) else (halberdlaw02_InstBack.j0 k l0 (decide ((l0.length : Int) > 64)))) else (some false))
theorem halberdlaw02_InstBack.mono_l : ∀ k, (∀ y0 y1, LeO (halberdlaw02_InstBack.j0 k y0 y1) (halberdlaw02_InstBack.j0 (k + 1) y0 y1)) ∧ (∀ y0 y1, LeO (halberdlaw02_InstBack.l0 k y0 y1) (halberdlaw02_InstBack.l0 (k + 1) y0 y1))
  | 0 => ⟨fun _ _ r h => by simp [halberdlaw02_InstBack.j0] at h, fun _ _ r h => by simp [halberdlaw02_InstBack.l0] at h⟩
  | k + 1 => by
    obtain ⟨ih0, ih1⟩ := halberdlaw02_InstBack.mono_l k
    refine ⟨?_, ?_⟩
    · intro y0 y1
      unfold halberdlaw02_InstBack.j0
      repeat' first
      | (with_reducible exact ih0 _ _)
      | (with_reducible exact ih1 _ _)
      | (with_reducible exact halberdlaw02_alive.mono _)
      | (with_reducible exact halberdref02_Same.mono _ _ _)
      | (with_reducible exact inst_Bytes.mono _ _)
      | (with_reducible exact inst_Read.mono _ _)
      | (with_reducible exact LeO.refl _)
      | (with_reducible exact LeO.none _)
      | (with_reducible refine LeO.ite ?_ ?_)
      | (with_reducible refine LeO.bind ?_ (fun _ => ?_))
      | exact ih0 _ _
      | exact ih1 _ _
      | exact halberdlaw02_alive.mono _
      | exact halberdref02_Same.mono _ _ _
      | exact inst_Bytes.mono _ _
      | exact inst_Read.mono _ _
      | exact LeO.none _
      | refine LeO.ite ?_ ?_
      | refine LeO.bind ?_ (fun _ => ?_)
    · intro y0 y1
      unfold halberdlaw02_InstBack.l0
      repeat' first
      | (with_reducible exact ih0 _ _)
      | (with_reducible exact ih1 _ _)
      | (with_reducible exact halberdlaw02_alive.mono _)
      | (with_reducible exact halberdref02_Same.mono _ _ _)
      | (with_reducible exact inst_Bytes.mono _ _)
      | (with_reducible exact inst_Read.mono _ _)
      | (with_reducible exact LeO.refl _)
      | (with_reducible exact LeO.none _)
      | (with_reducible refine LeO.ite ?_ ?_)
      | (with_reducible refine LeO.bind ?_ (fun _ => ?_))
      | exact ih0 _ _
      | exact ih1 _ _
      | exact halberdlaw02_alive.mono _
      | exact halberdref02_Same.mono _ _ _
      | exact inst_Bytes.mono _ _
      | exact inst_Read.mono _ _
      | exact LeO.none _
      | refine LeO.ite ?_ ?_
      | refine LeO.bind ?_ (fun _ => ?_)
theorem halberdlaw02_InstBack.mono : ∀ a0 k, LeO (halberdlaw02_InstBack.f k a0) (halberdlaw02_InstBack.f (k + 1) a0) := by
  intro a0 k
  obtain ⟨ih0, ih1⟩ := halberdlaw02_InstBack.mono_l k
  unfold halberdlaw02_InstBack.f
  repeat' first
      | (with_reducible exact ih0 _ _)
      | (with_reducible exact ih1 _ _)
      | (with_reducible exact halberdlaw02_alive.mono _)
      | (with_reducible exact halberdref02_Same.mono _ _ _)
      | (with_reducible exact inst_Bytes.mono _ _)
      | (with_reducible exact inst_Read.mono _ _)
      | (with_reducible exact LeO.refl _)
      | (with_reducible exact LeO.none _)
      | (with_reducible refine LeO.ite ?_ ?_)
      | (with_reducible refine LeO.bind ?_ (fun _ => ?_))
      | exact ih0 _ _
      | exact ih1 _ _
      | exact halberdlaw02_alive.mono _
      | exact halberdref02_Same.mono _ _ _
      | exact inst_Bytes.mono _ _
      | exact inst_Read.mono _ _
      | exact LeO.none _
      | refine LeO.ite ?_ ?_
      | refine LeO.bind ?_ (fun _ => ?_)
set_option maxHeartbeats 8000000 in
set_option maxRecDepth 100000 in
theorem halberdlaw02_InstBack.calls (k : Nat) (A0 : Option Addr) (c0 : Nat) (l0 : List (S35)) (r : Bool) (w : World) (hr0 : Kd.C k35 w A0 l0.length l0) (hc0 : l0.length ≤ c0) (hr_ : Aside0 (r = true)) (h : halberdlaw02_InstBack.f k l0 = some r) :
    Calls Try.prog 4 #[.slice A0 l0.length c0] w fun e w' => e = .returned (.bool r) ∧ Below w.heap.size w w' := by
  have HR0 := Aside0.mk hr0
  have HC0 := Aside0.mk hc0
  clear hr0 hc0
  have HB := Aside0.mk (Below.refl w.heap.size w)
  have H : ((halberdlaw02_alive.f k).bind fun t122 => (if t122 = true then (if (l0.length : Int) < 1 then (halberdlaw02_InstBack.j0 k l0 true) else (halberdlaw02_InstBack.j0 k l0 (decide ((l0.length : Int) > 64)))) else (some false))) = some r := h
  clear h
  replace H := Option.bind_eq_some_iff.mp H
  obtain ⟨t122, A20, H⟩ := H
  replace H : (if t122 = true then (if (l0.length : Int) < 1 then (halberdlaw02_InstBack.j0 k l0 true) else (halberdlaw02_InstBack.j0 k l0 (decide ((l0.length : Int) > 64)))) else (some false)) = some r := H
  have A2 := Aside0.mk A20
  clear A20
  by_cases c3 : t122 = true
  · subst c3
    have H1 : (if (l0.length : Int) < 1 then (halberdlaw02_InstBack.j0 k l0 true) else (halberdlaw02_InstBack.j0 k l0 (decide ((l0.length : Int) > 64)))) = some r := by rw [if_pos rfl] at H; exact H
    clear H
    have H := H1
    clear H1
    have HC4 := Aside0.mk H
    clear H
    go_enter Try.func4, Try.ntmps4
    go_upto_region 3 with (first | ((with_reducible refine gate_callee (f := 5) rfl ?_); refine goesL_ (some 6) rfl rfl Try.func5 (by kernel_rfl) rfl #[] rfl (by (try simp only [List.map_toArray, List.map_cons, List.map_nil]); first | done | rfl | (simp only [List.length_drop, List.length_take]; rfl)) ?_; (with_reducible refine (halberdlaw02_alive.calls k  true _ A2.out).mono ?_); rintro e w5 ⟨rfl, hb⟩; refine ⟨_, rfl, ?_⟩; have n0_ := Aside0.mk (below_step (by repeat (first | (with_reducible first | exact HB.out | apply below_alloc | apply pw_below_drewN | apply below_drew1) | exact HB.out)) hb); clear HB; have HB := n0_; clear n0_; (try clear hb); (try clear hb2); (try clear hk); (try clear hi)))
    (try simp only [Act.put, List.setIfInBounds_toArray, List.set_cons_zero, List.set_cons_succ])
    go_cut [15] (fun v15 wc => ∃ (kq : Nat) (x15_3 : Bool), v15 = .bool x15_3 ∧ Aside0 (halberdlaw02_InstBack.j0 kq l0 x15_3 = some r) ∧ Aside0 (kq ≤ k) ∧ Aside0 (Below w.heap.size w wc))
    case first =>
      have H := HC4.out
      clear HC4
      by_cases c6 : (l0.length : Int) < 1
      · rw [if_pos c6] at H
        have c6b0 : decide ((l0.length : Int) < 1) = true := decide_eq_true c6
        have c6b1 : decide (l0.length < 1) = true := decide_eq_true (by omega)
        clear c6
        (first | rw [c6b0] | (simp only [i64_w, i32_w]; rw [c6b0]) | skip)
        have H' := Aside0.mk H
        clear H
        go_wp2
        go_meet
        case rel => exact ⟨_, (true), (by first | rfl | (simp; done) | (simp [*]; done)), H', ⟨by first | omega | exact Nat.le_refl _⟩, ⟨by repeat (first | (with_reducible first | exact HB.out | apply below_alloc | apply pw_below_drewN | apply below_drew1) | exact HB.out)⟩⟩
      · rw [if_neg c6] at H
        have c6b0 : decide ((l0.length : Int) < 1) = false := decide_eq_false c6
        have c6b1 : decide (l0.length < 1) = false := decide_eq_false (by omega)
        clear c6
        (first | rw [c6b0] | (simp only [i64_w, i32_w]; rw [c6b0]) | skip)
        have H' := Aside0.mk H
        clear H
        go_wp2
        go_meet
        case rel => exact ⟨_, (decide ((l0.length : Int) > 64)), (by first | rfl | (simp; done) | (simp [*]; done)), H', ⟨by first | omega | exact Nat.le_refl _⟩, ⟨by repeat (first | (with_reducible first | exact HB.out | apply below_alloc | apply pw_below_drewN | apply below_drew1) | exact HB.out)⟩⟩
    case rest =>
      clear HC4
      try clear p2
      try clear c3
      try clear c4
      try clear c5
      try clear c6
      try clear c6b0
      try clear c6b1
      obtain ⟨kq, x15_3, rfl, HA, HJ3, HB⟩ := hcut
      cases kq with
      | zero => exact absurd HA.out (by simp [halberdlaw02_InstBack.j0])
      | succ kj3 =>
        have H := HA.out
        clear HA
        simp only [halberdlaw02_InstBack.j0] at H
        by_cases c7 : x15_3 = true
        · subst c7
          have H1 : (some true) = some r := by rw [if_pos rfl] at H; exact H
          clear H
          have H := H1
          clear H1
          obtain rfl := Option.some.inj H
          go_wp2
          go_ret
          exact ⟨by first | rfl | (simp [errW_none, errW_some] <;> rfl) | (simp [*, errW_none, errW_some] <;> rfl), by repeat (first | (with_reducible first | exact HB.out | apply below_alloc | apply pw_below_drewN | apply below_drew1) | exact HB.out)⟩
        · replace c7 := Bool.eq_false_iff.mpr c7
          subst c7
          have H1 : (halberdlaw02_InstBack.l0 kj3 l0 0) = some r := by rw [if_neg (show ¬ (false = true) by decide)] at H; exact H
          clear H
          have H := H1
          clear H1
          have H' := Aside0.mk H
          clear H
          go_wp2
          go_loopg [3] kj3 (fun kq v3 w' => ∃ (x3_2 : Int), v3 = .int .i64 x3_2 ∧ Aside0 (halberdlaw02_InstBack.l0 kq l0 x3_2 = some r) ∧ Aside0 (kq ≤ kj3) ∧ Aside0 (Below w.heap.size w w'))
          case atStart => exact ⟨(0), (by first | rfl | (simp; done) | (simp [*]; done)), H', ⟨Nat.le_refl _⟩, ⟨by repeat (first | (with_reducible first | exact HB.out | apply below_alloc | apply pw_below_drewN | apply below_drew1) | exact HB.out)⟩⟩
          case round =>
            clear H'
            try clear p2
            try clear c3
            try clear c4
            try clear c5
            try clear c6
            try clear c6b0
            try clear c6b1
            try clear c7
            try clear p2
            obtain ⟨x3_2, rfl, HA, HK2, HB⟩ := hrel
            cases gk with
            | zero => exact absurd HA.out (by simp [halberdlaw02_InstBack.l0])
            | succ k2 =>
              have H := HA.out
              clear HA
              simp only [halberdlaw02_InstBack.l0] at H
              by_cases c8 : x3_2 < (l0.length : Int)
              · rw [if_pos c8] at H
                have c8b0 : decide (x3_2 < (l0.length : Int)) = true := decide_eq_true c8
                clear c8
                by_cases c9 : 0 ≤ x3_2
                · rw [if_pos c9] at H
                  have c9b0 : decide (0 ≤ x3_2) = true := decide_eq_true c9
                  clear c9
                  by_cases c10 : ((rd_T35 l0 x3_2).f1) > 15
                  · rw [if_pos c10] at H
                    have c10b0 : decide (15 < ((rd_T35 l0 x3_2).f1)) = true := decide_eq_true c10
                    clear c10
                    obtain rfl := Option.some.inj H
                    have p123 : 0 ≤ (x3_2 : Int) := of_decide_eq_true (by first | (with_reducible assumption) | assumption)
                    have q123 : x3_2 < (l0.length : Int) := of_decide_eq_true (by first | (with_reducible assumption) | assumption)
                    obtain ⟨ad123, e123, hx123_0, hx123_1, hx123_2, hx123_3, hx123_4⟩ := at_T35 HR0.out x3_2 p123 q123
                    cases e123
                    replace hx123_0 := (HB.out.cell (World.block_lt_of_cell? w _ hx123_0)).trans hx123_0
                    replace hx123_1 := (HB.out.cell (World.block_lt_of_cell? w _ hx123_1)).trans hx123_1
                    replace hx123_2 := (HB.out.cell (World.block_lt_of_cell? w _ hx123_2)).trans hx123_2
                    replace hx123_3 := (HB.out.cell (World.block_lt_of_cell? w _ hx123_3)).trans hx123_3
                    replace hx123_4 := (HB.out.cell (World.block_lt_of_cell? w _ hx123_4)).trans hx123_4
                    replace p123 := eq_true p123
                    replace q123 := eq_true q123
                    go_wp2
                    go_ret
                    exact ⟨by first | rfl | (simp [errW_none, errW_some] <;> rfl) | (simp [*, errW_none, errW_some] <;> rfl), by repeat (first | (with_reducible first | exact HB.out | apply below_alloc | apply pw_below_drewN | apply below_drew1) | exact HB.out)⟩
                  · rw [if_neg c10] at H
                    have c10b0 : decide (15 < ((rd_T35 l0 x3_2).f1)) = false := decide_eq_false c10
                    clear c10
                    by_cases c11 : ((rd_T35 l0 x3_2).f2) > 15
                    · rw [if_pos c11] at H
                      have c11b0 : decide (15 < ((rd_T35 l0 x3_2).f2)) = true := decide_eq_true c11
                      clear c11
                      obtain rfl := Option.some.inj H
                      have p123 : 0 ≤ (x3_2 : Int) := of_decide_eq_true (by first | (with_reducible assumption) | assumption)
                      have q123 : x3_2 < (l0.length : Int) := of_decide_eq_true (by first | (with_reducible assumption) | assumption)
                      obtain ⟨ad123, e123, hx123_0, hx123_1, hx123_2, hx123_3, hx123_4⟩ := at_T35 HR0.out x3_2 p123 q123
                      cases e123
                      replace hx123_0 := (HB.out.cell (World.block_lt_of_cell? w _ hx123_0)).trans hx123_0
                      replace hx123_1 := (HB.out.cell (World.block_lt_of_cell? w _ hx123_1)).trans hx123_1
                      replace hx123_2 := (HB.out.cell (World.block_lt_of_cell? w _ hx123_2)).trans hx123_2
                      replace hx123_3 := (HB.out.cell (World.block_lt_of_cell? w _ hx123_3)).trans hx123_3
                      replace hx123_4 := (HB.out.cell (World.block_lt_of_cell? w _ hx123_4)).trans hx123_4
                      replace p123 := eq_true p123
                      replace q123 := eq_true q123
                      have p124 : 0 ≤ (x3_2 : Int) := of_decide_eq_true (by first | (with_reducible assumption) | assumption)
                      have q124 : x3_2 < (l0.length : Int) := of_decide_eq_true (by first | (with_reducible assumption) | assumption)
                      obtain ⟨ad124, e124, hx124_0, hx124_1, hx124_2, hx124_3, hx124_4⟩ := at_T35 HR0.out x3_2 p124 q124
                      obtain rfl : ad123 = ad124 := (by injection e124)
                      replace hx124_0 := (HB.out.cell (World.block_lt_of_cell? w _ hx124_0)).trans hx124_0
                      replace hx124_1 := (HB.out.cell (World.block_lt_of_cell? w _ hx124_1)).trans hx124_1
                      replace hx124_2 := (HB.out.cell (World.block_lt_of_cell? w _ hx124_2)).trans hx124_2
                      replace hx124_3 := (HB.out.cell (World.block_lt_of_cell? w _ hx124_3)).trans hx124_3
                      replace hx124_4 := (HB.out.cell (World.block_lt_of_cell? w _ hx124_4)).trans hx124_4
                      replace p124 := eq_true p124
                      replace q124 := eq_true q124
                      go_wp2
                      go_ret
                      exact ⟨by first | rfl | (simp [errW_none, errW_some] <;> rfl) | (simp [*, errW_none, errW_some] <;> rfl), by repeat (first | (with_reducible first | exact HB.out | apply below_alloc | apply pw_below_drewN | apply below_drew1) | exact HB.out)⟩
                    · rw [if_neg c11] at H
                      have c11b0 : decide (15 < ((rd_T35 l0 x3_2).f2)) = false := decide_eq_false c11
                      clear c11
                      have H' := Aside0.mk H
                      clear H
                      have p123 : 0 ≤ (x3_2 : Int) := of_decide_eq_true (by first | (with_reducible assumption) | assumption)
                      have q123 : x3_2 < (l0.length : Int) := of_decide_eq_true (by first | (with_reducible assumption) | assumption)
                      obtain ⟨ad123, e123, hx123_0, hx123_1, hx123_2, hx123_3, hx123_4⟩ := at_T35 HR0.out x3_2 p123 q123
                      cases e123
                      replace hx123_0 := (HB.out.cell (World.block_lt_of_cell? w _ hx123_0)).trans hx123_0
                      replace hx123_1 := (HB.out.cell (World.block_lt_of_cell? w _ hx123_1)).trans hx123_1
                      replace hx123_2 := (HB.out.cell (World.block_lt_of_cell? w _ hx123_2)).trans hx123_2
                      replace hx123_3 := (HB.out.cell (World.block_lt_of_cell? w _ hx123_3)).trans hx123_3
                      replace hx123_4 := (HB.out.cell (World.block_lt_of_cell? w _ hx123_4)).trans hx123_4
                      replace p123 := eq_true p123
                      replace q123 := eq_true q123
                      have p124 : 0 ≤ (x3_2 : Int) := of_decide_eq_true (by first | (with_reducible assumption) | assumption)
                      have q124 : x3_2 < (l0.length : Int) := of_decide_eq_true (by first | (with_reducible assumption) | assumption)
                      obtain ⟨ad124, e124, hx124_0, hx124_1, hx124_2, hx124_3, hx124_4⟩ := at_T35 HR0.out x3_2 p124 q124
                      obtain rfl : ad123 = ad124 := (by injection e124)
                      replace hx124_0 := (HB.out.cell (World.block_lt_of_cell? w _ hx124_0)).trans hx124_0
                      replace hx124_1 := (HB.out.cell (World.block_lt_of_cell? w _ hx124_1)).trans hx124_1
                      replace hx124_2 := (HB.out.cell (World.block_lt_of_cell? w _ hx124_2)).trans hx124_2
                      replace hx124_3 := (HB.out.cell (World.block_lt_of_cell? w _ hx124_3)).trans hx124_3
                      replace hx124_4 := (HB.out.cell (World.block_lt_of_cell? w _ hx124_4)).trans hx124_4
                      replace p124 := eq_true p124
                      replace q124 := eq_true q124
                      go_wp2
                      go_roundg k2
                      case measure => have := HJ3.out; have := HK2.out; omega
                      case rel => exact ⟨(wrap64 (x3_2 + 1)), (by first | rfl | (simp; done) | (simp [*]; done)), H', ⟨by have := HJ3.out; have := HK2.out; omega⟩, ⟨by repeat (first | (with_reducible first | exact HB.out | apply below_alloc | apply pw_below_drewN | apply below_drew1) | exact HB.out)⟩⟩
                · rw [if_neg c9] at H
                  exact absurd H (by simp)
              · rw [if_neg c8] at H
                have c8b0 : decide (x3_2 < (l0.length : Int)) = false := decide_eq_false c8
                clear c8
                replace H := Option.bind_eq_some_iff.mp H
                obtain ⟨t125, A120, H⟩ := H
                replace H : ((inst_Read.f k2 t125).bind fun bt128 => (if bt128.2 = 0 then ((halberdref02_Same.f k2 l0 bt128.1).bind fun t132 => (some t132)) else (some false))) = some r := H
                have A12 := Aside0.mk A120
                clear A120
                replace H := Option.bind_eq_some_iff.mp H
                obtain ⟨⟨t128, t129⟩, A130, H⟩ := H
                replace H : (if t129 = 0 then ((halberdref02_Same.f k2 l0 t128).bind fun t132 => (some t132)) else (some false)) = some r := H
                have A13 := Aside0.mk A130
                clear A130
                by_cases c14 : t129 = 0
                · rw [if_pos c14] at H
                  have c14b0 : (t129 == 0) = true := beq_iff_eq.mpr c14
                  have c14b1 : (t129 != 0) = false := bne_eq_false_iff_eq.mpr c14
                  clear c14
                  replace H := Option.bind_eq_some_iff.mp H
                  obtain ⟨t132, A150, H⟩ := H
                  replace H : (some t132) = some r := H
                  have A15 := Aside0.mk A150
                  clear A150
                  obtain rfl := Option.some.inj H
                  go_wp2_with (first | ((with_reducible refine gate_callee (f := 9) rfl ?_); refine goesL_ (some 38) rfl rfl Try.func9 (by kernel_rfl) rfl #[.slice A0 l0.length c0] rfl (by (try simp only [List.map_toArray, List.map_cons, List.map_nil]); first | done | rfl | (simp only [List.length_drop, List.length_take]; rfl)) ?_; (with_reducible refine (inst_Bytes.calls k2 _ _ l0 t125 _ ?side1 ?side2 A12.out).mono ?_); (case side1 => repeat (first | exact (Kd.C_below HR0.out HB.out) | (with_reducible refine Kd.C_alloc ?_ _) | (with_reducible refine Kd.C_drewN ?_ _) | (with_reducible refine Kd.C_drew ?_))); (case side2 => exact HC0.out); rintro e w16 ⟨v126, rfl, ho0, hb⟩; refine ⟨_, rfl, ?_⟩; have n0_ := Aside0.mk (Kd.R_lower ho0 (below_size (by repeat (first | (with_reducible first | exact HB.out | apply below_alloc | apply pw_below_drewN | apply below_drew1) | exact HB.out)))); have n1_ := Aside0.mk (below_step (by repeat (first | (with_reducible first | exact HB.out | apply below_alloc | apply pw_below_drewN | apply below_drew1) | exact HB.out)) hb); clear HB; have HO127 := n0_; have HB := n1_; clear n0_ n1_; (try clear hb); (try clear hb2); (try clear hk); (try clear hi); (try clear ho0); obtain ⟨Ao17, co17, eo17⟩ := Kd.R_slice HO127.out; subst eo17) | ((with_reducible refine gate_callee (f := 6) rfl ?_); refine goesL_ (some 39) rfl rfl Try.func6 (by kernel_rfl) rfl #[.slice Ao17 t125.length co17] rfl (by (try simp only [List.map_toArray, List.map_cons, List.map_nil]); first | done | rfl | (simp only [List.length_drop, List.length_take]; rfl)) ?_; (with_reducible refine (inst_Read.calls k2 _ _ t125 t128 t129 _ ?side1 ?side2 A13.out).mono ?_); (case side1 => repeat (first | exact (Kd.R_reads' HO127.out).2.2 | (with_reducible refine Kd.C_alloc ?_ _) | (with_reducible refine Kd.C_drewN ?_ _) | (with_reducible refine Kd.C_drew ?_))); (case side2 => exact (Kd.R_reads' HO127.out).2.1); rintro e w18 ⟨v130, rfl, ho0, hb⟩; refine ⟨_, rfl, ?_⟩; have n0_ := Aside0.mk (Kd.R_below (by (with_reducible repeat (first | apply Kd.R_alloc | apply Kd.R_drewN | apply Kd.R_drew)); exact HO127.out) hb); have n1_ := Aside0.mk (Kd.R_lower ho0 (below_size (by repeat (first | (with_reducible first | exact HB.out | apply below_alloc | apply pw_below_drewN | apply below_drew1) | exact HB.out)))); have n2_ := Aside0.mk (below_step (by repeat (first | (with_reducible first | exact HB.out | apply below_alloc | apply pw_below_drewN | apply below_drew1) | exact HB.out)) hb); clear HO127; clear HB; have HO127 := n0_; have HO131 := n1_; have HB := n2_; clear n0_ n1_ n2_; (try clear hb); (try clear hb2); (try clear hk); (try clear hi); (try clear ho0); obtain ⟨Ao19, co19, eo19⟩ := Kd.R_slice HO131.out; subst eo19) | (go_at_call 8; (with_reducible refine (halberdref02_Same.calls k2 _ _ l0 _ _ t128 t132 _ ?side1 ?side2 ?side3 ?side4 A15.out).mono ?_); (case side1 => repeat (first | exact (Kd.C_below HR0.out HB.out) | (with_reducible refine Kd.C_alloc ?_ _) | (with_reducible refine Kd.C_drewN ?_ _) | (with_reducible refine Kd.C_drew ?_))); (case side2 => exact HC0.out); (case side3 => repeat (first | exact (Kd.R_reads' HO131.out).2.2 | (with_reducible refine Kd.C_alloc ?_ _) | (with_reducible refine Kd.C_drewN ?_ _) | (with_reducible refine Kd.C_drew ?_))); (case side4 => exact (Kd.R_reads' HO131.out).2.1); rintro e w' ⟨rfl, ⟨nd, rfl⟩⟩) | (go_at_call 9; (with_reducible refine (inst_Bytes.calls k2 _ _ l0 t125 _ ?side1 ?side2 A12.out).mono ?_); (case side1 => repeat (first | exact (Kd.C_below HR0.out HB.out) | (with_reducible refine Kd.C_alloc ?_ _) | (with_reducible refine Kd.C_drewN ?_ _) | (with_reducible refine Kd.C_drew ?_))); (case side2 => exact HC0.out); rintro e w16 ⟨v126, rfl, ho0, hb⟩; have n0_ := Aside0.mk (Kd.R_lower ho0 (below_size (by repeat (first | (with_reducible first | exact HB.out | apply below_alloc | apply pw_below_drewN | apply below_drew1) | exact HB.out)))); have n1_ := Aside0.mk (below_step (by repeat (first | (with_reducible first | exact HB.out | apply below_alloc | apply pw_below_drewN | apply below_drew1) | exact HB.out)) hb); clear HB; have HO127 := n0_; have HB := n1_; clear n0_ n1_; (try clear hb); (try clear hb2); (try clear hk); (try clear hi); (try clear ho0); obtain ⟨Ao17, co17, eo17⟩ := Kd.R_slice HO127.out; subst eo17) | (go_at_call 6; (with_reducible refine (inst_Read.calls k2 _ _ t125 t128 t129 _ ?side1 ?side2 A13.out).mono ?_); (case side1 => repeat (first | exact (Kd.R_reads' HO127.out).2.2 | (with_reducible refine Kd.C_alloc ?_ _) | (with_reducible refine Kd.C_drewN ?_ _) | (with_reducible refine Kd.C_drew ?_))); (case side2 => exact (Kd.R_reads' HO127.out).2.1); rintro e w18 ⟨v130, rfl, ho0, hb⟩; have n0_ := Aside0.mk (Kd.R_below (by (with_reducible repeat (first | apply Kd.R_alloc | apply Kd.R_drewN | apply Kd.R_drew)); exact HO127.out) hb); have n1_ := Aside0.mk (Kd.R_lower ho0 (below_size (by repeat (first | (with_reducible first | exact HB.out | apply below_alloc | apply pw_below_drewN | apply below_drew1) | exact HB.out)))); have n2_ := Aside0.mk (below_step (by repeat (first | (with_reducible first | exact HB.out | apply below_alloc | apply pw_below_drewN | apply below_drew1) | exact HB.out)) hb); clear HO127; clear HB; have HO127 := n0_; have HO131 := n1_; have HB := n2_; clear n0_ n1_ n2_; (try clear hb); (try clear hb2); (try clear hk); (try clear hi); (try clear ho0); obtain ⟨Ao19, co19, eo19⟩ := Kd.R_slice HO131.out; subst eo19))
                  go_ret
                  exact ⟨by first | rfl | (simp [errW_none, errW_some] <;> rfl) | (simp [*, errW_none, errW_some] <;> rfl), by repeat (first | (with_reducible first | exact HB.out | apply below_alloc | apply pw_below_drewN | apply below_drew1) | exact HB.out)⟩
                · rw [if_neg c14] at H
                  have c14b0 : (t129 == 0) = false := beq_eq_false_iff_ne.mpr c14
                  have c14b1 : (t129 != 0) = true := bne_iff_ne.mpr c14
                  exact absurd (Option.some.inj H) (by rw [hr_.out]; decide)
  · replace c3 := Bool.eq_false_iff.mpr c3
    subst c3
    have H1 : (some false) = some r := by rw [if_neg (show ¬ (false = true) by decide)] at H; exact H
    clear H
    have H := H1
    clear H1
    exact absurd (Option.some.inj H) (by rw [hr_.out]; decide)

/-- THE ONE PURE STATEMENT of halberdlaw02_InstBack. -/
def halberdlaw02_InstBack.Pure : Prop := ∀ (l0 : List (S35)), (l0.length ≤ maxLen ∧ l0.length * 12 ≤ 140737488351232 ∧ ∀ y_ ∈ l0, ((Lit.int .u8 y_.f0).wf = true) ∧ ((Lit.int .u8 y_.f1).wf = true) ∧ ((Lit.int .u8 y_.f2).wf = true) ∧ ((Lit.int .i16 y_.f3).wf = true) ∧ ((Lit.int .i32 y_.f4).wf = true)) → ∃ k, halberdlaw02_InstBack.f k l0 = some true

end Go.Proofs.Ytjcmkognkbpfcaa.PInstBack
