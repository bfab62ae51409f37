/- Functions of the program that some laws reach, as Lean functions, and proofs that the program's calls come to what they say: written by a program, for the texts that import it; each theorem bears its own conditions. -/
import Derived.Test.YtkbngkhajkhfgaaPIsaChecksx0
import Derived.Test.YtkbngkhajkhfgaaPIsaChecksx2
import Derived.Test.YtkbngkhajkhfgaaPIsaChecksx4
namespace Go.Proofs.Ytkbngkhajkhfgaa.PIsaChecks
open Go.RowKit Go.Proofs.YtkbngkhajkhfgaaW.PrintWords Go.Proofs.YtkbngkhajkhfgaaW.PrintLast Go.Proofs.YtkbngkhajkhfgaaW.PrintMore
attribute [local go_sem] max2_int min2_int max_two min_two max_three min_three max_four min_four   -- for this text's walks alone
set_option linter.unusedVariables false
set_option linter.unusedSimpArgs false

/-! ### isa_Check: function 18 -/
open Go.Proofs.Hp Go.Proofs.Ev
/-- The place of the first instruction that isn't as it must be; -1: there is none. -/
def isa_scan (k : Nat) (l : List S24) (maps : Int) : Nat → Int → Option Int
  | 0, _ => some (-1)
  | n + 1, i => (isa_good.f k l i maps).bind fun t => if t = true then isa_scan k l maps n (i + 1) else some i
theorem isa_scan.mono (k : Nat) (l : List S24) (maps : Int) : ∀ n i, LeO (isa_scan k l maps n i) (isa_scan (k + 1) l maps n i)
  | 0, i => LeO.refl _
  | n + 1, i => by
    unfold isa_scan
    refine LeO.bind (isa_good.mono _ _ _ _) (fun t => LeO.ite (isa_scan.mono k l maps n (i + 1)) (LeO.refl _))
def isa_exit (x : S24) : Bool := x.f0 == 149 && (x.f1 == 0 && (x.f2 == 0 && (x.f3 == 0 && (x.f4 == 0))))
def isa_Check.f (k : Nat) (l : List S24) (maps : Int) : Option Int := if l.length = 0 then some 22 else if 64 < l.length then some 22 else if isa_exit (rd_T24 l ((l.length : Int) - 1)) = true then (isa_scan k l maps l.length 0).bind fun r => some (if 0 ≤ r then 22 else 0) else some 22
theorem isa_Check.mono : ∀ l maps k, LeO (isa_Check.f k l maps) (isa_Check.f (k + 1) l maps) := by
  intro l maps k
  unfold isa_Check.f
  refine LeO.ite (LeO.refl _) (LeO.ite (LeO.refl _) (LeO.ite (LeO.bind (isa_scan.mono _ _ _ _ _) (fun r => LeO.refl _)) (LeO.refl _)))
set_option maxHeartbeats 8000000 in
set_option maxRecDepth 100000 in
theorem isa_chk_calls (k : Nat) (A : Option Addr) (c : Nat) (l : List S24) (maps : Int) (w0 w : World) (g5 g2 g3 : Nat) (hC : Kd.C k24 w0 A l.length l) (hc : l.length ≤ c) (x0 x1 x2 x3 x4 i j : Int) (t : Bool) (hj : IntKind.i64.wrap (i + 1) = j) (hO : Own w0 w [(g5, .cells #[.int .i64 i] 3 (0, 0)), (g2, .cells #[.slice A l.length c] 28 (0, 0)), (g3, .cells #[.int .i64 maps] 3 (0, 0))]) (hf : isa_good.f k l j maps = some t) :
    Calls Try.prog 41 #[.agg #[.int .u8 x0, .int .u8 x1, .int .u8 x2, .int .i16 x3, .int .i32 x4], .pointer (some ⟨g5, 0, none⟩), .pointer (some ⟨g2, 0, none⟩), .pointer (some ⟨g3, 0, none⟩)] w fun e w' => e = .returned (.bool !t) ∧ Own w0 w' [(g5, .cells #[.int .i64 j] 3 (0, 0)), (g2, .cells #[.slice A l.length c] 28 (0, 0)), (g3, .cells #[.int .i64 maps] 3 (0, 0))] := by
  have hu := Try.underlying24
  have HO := Aside0.mk hO
  have HC := Aside0.mk hC
  have HF := Aside0.mk hf
  have Hc := Aside0.mk hc
  clear hO hC hf hc
  go_enter Try.func41, Try.ntmps41
  go_wp2_with (first | ((with_reducible refine gate_dst (N := 4) rfl ?_); refine own_box HO.out ?hg (N := 4) ?hd (cs := #[.int .u8 x0, .int .u8 x1, .int .u8 x2, .int .i16 x3, .int .i32 x4]) (t := 24) ?hr ?_; (case hd => rfl); (case hg => rfl); (case hr => first | (go_simp; done) | (go_simp; rfl) | kernel_rfl); intro g4 w4 hO_; clear HO; have HO := Aside0.mk hO_; clear hO_) | ((with_reducible refine gate_dst (N := 6) rfl ?_); refine own_load HO.out rfl (x := .tmp 1) (v := .int .i64 i) rfl (by rfl) (by (first | exact .head | exact .tail (.head) | exact .tail (.tail (.head)) | exact .tail (.tail (.tail (.head))) | exact .tail (.tail (.tail (.tail (.head)))) | exact .tail (.tail (.tail (.tail (.tail (.head))))) | exact .tail (.tail (.tail (.tail (.tail (.tail (.head)))))) | exact .tail (.tail (.tail (.tail (.tail (.tail (.tail (.head))))))) | exact .tail (.tail (.tail (.tail (.tail (.tail (.tail (.tail (.head)))))))))) Try.underlying3 (by rfl) (by rfl) ?_) | ((with_reducible refine gate_store (p := 1) rfl ?_); refine own_store HO.out rfl (ty := 3) (x := .tmp 1) (y := .tmp 7) (v := .int .i64 j) (cs' := #[.int .i64 j]) rfl (by rfl) (by rfl) (by (first | exact .head | exact .tail (.head) | exact .tail (.tail (.head)) | exact .tail (.tail (.tail (.head))) | exact .tail (.tail (.tail (.tail (.head)))) | exact .tail (.tail (.tail (.tail (.tail (.head))))) | exact .tail (.tail (.tail (.tail (.tail (.tail (.head)))))) | exact .tail (.tail (.tail (.tail (.tail (.tail (.tail (.head))))))) | exact .tail (.tail (.tail (.tail (.tail (.tail (.tail (.tail (.head)))))))))) (by kernel_rfl) (by rfl) (by first | decide | (simp; done)) (by rfl) ?_; intro wc hO_; clear HO; have HO := Aside0.mk hO_; clear hO_) | ((with_reducible refine gate_dst (N := 8) rfl ?_); refine own_load HO.out rfl (x := .tmp 2) (v := .slice A l.length c) rfl (by rfl) (by (first | exact .head | exact .tail (.head) | exact .tail (.tail (.head)) | exact .tail (.tail (.tail (.head))) | exact .tail (.tail (.tail (.tail (.head)))) | exact .tail (.tail (.tail (.tail (.tail (.head))))) | exact .tail (.tail (.tail (.tail (.tail (.tail (.head)))))) | exact .tail (.tail (.tail (.tail (.tail (.tail (.tail (.head))))))) | exact .tail (.tail (.tail (.tail (.tail (.tail (.tail (.tail (.head)))))))))) Try.underlying28 (by rfl) (by rfl) ?_) | ((with_reducible refine gate_dst (N := 9) rfl ?_); refine own_load HO.out rfl (x := .tmp 1) (v := .int .i64 j) rfl (by rfl) (by (first | exact .head | exact .tail (.head) | exact .tail (.tail (.head)) | exact .tail (.tail (.tail (.head))) | exact .tail (.tail (.tail (.tail (.head)))) | exact .tail (.tail (.tail (.tail (.tail (.head))))) | exact .tail (.tail (.tail (.tail (.tail (.tail (.head)))))) | exact .tail (.tail (.tail (.tail (.tail (.tail (.tail (.head))))))) | exact .tail (.tail (.tail (.tail (.tail (.tail (.tail (.tail (.head)))))))))) Try.underlying3 (by rfl) (by rfl) ?_) | ((with_reducible refine gate_dst (N := 10) rfl ?_); refine own_load HO.out rfl (x := .tmp 3) (v := .int .i64 maps) rfl (by rfl) (by (first | exact .head | exact .tail (.head) | exact .tail (.tail (.head)) | exact .tail (.tail (.tail (.head))) | exact .tail (.tail (.tail (.tail (.head)))) | exact .tail (.tail (.tail (.tail (.tail (.head))))) | exact .tail (.tail (.tail (.tail (.tail (.tail (.head)))))) | exact .tail (.tail (.tail (.tail (.tail (.tail (.tail (.head))))))) | exact .tail (.tail (.tail (.tail (.tail (.tail (.tail (.tail (.head)))))))))) Try.underlying3 (by rfl) (by rfl) ?_) | ((with_reducible refine gate_callee (f := 42) rfl ?_); (with_reducible refine gate_dst (N := 11) rfl ?_); refine goesL_ (some 11) rfl rfl Try.func42 (by kernel_rfl) rfl #[.slice A l.length c, .int .i64 j, .int .i64 maps] rfl (by (try simp only [List.map_toArray, List.map_cons, List.map_nil]); first | done | rfl) ?_; (with_reducible refine (isa_good.calls k A c l j maps t _ (Kd.C_below HC.out HO.out.bel) Hc.out HF.out).mono ?_); rintro e wx ⟨rfl, hb⟩; refine ⟨_, rfl, ?_⟩; have hO_ := HO.out.below hb; clear hb; clear HO; have HO := Aside0.mk hO_; clear hO_))
  go_ret
  exact ⟨rfl, HO.out.picks (.cons (by (first | exact .head | exact .tail (.head) | exact .tail (.tail (.head)) | exact .tail (.tail (.tail (.head))) | exact .tail (.tail (.tail (.tail (.head)))) | exact .tail (.tail (.tail (.tail (.tail (.head))))) | exact .tail (.tail (.tail (.tail (.tail (.tail (.head)))))) | exact .tail (.tail (.tail (.tail (.tail (.tail (.tail (.head))))))) | exact .tail (.tail (.tail (.tail (.tail (.tail (.tail (.tail (.head)))))))))) (.cons (by (first | exact .head | exact .tail (.head) | exact .tail (.tail (.head)) | exact .tail (.tail (.tail (.head))) | exact .tail (.tail (.tail (.tail (.head)))) | exact .tail (.tail (.tail (.tail (.tail (.head))))) | exact .tail (.tail (.tail (.tail (.tail (.tail (.head)))))) | exact .tail (.tail (.tail (.tail (.tail (.tail (.tail (.head))))))) | exact .tail (.tail (.tail (.tail (.tail (.tail (.tail (.tail (.head)))))))))) (.cons (by (first | exact .head | exact .tail (.head) | exact .tail (.tail (.head)) | exact .tail (.tail (.tail (.head))) | exact .tail (.tail (.tail (.tail (.head)))) | exact .tail (.tail (.tail (.tail (.tail (.head))))) | exact .tail (.tail (.tail (.tail (.tail (.tail (.head)))))) | exact .tail (.tail (.tail (.tail (.tail (.tail (.tail (.head))))))) | exact .tail (.tail (.tail (.tail (.tail (.tail (.tail (.tail (.head)))))))))) (.nil))))⟩
set_option maxHeartbeats 8000000 in
set_option maxRecDepth 100000 in
theorem isa_idx_calls (k : Nat) (A : Option Addr) (c : Nat) (l : List S24) (maps : Int) (w0 w : World) (g5 g2 g3 : Nat) (hC : Kd.C k24 w0 A l.length l) (hc : l.length ≤ c) (r : Int) (hm : l.length ≤ 64) (hO : Own w0 w [(g5, .cells #[.int .i64 (-1)] 3 (0, 0)), (g2, .cells #[.slice A l.length c] 28 (0, 0)), (g3, .cells #[.int .i64 maps] 3 (0, 0))]) (hf : isa_scan k l maps l.length 0 = some r) :
    Calls Try.prog 59 #[.slice A l.length c, .func (.func 41) #[] #[.pointer (some ⟨g5, 0, none⟩), .pointer (some ⟨g2, 0, none⟩), .pointer (some ⟨g3, 0, none⟩)]] w fun e w' => e = .returned (.int .i64 r) ∧ ∃ i, Own w0 w' [(g5, .cells #[.int .i64 i] 3 (0, 0)), (g2, .cells #[.slice A l.length c] 28 (0, 0)), (g3, .cells #[.int .i64 maps] 3 (0, 0))] := by
  have hu := Try.underlying24
  have HO := Aside0.mk hO
  have HC := Aside0.mk hC
  have Hc := Aside0.mk hc
  have HS := Aside0.mk hf
  have HM := Aside0.mk hm
  clear hO hC hf hc hm
  go_enter Try.func59, Try.ntmps59
  go_wp2
  go_loopg [8] l.length (fun gk v8 w' => ∃ i : Int, v8 = .int .i64 i ∧ Aside0 (i + gk = l.length ∧ 0 ≤ i) ∧ Aside0 (isa_scan k l maps gk i = some r) ∧ Aside0 (Own w0 w' [(g5, .cells #[.int .i64 (i - 1)] 3 (0, 0)), (g2, .cells #[.slice A l.length c] 28 (0, 0)), (g3, .cells #[.int .i64 maps] 3 (0, 0))]))
  case atStart => exact ⟨0, rfl, ⟨⟨by omega, by omega⟩⟩, HS, HO⟩
  case round =>
    clear HS HO
    obtain ⟨i, rfl, HI, HA, HO⟩ := hrel
    cases gk with
    | zero =>
      have H := HA.out
      simp only [isa_scan, Option.some.injEq] at H
      have c0 : decide (i < (l.length : Int)) = false := decide_eq_false (by have := HI.out; omega)
      subst H
      go_wp2
      go_ret
      exact ⟨rfl, _, HO.out⟩
    | succ n =>
      have H := HA.out
      unfold isa_scan at H
      clear HA
      obtain ⟨t, h0, h1⟩ := Option.bind_eq_some_iff.mp H
      clear H
      have HF := Aside0.mk h0
      clear h0
      have HJ : Aside0 (IntKind.i64.wrap (i - 1 + 1) = i) := ⟨by have := HI.out; have := HM.out; rw [Int.sub_add_cancel]; exact IntWalk.i64_in _ (by omega)⟩
      obtain ⟨i1, hi1⟩ : ∃ i1 : Int, i + 1 = i1 := ⟨_, rfl⟩
      have hiw : IntKind.i64.wrap (i + 1) = i1 := (IntWalk.i64_in _ (by have := HI.out; have := HM.out; omega)).trans hi1
      have hiw2 : wrap64 (i + 1) = i1 := (i64_w _).symm.trans hiw
      have HI1 := Aside0.mk hi1
      rw [hi1] at h1
      clear hi1
      have c0 : decide (i < (l.length : Int)) = true := decide_eq_true (by have := HI.out; omega)
      have p1 : 0 ≤ i := HI.out.2
      have q1 : i < (l.length : Int) := by have := HI.out; omega
      obtain ⟨ad, e, hx0, hx1, hx2, hx3, hx4⟩ := at_T24 (Kd.C_below HC.out HO.out.bel) i p1 q1
      cases e
      replace p1 := eq_true p1
      replace q1 := eq_true q1
      cases t with
      | true =>
        rw [if_pos rfl] at h1
        have HS := Aside0.mk h1
        clear h1
        go_wp2_with (go_at_call 41; refine (isa_chk_calls k _ c l maps w0 _ g5 g2 g3 HC.out Hc.out _ _ _ _ _ (i - 1) i true HJ.out HO.out HF.out).mono ?_; rintro e wk ⟨rfl, hO_⟩; clear HO; have HO := Aside0.mk hO_; clear hO_; dsimp only)
        go_roundg n
        case measure => omega
        case rel => exact ⟨i1, rfl, ⟨by have := HI.out; have := HI1.out; omega, by have := HI.out; have := HI1.out; omega⟩, HS, ⟨by have e : i1 - 1 = i := (by have := HI1.out; omega); rw [e]; exact HO.out⟩⟩
      | false =>
        rw [if_neg Bool.false_ne_true] at h1
        obtain rfl := Option.some.inj h1
        clear h1
        go_wp2_with (go_at_call 41; refine (isa_chk_calls k _ c l maps w0 _ g5 g2 g3 HC.out Hc.out _ _ _ _ _ (i - 1) i false HJ.out HO.out HF.out).mono ?_; rintro e wk ⟨rfl, hO_⟩; clear HO; have HO := Aside0.mk hO_; clear hO_; dsimp only)
        go_ret
        exact ⟨rfl, _, HO.out⟩
set_option maxHeartbeats 8000000 in
set_option maxRecDepth 100000 in
theorem isa_con_calls (k : Nat) (A : Option Addr) (c : Nat) (l : List S24) (maps : Int) (w0 w : World) (g5 g2 g3 : Nat) (hC : Kd.C k24 w0 A l.length l) (hc : l.length ≤ c) (r : Int) (b : Bool) (hb : decide (0 ≤ r) = b) (hm : l.length ≤ 64) (hO : Own w0 w [(g5, .cells #[.int .i64 (-1)] 3 (0, 0)), (g2, .cells #[.slice A l.length c] 28 (0, 0)), (g3, .cells #[.int .i64 maps] 3 (0, 0))]) (hf : isa_scan k l maps l.length 0 = some r) :
    Calls Try.prog 40 #[.slice A l.length c, .func (.func 41) #[] #[.pointer (some ⟨g5, 0, none⟩), .pointer (some ⟨g2, 0, none⟩), .pointer (some ⟨g3, 0, none⟩)]] w fun e w' => e = .returned (.bool b) ∧ ∃ i, Own w0 w' [(g5, .cells #[.int .i64 i] 3 (0, 0)), (g2, .cells #[.slice A l.length c] 28 (0, 0)), (g3, .cells #[.int .i64 maps] 3 (0, 0))] := by
  have HO := Aside0.mk hO
  have HC := Aside0.mk hC
  have Hc := Aside0.mk hc
  have HS := Aside0.mk hf
  have HM := Aside0.mk hm
  have HBb := Aside0.mk hb
  clear hO hC hf hc hm hb
  go_enter Try.func40, Try.ntmps40
  go_wp2_with ((with_reducible refine gate_callee (f := 59) rfl ?_); (with_reducible refine gate_dst (N := 7) rfl ?_); refine goesL_ (some 7) rfl rfl Try.func59 (by kernel_rfl) rfl #[.slice A l.length c, .func (.func 41) #[] #[.pointer (some ⟨g5, 0, none⟩), .pointer (some ⟨g2, 0, none⟩), .pointer (some ⟨g3, 0, none⟩)]] rfl (by (try simp only [List.map_toArray, List.map_cons, List.map_nil]); first | done | rfl) ?_; (with_reducible refine (isa_idx_calls k A c l maps w0 _ g5 g2 g3 HC.out Hc.out r HM.out HO.out HS.out).mono ?_); rintro e wx ⟨rfl, i, hO_⟩; refine ⟨_, rfl, ?_⟩; clear HO; have HO := Aside0.mk hO_; clear hO_)
  go_ret
  exact ⟨congrArg (fun b => Ending.returned (Value.bool b)) HBb.out, _, HO.out⟩
set_option maxHeartbeats 8000000 in
set_option maxRecDepth 100000 in
theorem isa_Check.calls (k : Nat) (A0 : Option Addr) (c0 : Nat) (l0 : List S24) (a1 : Int) (r : Int) (w : World) (hr0 : Kd.C k24 w A0 l0.length l0) (hc0 : l0.length ≤ c0) (h : isa_Check.f k l0 a1 = some r) :
    Calls Try.prog 18 #[.slice A0 l0.length c0, .int .i64 a1] w fun e w' => e = .returned (.int .i64 r) ∧ Below w.heap.size w w' := by
  obtain ⟨A, hA⟩ : ∃ A, A = A0 := ⟨_, rfl⟩
  subst hA
  obtain ⟨c, hA⟩ : ∃ c, c = c0 := ⟨_, rfl⟩
  subst hA
  obtain ⟨l, hA⟩ : ∃ l, l = l0 := ⟨_, rfl⟩
  subst hA
  obtain ⟨maps, hA⟩ : ∃ maps, maps = a1 := ⟨_, rfl⟩
  subst hA
  have hu := Try.underlying24
  have HO := Aside0.mk (Own.refl w)
  have HC := Aside0.mk hr0
  have Hc := Aside0.mk hc0
  clear hr0 hc0
  unfold isa_Check.f at h
  by_cases z0 : l.length = 0
  · rw [if_pos z0] at h
    obtain rfl := Option.some.inj h
    have d0 : ((l.length : Int) == 0) = true := beq_iff_eq.mpr (by omega)
    clear h z0
    go_enter Try.func18, Try.ntmps18
    go_wp2_with (first | ((with_reducible refine gate_dst (N := 2) rfl ?_); refine own_box HO.out ?hg (N := 2) ?hd (cs := #[.slice A l.length c]) (t := 28) ?hr ?_; (case hd => rfl); (case hg => rfl); (case hr => first | (go_simp; done) | (go_simp; rfl) | kernel_rfl); intro g2 w2 hO_; clear HO; have HO := Aside0.mk hO_; clear hO_) | ((with_reducible refine gate_dst (N := 3) rfl ?_); refine own_box HO.out ?hg (N := 3) ?hd (cs := #[.int .i64 maps]) (t := 3) ?hr ?_; (case hd => rfl); (case hg => rfl); (case hr => first | (go_simp; done) | (go_simp; rfl) | kernel_rfl); intro g3 w3 hO_; clear HO; have HO := Aside0.mk hO_; clear hO_; have hc2 : w3.cell? ⟨g2, 0, none⟩ = some (Value.slice A l.length c) := (HO.out.cell (g := g2) (cs := #[.slice A l.length c]) (by (first | exact .head | exact .tail (.head) | exact .tail (.tail (.head)) | exact .tail (.tail (.tail (.head))) | exact .tail (.tail (.tail (.tail (.head)))) | exact .tail (.tail (.tail (.tail (.tail (.head))))) | exact .tail (.tail (.tail (.tail (.tail (.tail (.head)))))) | exact .tail (.tail (.tail (.tail (.tail (.tail (.tail (.head))))))) | exact .tail (.tail (.tail (.tail (.tail (.tail (.tail (.tail (.head)))))))))) 0).trans rfl))
    go_ret
    exact ⟨rfl, HO.out.bel⟩
  · rw [if_neg z0] at h
    have d0 : ((l.length : Int) == 0) = false := beq_eq_false_iff_ne.mpr (by omega)
    by_cases z1 : 64 < l.length
    · rw [if_pos z1] at h
      obtain rfl := Option.some.inj h
      have d1 : decide ((64 : Int) < (l.length : Int)) = true := decide_eq_true (by omega)
      clear h z0 z1
      go_enter Try.func18, Try.ntmps18
      go_wp2_with (first | ((with_reducible refine gate_dst (N := 2) rfl ?_); refine own_box HO.out ?hg (N := 2) ?hd (cs := #[.slice A l.length c]) (t := 28) ?hr ?_; (case hd => rfl); (case hg => rfl); (case hr => first | (go_simp; done) | (go_simp; rfl) | kernel_rfl); intro g2 w2 hO_; clear HO; have HO := Aside0.mk hO_; clear hO_) | ((with_reducible refine gate_dst (N := 3) rfl ?_); refine own_box HO.out ?hg (N := 3) ?hd (cs := #[.int .i64 maps]) (t := 3) ?hr ?_; (case hd => rfl); (case hg => rfl); (case hr => first | (go_simp; done) | (go_simp; rfl) | kernel_rfl); intro g3 w3 hO_; clear HO; have HO := Aside0.mk hO_; clear hO_; have hc2 : w3.cell? ⟨g2, 0, none⟩ = some (Value.slice A l.length c) := (HO.out.cell (g := g2) (cs := #[.slice A l.length c]) (by (first | exact .head | exact .tail (.head) | exact .tail (.tail (.head)) | exact .tail (.tail (.tail (.head))) | exact .tail (.tail (.tail (.tail (.head)))) | exact .tail (.tail (.tail (.tail (.tail (.head))))) | exact .tail (.tail (.tail (.tail (.tail (.tail (.head)))))) | exact .tail (.tail (.tail (.tail (.tail (.tail (.tail (.head))))))) | exact .tail (.tail (.tail (.tail (.tail (.tail (.tail (.tail (.head)))))))))) 0).trans rfl))
      go_ret
      exact ⟨rfl, HO.out.bel⟩
    · rw [if_neg z1] at h
      have d1 : decide ((64 : Int) < (l.length : Int)) = false := decide_eq_false (by omega)
      have HZ : Aside0 (0 < l.length ∧ l.length ≤ 64) := ⟨by omega, by omega⟩
      clear z0 z1
      obtain ⟨j, hj⟩ : ∃ j : Int, (l.length : Int) - 1 = j := ⟨_, rfl⟩
      have hjw : IntKind.i64.wrap ((l.length : Int) - 1) = j := by rw [hj]; exact IntWalk.i64_in _ (by have := HZ.out; omega)
      rw [hj] at h
      have p1 : 0 ≤ j := by have := HZ.out; omega
      have q1 : j < (l.length : Int) := by have := HZ.out; omega
      clear hj
      obtain ⟨ad, e, hx0, hx1, hx2, hx3, hx4⟩ := at_T24 HC.out j p1 q1
      cases e
      have HX := Aside0.mk (And.intro hx0 (And.intro hx1 (And.intro hx2 (And.intro hx3 hx4))))
      clear hx0 hx1 hx2 hx3 hx4
      replace p1 := eq_true p1
      replace q1 := eq_true q1
      generalize hy : rd_T24 l j = y at h HX
      clear hy
      by_cases z2 : isa_exit y = true
      · rw [if_pos z2] at h
        obtain ⟨y0, y1, y2, y3, y4⟩ := y
        obtain ⟨rfl, rfl, rfl, rfl, rfl⟩ : y0 = 149 ∧ y1 = 0 ∧ y2 = 0 ∧ y3 = 0 ∧ y4 = 0 := by simpa [isa_exit] using z2
        clear z2
        obtain ⟨s, h0, h1⟩ := Option.bind_eq_some_iff.mp h
        clear h
        have HS := Aside0.mk h0
        clear h0
        by_cases z3 : 0 ≤ s
        · rw [if_pos z3] at h1
          obtain rfl := Option.some.inj h1
          have d3 : decide (0 ≤ s) = true := decide_eq_true z3
          clear z3 h1
          go_enter Try.func18, Try.ntmps18
          go_wp2_with (first | ((with_reducible refine gate_dst (N := 2) rfl ?_); refine own_box HO.out ?hg (N := 2) ?hd (cs := #[.slice (some ad) l.length c]) (t := 28) ?hr ?_; (case hd => rfl); (case hg => rfl); (case hr => first | (go_simp; done) | (go_simp; rfl) | kernel_rfl); intro g2 w2 hO_; clear HO; have HO := Aside0.mk hO_; clear hO_) | ((with_reducible refine gate_dst (N := 3) rfl ?_); refine own_box HO.out ?hg (N := 3) ?hd (cs := #[.int .i64 maps]) (t := 3) ?hr ?_; (case hd => rfl); (case hg => rfl); (case hr => first | (go_simp; done) | (go_simp; rfl) | kernel_rfl); intro g3 w3 hO_; clear HO; have HO := Aside0.mk hO_; clear hO_; have hc2 : w3.cell? ⟨g2, 0, none⟩ = some (Value.slice (some ad) l.length c) := (HO.out.cell (g := g2) (cs := #[.slice (some ad) l.length c]) (by (first | exact .head | exact .tail (.head) | exact .tail (.tail (.head)) | exact .tail (.tail (.tail (.head))) | exact .tail (.tail (.tail (.tail (.head)))) | exact .tail (.tail (.tail (.tail (.tail (.head))))) | exact .tail (.tail (.tail (.tail (.tail (.tail (.head)))))) | exact .tail (.tail (.tail (.tail (.tail (.tail (.tail (.head))))))) | exact .tail (.tail (.tail (.tail (.tail (.tail (.tail (.tail (.head)))))))))) 0).trans rfl; have ⟨hx0, hx1, hx2, hx3, hx4⟩ := HX.out; replace hx0 := (HO.out.bel.cell (World.block_lt_of_cell? w _ hx0)).trans hx0; replace hx1 := (HO.out.bel.cell (World.block_lt_of_cell? w _ hx1)).trans hx1; replace hx2 := (HO.out.bel.cell (World.block_lt_of_cell? w _ hx2)).trans hx2; replace hx3 := (HO.out.bel.cell (World.block_lt_of_cell? w _ hx3)).trans hx3; replace hx4 := (HO.out.bel.cell (World.block_lt_of_cell? w _ hx4)).trans hx4) | ((with_reducible refine gate_dst (N := 5) rfl ?_); refine own_box HO.out ?hg (N := 5) ?hd (cs := #[.int .i64 0]) (t := 3) ?hr ?_; (case hd => rfl); (case hg => rfl); (case hr => first | (go_simp; done) | (go_simp; rfl) | kernel_rfl); intro g5 w5 hO_; clear HO; have HO := Aside0.mk hO_; clear hO_) | ((with_reducible refine gate_store (p := 5) rfl ?_); refine own_store HO.out rfl (ty := 3) (x := .tmp 5) (y := .const (.int .i64 (-1))) (v := .int .i64 (-1)) (cs' := #[.int .i64 (-1)]) rfl (by rfl) (by rfl) (by (first | exact .head | exact .tail (.head) | exact .tail (.tail (.head)) | exact .tail (.tail (.tail (.head))) | exact .tail (.tail (.tail (.tail (.head)))) | exact .tail (.tail (.tail (.tail (.tail (.head))))) | exact .tail (.tail (.tail (.tail (.tail (.tail (.head)))))) | exact .tail (.tail (.tail (.tail (.tail (.tail (.tail (.head))))))) | exact .tail (.tail (.tail (.tail (.tail (.tail (.tail (.tail (.head)))))))))) (by kernel_rfl) (by rfl) (by first | decide | (simp; done)) (by rfl) ?_; intro wc hO_; clear HO; have HO := Aside0.mk hO_; clear hO_; (try clear hx0 hx1 hx2 hx3 hx4); clear hc2; have hO_ : Own w wc [(g5, .cells #[.int .i64 (-1)] 3 (0, 0)), (g2, .cells #[.slice (some ad) l.length c] 28 (0, 0)), (g3, .cells #[.int .i64 maps] 3 (0, 0))] := HO.out.picks (.cons (by (first | exact .head | exact .tail (.head) | exact .tail (.tail (.head)) | exact .tail (.tail (.tail (.head))) | exact .tail (.tail (.tail (.tail (.head)))) | exact .tail (.tail (.tail (.tail (.tail (.head))))) | exact .tail (.tail (.tail (.tail (.tail (.tail (.head)))))) | exact .tail (.tail (.tail (.tail (.tail (.tail (.tail (.head))))))) | exact .tail (.tail (.tail (.tail (.tail (.tail (.tail (.tail (.head)))))))))) (.cons (by (first | exact .head | exact .tail (.head) | exact .tail (.tail (.head)) | exact .tail (.tail (.tail (.head))) | exact .tail (.tail (.tail (.tail (.head)))) | exact .tail (.tail (.tail (.tail (.tail (.head))))) | exact .tail (.tail (.tail (.tail (.tail (.tail (.head)))))) | exact .tail (.tail (.tail (.tail (.tail (.tail (.tail (.head))))))) | exact .tail (.tail (.tail (.tail (.tail (.tail (.tail (.tail (.head)))))))))) (.cons (by (first | exact .head | exact .tail (.head) | exact .tail (.tail (.head)) | exact .tail (.tail (.tail (.head))) | exact .tail (.tail (.tail (.tail (.head)))) | exact .tail (.tail (.tail (.tail (.tail (.head))))) | exact .tail (.tail (.tail (.tail (.tail (.tail (.head)))))) | exact .tail (.tail (.tail (.tail (.tail (.tail (.tail (.head))))))) | exact .tail (.tail (.tail (.tail (.tail (.tail (.tail (.tail (.head)))))))))) (.nil)))); clear HO; have HO := Aside0.mk hO_; clear hO_) | ((with_reducible refine gate_dst (N := 24) rfl ?_); refine own_load HO.out rfl (x := .tmp 2) (v := .slice (some ad) l.length c) rfl (by rfl) (by (first | exact .head | exact .tail (.head) | exact .tail (.tail (.head)) | exact .tail (.tail (.tail (.head))) | exact .tail (.tail (.tail (.tail (.head)))) | exact .tail (.tail (.tail (.tail (.tail (.head))))) | exact .tail (.tail (.tail (.tail (.tail (.tail (.head)))))) | exact .tail (.tail (.tail (.tail (.tail (.tail (.tail (.head))))))) | exact .tail (.tail (.tail (.tail (.tail (.tail (.tail (.tail (.head)))))))))) Try.underlying28 (by rfl) (by rfl) ?_) | ((with_reducible refine gate_callee (f := 40) rfl ?_); (with_reducible refine gate_dst (N := 26) rfl ?_); refine goesL_ (some 26) rfl rfl Try.func40 (by kernel_rfl) rfl #[.slice (some ad) l.length c, .func (.func 41) #[] #[.pointer (some ⟨g5, 0, none⟩), .pointer (some ⟨g2, 0, none⟩), .pointer (some ⟨g3, 0, none⟩)]] rfl (by (try simp only [List.map_toArray, List.map_cons, List.map_nil]); first | done | rfl) ?_; (with_reducible refine (isa_con_calls k _ c l maps w _ g5 g2 g3 HC.out Hc.out s _ d3 HZ.out.2 HO.out HS.out).mono ?_); rintro e wx ⟨rfl, i, hO_⟩; refine ⟨_, rfl, ?_⟩; clear HO; have HO := Aside0.mk hO_; clear hO_))
          go_ret
          exact ⟨rfl, HO.out.bel⟩
        · rw [if_neg z3] at h1
          obtain rfl := Option.some.inj h1
          have d3 : decide (0 ≤ s) = false := decide_eq_false z3
          clear z3 h1
          go_enter Try.func18, Try.ntmps18
          go_wp2_with (first | ((with_reducible refine gate_dst (N := 2) rfl ?_); refine own_box HO.out ?hg (N := 2) ?hd (cs := #[.slice (some ad) l.length c]) (t := 28) ?hr ?_; (case hd => rfl); (case hg => rfl); (case hr => first | (go_simp; done) | (go_simp; rfl) | kernel_rfl); intro g2 w2 hO_; clear HO; have HO := Aside0.mk hO_; clear hO_) | ((with_reducible refine gate_dst (N := 3) rfl ?_); refine own_box HO.out ?hg (N := 3) ?hd (cs := #[.int .i64 maps]) (t := 3) ?hr ?_; (case hd => rfl); (case hg => rfl); (case hr => first | (go_simp; done) | (go_simp; rfl) | kernel_rfl); intro g3 w3 hO_; clear HO; have HO := Aside0.mk hO_; clear hO_; have hc2 : w3.cell? ⟨g2, 0, none⟩ = some (Value.slice (some ad) l.length c) := (HO.out.cell (g := g2) (cs := #[.slice (some ad) l.length c]) (by (first | exact .head | exact .tail (.head) | exact .tail (.tail (.head)) | exact .tail (.tail (.tail (.head))) | exact .tail (.tail (.tail (.tail (.head)))) | exact .tail (.tail (.tail (.tail (.tail (.head))))) | exact .tail (.tail (.tail (.tail (.tail (.tail (.head)))))) | exact .tail (.tail (.tail (.tail (.tail (.tail (.tail (.head))))))) | exact .tail (.tail (.tail (.tail (.tail (.tail (.tail (.tail (.head)))))))))) 0).trans rfl; have ⟨hx0, hx1, hx2, hx3, hx4⟩ := HX.out; replace hx0 := (HO.out.bel.cell (World.block_lt_of_cell? w _ hx0)).trans hx0; replace hx1 := (HO.out.bel.cell (World.block_lt_of_cell? w _ hx1)).trans hx1; replace hx2 := (HO.out.bel.cell (World.block_lt_of_cell? w _ hx2)).trans hx2; replace hx3 := (HO.out.bel.cell (World.block_lt_of_cell? w _ hx3)).trans hx3; replace hx4 := (HO.out.bel.cell (World.block_lt_of_cell? w _ hx4)).trans hx4) | ((with_reducible refine gate_dst (N := 5) rfl ?_); refine own_box HO.out ?hg (N := 5) ?hd (cs := #[.int .i64 0]) (t := 3) ?hr ?_; (case hd => rfl); (case hg => rfl); (case hr => first | (go_simp; done) | (go_simp; rfl) | kernel_rfl); intro g5 w5 hO_; clear HO; have HO := Aside0.mk hO_; clear hO_) | ((with_reducible refine gate_store (p := 5) rfl ?_); refine own_store HO.out rfl (ty := 3) (x := .tmp 5) (y := .const (.int .i64 (-1))) (v := .int .i64 (-1)) (cs' := #[.int .i64 (-1)]) rfl (by rfl) (by rfl) (by (first | exact .head | exact .tail (.head) | exact .tail (.tail (.head)) | exact .tail (.tail (.tail (.head))) | exact .tail (.tail (.tail (.tail (.head)))) | exact .tail (.tail (.tail (.tail (.tail (.head))))) | exact .tail (.tail (.tail (.tail (.tail (.tail (.head)))))) | exact .tail (.tail (.tail (.tail (.tail (.tail (.tail (.head))))))) | exact .tail (.tail (.tail (.tail (.tail (.tail (.tail (.tail (.head)))))))))) (by kernel_rfl) (by rfl) (by first | decide | (simp; done)) (by rfl) ?_; intro wc hO_; clear HO; have HO := Aside0.mk hO_; clear hO_; (try clear hx0 hx1 hx2 hx3 hx4); clear hc2; have hO_ : Own w wc [(g5, .cells #[.int .i64 (-1)] 3 (0, 0)), (g2, .cells #[.slice (some ad) l.length c] 28 (0, 0)), (g3, .cells #[.int .i64 maps] 3 (0, 0))] := HO.out.picks (.cons (by (first | exact .head | exact .tail (.head) | exact .tail (.tail (.head)) | exact .tail (.tail (.tail (.head))) | exact .tail (.tail (.tail (.tail (.head)))) | exact .tail (.tail (.tail (.tail (.tail (.head))))) | exact .tail (.tail (.tail (.tail (.tail (.tail (.head)))))) | exact .tail (.tail (.tail (.tail (.tail (.tail (.tail (.head))))))) | exact .tail (.tail (.tail (.tail (.tail (.tail (.tail (.tail (.head)))))))))) (.cons (by (first | exact .head | exact .tail (.head) | exact .tail (.tail (.head)) | exact .tail (.tail (.tail (.head))) | exact .tail (.tail (.tail (.tail (.head)))) | exact .tail (.tail (.tail (.tail (.tail (.head))))) | exact .tail (.tail (.tail (.tail (.tail (.tail (.head)))))) | exact .tail (.tail (.tail (.tail (.tail (.tail (.tail (.head))))))) | exact .tail (.tail (.tail (.tail (.tail (.tail (.tail (.tail (.head)))))))))) (.cons (by (first | exact .head | exact .tail (.head) | exact .tail (.tail (.head)) | exact .tail (.tail (.tail (.head))) | exact .tail (.tail (.tail (.tail (.head)))) | exact .tail (.tail (.tail (.tail (.tail (.head))))) | exact .tail (.tail (.tail (.tail (.tail (.tail (.head)))))) | exact .tail (.tail (.tail (.tail (.tail (.tail (.tail (.head))))))) | exact .tail (.tail (.tail (.tail (.tail (.tail (.tail (.tail (.head)))))))))) (.nil)))); clear HO; have HO := Aside0.mk hO_; clear hO_) | ((with_reducible refine gate_dst (N := 24) rfl ?_); refine own_load HO.out rfl (x := .tmp 2) (v := .slice (some ad) l.length c) rfl (by rfl) (by (first | exact .head | exact .tail (.head) | exact .tail (.tail (.head)) | exact .tail (.tail (.tail (.head))) | exact .tail (.tail (.tail (.tail (.head)))) | exact .tail (.tail (.tail (.tail (.tail (.head))))) | exact .tail (.tail (.tail (.tail (.tail (.tail (.head)))))) | exact .tail (.tail (.tail (.tail (.tail (.tail (.tail (.head))))))) | exact .tail (.tail (.tail (.tail (.tail (.tail (.tail (.tail (.head)))))))))) Try.underlying28 (by rfl) (by rfl) ?_) | ((with_reducible refine gate_callee (f := 40) rfl ?_); (with_reducible refine gate_dst (N := 26) rfl ?_); refine goesL_ (some 26) rfl rfl Try.func40 (by kernel_rfl) rfl #[.slice (some ad) l.length c, .func (.func 41) #[] #[.pointer (some ⟨g5, 0, none⟩), .pointer (some ⟨g2, 0, none⟩), .pointer (some ⟨g3, 0, none⟩)]] rfl (by (try simp only [List.map_toArray, List.map_cons, List.map_nil]); first | done | rfl) ?_; (with_reducible refine (isa_con_calls k _ c l maps w _ g5 g2 g3 HC.out Hc.out s _ d3 HZ.out.2 HO.out HS.out).mono ?_); rintro e wx ⟨rfl, i, hO_⟩; refine ⟨_, rfl, ?_⟩; clear HO; have HO := Aside0.mk hO_; clear hO_))
          go_ret
          exact ⟨rfl, HO.out.bel⟩
      · rw [if_neg z2] at h
        obtain rfl := Option.some.inj h
        have z2 : isa_exit y = false := by simpa using z2
        unfold isa_exit at z2
        clear h
        go_enter Try.func18, Try.ntmps18
        go_wp2_with (first | ((with_reducible refine gate_dst (N := 2) rfl ?_); refine own_box HO.out ?hg (N := 2) ?hd (cs := #[.slice (some ad) l.length c]) (t := 28) ?hr ?_; (case hd => rfl); (case hg => rfl); (case hr => first | (go_simp; done) | (go_simp; rfl) | kernel_rfl); intro g2 w2 hO_; clear HO; have HO := Aside0.mk hO_; clear hO_) | ((with_reducible refine gate_dst (N := 3) rfl ?_); refine own_box HO.out ?hg (N := 3) ?hd (cs := #[.int .i64 maps]) (t := 3) ?hr ?_; (case hd => rfl); (case hg => rfl); (case hr => first | (go_simp; done) | (go_simp; rfl) | kernel_rfl); intro g3 w3 hO_; clear HO; have HO := Aside0.mk hO_; clear hO_; have hc2 : w3.cell? ⟨g2, 0, none⟩ = some (Value.slice (some ad) l.length c) := (HO.out.cell (g := g2) (cs := #[.slice (some ad) l.length c]) (by (first | exact .head | exact .tail (.head) | exact .tail (.tail (.head)) | exact .tail (.tail (.tail (.head))) | exact .tail (.tail (.tail (.tail (.head)))) | exact .tail (.tail (.tail (.tail (.tail (.head))))) | exact .tail (.tail (.tail (.tail (.tail (.tail (.head)))))) | exact .tail (.tail (.tail (.tail (.tail (.tail (.tail (.head))))))) | exact .tail (.tail (.tail (.tail (.tail (.tail (.tail (.tail (.head)))))))))) 0).trans rfl; have ⟨hx0, hx1, hx2, hx3, hx4⟩ := HX.out; replace hx0 := (HO.out.bel.cell (World.block_lt_of_cell? w _ hx0)).trans hx0; replace hx1 := (HO.out.bel.cell (World.block_lt_of_cell? w _ hx1)).trans hx1; replace hx2 := (HO.out.bel.cell (World.block_lt_of_cell? w _ hx2)).trans hx2; replace hx3 := (HO.out.bel.cell (World.block_lt_of_cell? w _ hx3)).trans hx3; replace hx4 := (HO.out.bel.cell (World.block_lt_of_cell? w _ hx4)).trans hx4))
        all_goals first | (go_ret; exact ⟨rfl, HO.out.bel⟩) | (exfalso; simp_all; done)


/-! ### halberdlaw03_alive: function 9 -/
def halberdlaw03_alive.f (k : Nat)  : Option (Bool) := (isa_Check.f k (([(⟨183, 0, 0, 0, 0⟩ : S24), (⟨149, 0, 0, 0, 0⟩ : S24)] : List (S24))) 0).bind fun t134 => (if t134 = 0 then ((isa_Check.f k (([(⟨149, 0, 0, 0, 0⟩ : S24)] : List (S24))) 0).bind fun t138 => (if t138 = 0 then ((isa_Check.f k (([(⟨5, 0, 0, (-1), 0⟩ : S24), (⟨149, 0, 0, 0, 0⟩ : S24)] : List (S24))) 0).bind fun t142 => (if t142 = 22 then ((isa_Right.f k 183 10 0 0 0).bind fun t143 => (some (!t143))) else (some false))) else (some false))) else (some false))
theorem halberdlaw03_alive.mono : ∀ k, LeO (halberdlaw03_alive.f k ) (halberdlaw03_alive.f (k + 1) ) := by
  intro  k
  unfold halberdlaw03_alive.f
  repeat' first
      | (with_reducible exact isa_Check.mono _ _ _)
      | (with_reducible exact isa_Right.mono _ _ _ _ _ _)
      | (with_reducible exact LeO.refl _)
      | (with_reducible exact LeO.none _)
      | (with_reducible refine LeO.ite ?_ ?_)
      | (with_reducible refine LeO.bind ?_ (fun _ => ?_))
      | exact isa_Check.mono _ _ _
      | exact isa_Right.mono _ _ _ _ _ _
      | exact LeO.none _
      | refine LeO.ite ?_ ?_
      | refine LeO.bind ?_ (fun _ => ?_)
set_option maxHeartbeats 8000000 in
set_option maxRecDepth 100000 in
theorem halberdlaw03_alive.calls (k : Nat)  (r : Bool) (w : World) (h : halberdlaw03_alive.f k  = some r) :
    Calls Try.prog 9 #[] w fun e w' => e = .returned (.bool r) ∧ Below w.heap.size w w' := by
  have hu24 := Try.underlying24
  have HB := Aside0.mk (Below.refl w.heap.size w)
  have H : ((isa_Check.f k (([(⟨183, 0, 0, 0, 0⟩ : S24), (⟨149, 0, 0, 0, 0⟩ : S24)] : List (S24))) 0).bind fun t134 => (if t134 = 0 then ((isa_Check.f k (([(⟨149, 0, 0, 0, 0⟩ : S24)] : List (S24))) 0).bind fun t138 => (if t138 = 0 then ((isa_Check.f k (([(⟨5, 0, 0, (-1), 0⟩ : S24), (⟨149, 0, 0, 0, 0⟩ : S24)] : List (S24))) 0).bind fun t142 => (if t142 = 22 then ((isa_Right.f k 183 10 0 0 0).bind fun t143 => (some (!t143))) else (some false))) else (some false))) else (some false))) = some r := h
  clear h
  obtain ⟨y131, hy131⟩ : ∃ y_ : List (S24), y_ = (([(⟨183, 0, 0, 0, 0⟩ : S24), (⟨149, 0, 0, 0, 0⟩ : S24)] : List (S24))) := ⟨_, rfl⟩
  replace H : ((isa_Check.f k y131 0).bind fun t134 => (if t134 = 0 then ((isa_Check.f k (([(⟨149, 0, 0, 0, 0⟩ : S24)] : List (S24))) 0).bind fun t138 => (if t138 = 0 then ((isa_Check.f k (([(⟨5, 0, 0, (-1), 0⟩ : S24), (⟨149, 0, 0, 0, 0⟩ : S24)] : List (S24))) 0).bind fun t142 => (if t142 = 22 then ((isa_Right.f k 183 10 0 0 0).bind fun t143 => (some (!t143))) else (some false))) else (some false))) else (some false))) = some r := by first | (rw [hy131]; with_reducible exact H) | (have H2_ := (Option.bind_some _ _).symm.trans H; rw [hy131]; with_reducible exact H2_) | (have H2_ := (Option.bind_some _ _).symm.trans H; with_reducible exact H2_) | with_reducible exact H | (rw [hy131]; exact H) | exact H
  have Ny131 := Aside0.mk hy131
  clear hy131
  replace H := Option.bind_eq_some_iff.mp H
  obtain ⟨t134, A10, H⟩ := H
  replace H : (if t134 = 0 then ((isa_Check.f k (([(⟨149, 0, 0, 0, 0⟩ : S24)] : List (S24))) 0).bind fun t138 => (if t138 = 0 then ((isa_Check.f k (([(⟨5, 0, 0, (-1), 0⟩ : S24), (⟨149, 0, 0, 0, 0⟩ : S24)] : List (S24))) 0).bind fun t142 => (if t142 = 22 then ((isa_Right.f k 183 10 0 0 0).bind fun t143 => (some (!t143))) else (some false))) else (some false))) else (some false)) = some r := H
  have A1 := Aside0.mk A10
  clear A10
  by_cases c2 : t134 = 0
  · rw [if_pos c2] at H
    have c2b0 : (t134 == 0) = true := beq_iff_eq.mpr c2
    have c2b1 : (t134 != 0) = false := bne_eq_false_iff_eq.mpr c2
    clear c2
    obtain ⟨y135, hy135⟩ : ∃ y_ : List (S24), y_ = (([(⟨149, 0, 0, 0, 0⟩ : S24)] : List (S24))) := ⟨_, rfl⟩
    replace H : ((isa_Check.f k y135 0).bind fun t138 => (if t138 = 0 then ((isa_Check.f k (([(⟨5, 0, 0, (-1), 0⟩ : S24), (⟨149, 0, 0, 0, 0⟩ : S24)] : List (S24))) 0).bind fun t142 => (if t142 = 22 then ((isa_Right.f k 183 10 0 0 0).bind fun t143 => (some (!t143))) else (some false))) else (some false))) = some r := by first | (rw [hy135]; with_reducible exact H) | (have H2_ := (Option.bind_some _ _).symm.trans H; rw [hy135]; with_reducible exact H2_) | (have H2_ := (Option.bind_some _ _).symm.trans H; with_reducible exact H2_) | with_reducible exact H | (rw [hy135]; exact H) | exact H
    have Ny135 := Aside0.mk hy135
    clear hy135
    replace H := Option.bind_eq_some_iff.mp H
    obtain ⟨t138, A30, H⟩ := H
    replace H : (if t138 = 0 then ((isa_Check.f k (([(⟨5, 0, 0, (-1), 0⟩ : S24), (⟨149, 0, 0, 0, 0⟩ : S24)] : List (S24))) 0).bind fun t142 => (if t142 = 22 then ((isa_Right.f k 183 10 0 0 0).bind fun t143 => (some (!t143))) else (some false))) else (some false)) = some r := H
    have A3 := Aside0.mk A30
    clear A30
    by_cases c4 : t138 = 0
    · rw [if_pos c4] at H
      have c4b0 : (t138 == 0) = true := beq_iff_eq.mpr c4
      have c4b1 : (t138 != 0) = false := bne_eq_false_iff_eq.mpr c4
      clear c4
      obtain ⟨y139, hy139⟩ : ∃ y_ : List (S24), y_ = (([(⟨5, 0, 0, (-1), 0⟩ : S24), (⟨149, 0, 0, 0, 0⟩ : S24)] : List (S24))) := ⟨_, rfl⟩
      replace H : ((isa_Check.f k y139 0).bind fun t142 => (if t142 = 22 then ((isa_Right.f k 183 10 0 0 0).bind fun t143 => (some (!t143))) else (some false))) = some r := by first | (rw [hy139]; with_reducible exact H) | (have H2_ := (Option.bind_some _ _).symm.trans H; rw [hy139]; with_reducible exact H2_) | (have H2_ := (Option.bind_some _ _).symm.trans H; with_reducible exact H2_) | with_reducible exact H | (rw [hy139]; exact H) | exact H
      have Ny139 := Aside0.mk hy139
      clear hy139
      replace H := Option.bind_eq_some_iff.mp H
      obtain ⟨t142, A50, H⟩ := H
      replace H : (if t142 = 22 then ((isa_Right.f k 183 10 0 0 0).bind fun t143 => (some (!t143))) else (some false)) = some r := H
      have A5 := Aside0.mk A50
      clear A50
      by_cases c6 : t142 = 22
      · rw [if_pos c6] at H
        have c6b0 : (t142 == 22) = true := beq_iff_eq.mpr c6
        have c6b1 : (t142 != 22) = false := bne_eq_false_iff_eq.mpr c6
        clear c6
        replace H := Option.bind_eq_some_iff.mp H
        obtain ⟨t143, A70, H⟩ := H
        replace H : (some (!t143)) = some r := H
        have A7 := Aside0.mk A70
        clear A70
        obtain rfl := Option.some.inj H
        go_enter Try.func9, Try.ntmps9
        go_wp2_with (first | ((with_reducible refine gate_dst (N := 1) rfl ?_); (try (refine gate_guard (by rfl) ?_; dsimp only)); refine box_event ?hg (N := 1) ?hd (cs := #[.int .u8 0, .int .u8 0, .int .u8 0, .int .i16 0, .int .i32 0]) (t := 24) ?hr ?_; (case hd => rfl); (case hg => rfl); (case hr => first | (go_simp; done) | (go_simp; rfl)); intro gb130 hg w8 hbox hb; have n0_ := Aside0.mk (below_step (by repeat (first | (with_reducible first | exact HB.out | apply below_alloc | apply pw_below_drewN | apply below_drew1) | exact HB.out)) hb); have n1_ := Aside0.mk (hbox); have n2_ := Aside0.mk ((by rw [hg]; exact (below_size (by repeat (first | (with_reducible first | exact HB.out | apply below_alloc | apply pw_below_drewN | apply below_drew1) | exact HB.out))) : w.heap.size ≤ gb130)); have n3_ := Aside0.mk ((by rw [hg]; exact (below_size (by repeat (first | (with_reducible first | exact HB.out | apply below_alloc | apply pw_below_drewN | apply below_drew1) | exact HB.out))) : w.heap.size ≤ gb130)); clear HB; have HB := n0_; have BK130 := n1_; have GW130 := n2_; have GE130 := n3_; clear n0_ n1_ n2_ n3_; clear hb hbox hg; have hcz9_0 : w8.cell? ⟨gb130, 0, none⟩ = some (.int .u8 0) := (blk_cell BK130.out 0).trans rfl; have hcz9_1 : w8.cell? ⟨gb130, 1, none⟩ = some (.int .u8 0) := (blk_cell BK130.out 1).trans rfl; have hcz9_2 : w8.cell? ⟨gb130, 2, none⟩ = some (.int .u8 0) := (blk_cell BK130.out 2).trans rfl; have hcz9_3 : w8.cell? ⟨gb130, 3, none⟩ = some (.int .i16 0) := (blk_cell BK130.out 3).trans rfl; have hcz9_4 : w8.cell? ⟨gb130, 4, none⟩ = some (.int .i32 0) := (blk_cell BK130.out 4).trans rfl; have hfz9_0 := blk_frozen BK130.out 0; have hfz9_1 := blk_frozen BK130.out 1; have hfz9_2 := blk_frozen BK130.out 2; have hfz9_3 := blk_frozen BK130.out 3; have hfz9_4 := blk_frozen BK130.out 4) | ((with_reducible refine gate_dst (N := 5) rfl ?_); (try (refine gate_guard (by rfl) ?_; dsimp only)); refine Kd.R_lit k24 _ 24 ?hg (N := 5) ?hd (xs := ([(⟨183, 0, 0, 0, 0⟩ : S24), (⟨149, 0, 0, 0, 0⟩ : S24)] : List (S24))) (inner := [.int .u8 183, .int .u8 0, .int .u8 0, .int .i16 0, .int .i32 0, .int .u8 149, .int .u8 0, .int .u8 0, .int .i16 0, .int .i32 0]) (ok := fun _ => True) (okp := fun _ => True) ?hr ?hp (fun _ hk => hk) trivial (Below.refl _ _) (Nat.le_refl _) (by simp) ?_; (case hd => rfl); (case hg => rfl); (case hr => first | (go_simp; done) | (go_simp; rfl)); (case hp => exact (Reps.c5 (show Kd.M k24 _ _ _ (⟨183, 0, 0, 0, 0⟩ : S24) [.int .u8 183, .int .u8 0, .int .u8 0, .int .i16 0, .int .i32 0] from (k24_mkM _ _ _ (⟨183, 0, 0, 0, 0⟩ : S24) )) (Reps.c5 (show Kd.M k24 _ _ _ (⟨149, 0, 0, 0, 0⟩ : S24) [.int .u8 149, .int .u8 0, .int .u8 0, .int .i16 0, .int .i32 0] from (k24_mkM _ _ _ (⟨149, 0, 0, 0, 0⟩ : S24) )) (Reps.none _ _)))); intro v132 w10 ho11 hb hg_ hnew_; clear hg_ hnew_; (first | rw [← Ny131.out] at ho11 | (simp only [Int.reduceToNat] at ho11; rw [← Ny131.out] at ho11)); have n0_ := Aside0.mk (Kd.R_lower (Kd.R_newB ho11 (g := gb130) (o := .cells #[.int .u8 149, .int .u8 0, .int .u8 0, .int .i16 0, .int .i32 0] 24 (0, 0)) (by (with_reducible repeat (first | refine blk_drewN ?_ _ | refine blk_drew ?_ | refine blk_alloc ?_ _)); refine blk_put (cs := #[.int .u8 149, .int .u8 0, .int .u8 0, .int .i16 0, .int .i32 0]) ?_ 4 _ rfl; (with_reducible repeat (first | refine blk_drewN ?_ _ | refine blk_drew ?_ | refine blk_alloc ?_ _)); refine blk_put (cs := #[.int .u8 149, .int .u8 0, .int .u8 0, .int .i16 0, .int .i32 0]) ?_ 3 _ rfl; (with_reducible repeat (first | refine blk_drewN ?_ _ | refine blk_drew ?_ | refine blk_alloc ?_ _)); refine blk_put (cs := #[.int .u8 149, .int .u8 0, .int .u8 0, .int .i16 0, .int .i32 0]) ?_ 2 _ rfl; (with_reducible repeat (first | refine blk_drewN ?_ _ | refine blk_drew ?_ | refine blk_alloc ?_ _)); refine blk_put (cs := #[.int .u8 149, .int .u8 0, .int .u8 0, .int .i16 0, .int .i32 0]) ?_ 1 _ rfl; (with_reducible repeat (first | refine blk_drewN ?_ _ | refine blk_drew ?_ | refine blk_alloc ?_ _)); refine blk_put (cs := #[.int .u8 0, .int .u8 0, .int .u8 0, .int .i16 0, .int .i32 0]) ?_ 0 _ rfl; (with_reducible repeat (first | refine blk_drewN ?_ _ | refine blk_drew ?_ | refine blk_alloc ?_ _)); exact BK130.out)) (below_size (by repeat (first | (with_reducible first | exact HB.out | apply below_alloc | apply pw_below_drewN | apply below_drew1 | refine below_set ?_ GE130.out) | exact HB.out)))); have n1_ := Aside0.mk (blk_below (g := gb130) (o := .cells #[.int .u8 149, .int .u8 0, .int .u8 0, .int .i16 0, .int .i32 0] 24 (0, 0)) (by (with_reducible repeat (first | refine blk_drewN ?_ _ | refine blk_drew ?_ | refine blk_alloc ?_ _)); refine blk_put (cs := #[.int .u8 149, .int .u8 0, .int .u8 0, .int .i16 0, .int .i32 0]) ?_ 4 _ rfl; (with_reducible repeat (first | refine blk_drewN ?_ _ | refine blk_drew ?_ | refine blk_alloc ?_ _)); refine blk_put (cs := #[.int .u8 149, .int .u8 0, .int .u8 0, .int .i16 0, .int .i32 0]) ?_ 3 _ rfl; (with_reducible repeat (first | refine blk_drewN ?_ _ | refine blk_drew ?_ | refine blk_alloc ?_ _)); refine blk_put (cs := #[.int .u8 149, .int .u8 0, .int .u8 0, .int .i16 0, .int .i32 0]) ?_ 2 _ rfl; (with_reducible repeat (first | refine blk_drewN ?_ _ | refine blk_drew ?_ | refine blk_alloc ?_ _)); refine blk_put (cs := #[.int .u8 149, .int .u8 0, .int .u8 0, .int .i16 0, .int .i32 0]) ?_ 1 _ rfl; (with_reducible repeat (first | refine blk_drewN ?_ _ | refine blk_drew ?_ | refine blk_alloc ?_ _)); refine blk_put (cs := #[.int .u8 0, .int .u8 0, .int .u8 0, .int .i16 0, .int .i32 0]) ?_ 0 _ rfl; (with_reducible repeat (first | refine blk_drewN ?_ _ | refine blk_drew ?_ | refine blk_alloc ?_ _)); exact BK130.out) hb); have n2_ := Aside0.mk (below_step (by repeat (first | (with_reducible first | exact HB.out | apply below_alloc | apply pw_below_drewN | apply below_drew1 | refine below_set ?_ GE130.out) | exact HB.out)) hb); clear BK130; clear HB; have HO133 := n0_; have BK130 := n1_; have HB := n2_; clear n0_ n1_ n2_; clear hb ho11; obtain ⟨Ao12, co12, eo12⟩ := Kd.R_slice HO133.out; subst eo12) | ((with_reducible refine gate_callee (f := 18) rfl ?_); refine goesL_ (some 6) rfl rfl Try.func18 (by kernel_rfl) rfl #[.slice Ao12 y131.length co12, .int .i64 0] rfl (by (try simp only [List.map_toArray, List.map_cons, List.map_nil]); first | done | rfl | (simp only [List.length_drop, List.length_take]; rfl)) ?_; (with_reducible refine (isa_Check.calls k _ _ y131 0 t134 _ ?side1 ?side2 A1.out).mono ?_); (case side1 => repeat (first | exact (Kd.R_reads' HO133.out).2.2 | (with_reducible refine Kd.C_alloc ?_ _) | (with_reducible refine Kd.C_drewN ?_ _) | (with_reducible refine Kd.C_drew ?_))); (case side2 => exact (Kd.R_reads' HO133.out).2.1); rintro e w13 ⟨rfl, hb⟩; refine ⟨_, rfl, ?_⟩; have n0_ := Aside0.mk (Kd.R_below (by (with_reducible repeat (first | apply Kd.R_alloc | apply Kd.R_drewN | apply Kd.R_drew)); exact HO133.out) hb); have n1_ := Aside0.mk (blk_below (g := gb130) (o := .cells #[.int .u8 149, .int .u8 0, .int .u8 0, .int .i16 0, .int .i32 0] 24 (0, 0)) (by (with_reducible repeat (first | refine blk_drewN ?_ _ | refine blk_drew ?_ | refine blk_alloc ?_ _)); exact BK130.out) hb); have n2_ := Aside0.mk (below_step (by repeat (first | (with_reducible first | exact HB.out | apply below_alloc | apply pw_below_drewN | apply below_drew1 | refine below_set ?_ GE130.out) | exact HB.out)) hb); clear HO133; clear BK130; clear HB; have HO133 := n0_; have BK130 := n1_; have HB := n2_; clear n0_ n1_ n2_; (try clear hb); (try clear hb2); (try clear hk); (try clear hi); have hcz14_0 : w13.cell? ⟨gb130, 0, none⟩ = some (.int .u8 149) := (blk_cell BK130.out 0).trans rfl; have hcz14_1 : w13.cell? ⟨gb130, 1, none⟩ = some (.int .u8 0) := (blk_cell BK130.out 1).trans rfl; have hcz14_2 : w13.cell? ⟨gb130, 2, none⟩ = some (.int .u8 0) := (blk_cell BK130.out 2).trans rfl; have hcz14_3 : w13.cell? ⟨gb130, 3, none⟩ = some (.int .i16 0) := (blk_cell BK130.out 3).trans rfl; have hcz14_4 : w13.cell? ⟨gb130, 4, none⟩ = some (.int .i32 0) := (blk_cell BK130.out 4).trans rfl; have hfz14_0 := blk_frozen BK130.out 0; have hfz14_1 := blk_frozen BK130.out 1; have hfz14_2 := blk_frozen BK130.out 2; have hfz14_3 := blk_frozen BK130.out 3; have hfz14_4 := blk_frozen BK130.out 4) | ((with_reducible refine gate_dst (N := 10) rfl ?_); (try (refine gate_guard (by rfl) ?_; dsimp only)); refine Kd.R_lit k24 _ 24 ?hg (N := 10) ?hd (xs := ([(⟨149, 0, 0, 0, 0⟩ : S24)] : List (S24))) (inner := [.int .u8 149, .int .u8 0, .int .u8 0, .int .i16 0, .int .i32 0]) (ok := fun _ => True) (okp := fun _ => True) ?hr ?hp (fun _ hk => hk) trivial (Below.refl _ _) (Nat.le_refl _) (by simp) ?_; (case hd => rfl); (case hg => rfl); (case hr => first | (go_simp; done) | (go_simp; rfl)); (case hp => exact (Reps.c5 (show Kd.M k24 _ _ _ (⟨149, 0, 0, 0, 0⟩ : S24) [.int .u8 149, .int .u8 0, .int .u8 0, .int .i16 0, .int .i32 0] from (k24_mkM _ _ _ (⟨149, 0, 0, 0, 0⟩ : S24) )) (Reps.none _ _))); intro v136 w15 ho16 hb hg_ hnew_; clear hg_ hnew_; (first | rw [← Ny135.out] at ho16 | (simp only [Int.reduceToNat] at ho16; rw [← Ny135.out] at ho16)); have n0_ := Aside0.mk (Kd.R_elder' (by (with_reducible repeat (first | apply Kd.R_alloc | apply Kd.R_drewN | apply Kd.R_drew)); exact HO133.out) (Kd.R_base ho16) hb); have n1_ := Aside0.mk (Kd.R_lower (Kd.R_newB (Kd.R_new' ho16 (Kd.R_lt (by (with_reducible repeat (first | apply Kd.R_alloc | apply Kd.R_drewN | apply Kd.R_drew)); exact HO133.out))) (g := gb130) (o := .cells #[.int .u8 149, .int .u8 0, .int .u8 0, .int .i16 0, .int .i32 0] 24 (0, 0)) (by (with_reducible repeat (first | refine blk_drewN ?_ _ | refine blk_drew ?_ | refine blk_alloc ?_ _)); exact BK130.out)) (below_size (by repeat (first | (with_reducible first | exact HB.out | apply below_alloc | apply pw_below_drewN | apply below_drew1 | refine below_set ?_ GE130.out) | exact HB.out)))); have n2_ := Aside0.mk (blk_below (g := gb130) (o := .cells #[.int .u8 149, .int .u8 0, .int .u8 0, .int .i16 0, .int .i32 0] 24 (0, 0)) (by (with_reducible repeat (first | refine blk_drewN ?_ _ | refine blk_drew ?_ | refine blk_alloc ?_ _)); exact BK130.out) hb); have n3_ := Aside0.mk (below_step (by repeat (first | (with_reducible first | exact HB.out | apply below_alloc | apply pw_below_drewN | apply below_drew1 | refine below_set ?_ GE130.out) | exact HB.out)) hb); clear HO133; clear BK130; clear HB; have HO133 := n0_; have HO137 := n1_; have BK130 := n2_; have HB := n3_; clear n0_ n1_ n2_ n3_; clear hb ho16; obtain ⟨Ao17, co17, eo17⟩ := Kd.R_slice HO137.out; subst eo17) | (go_at_call 18; (with_reducible refine (isa_Check.calls k _ _ y135 0 t138 _ ?side1 ?side2 A3.out).mono ?_); (case side1 => repeat (first | exact (Kd.R_reads' HO137.out).2.2 | (with_reducible refine Kd.C_alloc ?_ _) | (with_reducible refine Kd.C_drewN ?_ _) | (with_reducible refine Kd.C_drew ?_))); (case side2 => exact (Kd.R_reads' HO137.out).2.1); rintro e w18 ⟨rfl, hb⟩; have n0_ := Aside0.mk (Kd.R_below (by (with_reducible repeat (first | apply Kd.R_alloc | apply Kd.R_drewN | apply Kd.R_drew)); exact HO133.out) hb); have n1_ := Aside0.mk (Kd.R_below (by (with_reducible repeat (first | apply Kd.R_alloc | apply Kd.R_drewN | apply Kd.R_drew)); exact HO137.out) hb); have n2_ := Aside0.mk (blk_below (g := gb130) (o := .cells #[.int .u8 149, .int .u8 0, .int .u8 0, .int .i16 0, .int .i32 0] 24 (0, 0)) (by (with_reducible repeat (first | refine blk_drewN ?_ _ | refine blk_drew ?_ | refine blk_alloc ?_ _)); exact BK130.out) hb); have n3_ := Aside0.mk (below_step (by repeat (first | (with_reducible first | exact HB.out | apply below_alloc | apply pw_below_drewN | apply below_drew1 | refine below_set ?_ GE130.out) | exact HB.out)) hb); clear HO133; clear HO137; clear BK130; clear HB; have HO133 := n0_; have HO137 := n1_; have BK130 := n2_; have HB := n3_; clear n0_ n1_ n2_ n3_; (try clear hb); (try clear hb2); (try clear hk); (try clear hi); have hcz19_0 : w18.cell? ⟨gb130, 0, none⟩ = some (.int .u8 149) := (blk_cell BK130.out 0).trans rfl; have hcz19_1 : w18.cell? ⟨gb130, 1, none⟩ = some (.int .u8 0) := (blk_cell BK130.out 1).trans rfl; have hcz19_2 : w18.cell? ⟨gb130, 2, none⟩ = some (.int .u8 0) := (blk_cell BK130.out 2).trans rfl; have hcz19_3 : w18.cell? ⟨gb130, 3, none⟩ = some (.int .i16 0) := (blk_cell BK130.out 3).trans rfl; have hcz19_4 : w18.cell? ⟨gb130, 4, none⟩ = some (.int .i32 0) := (blk_cell BK130.out 4).trans rfl; have hfz19_0 := blk_frozen BK130.out 0; have hfz19_1 := blk_frozen BK130.out 1; have hfz19_2 := blk_frozen BK130.out 2; have hfz19_3 := blk_frozen BK130.out 3; have hfz19_4 := blk_frozen BK130.out 4) | ((with_reducible refine gate_dst (N := 17) rfl ?_); (try (refine gate_guard (by rfl) ?_; dsimp only)); refine Kd.R_lit k24 _ 24 ?hg (N := 17) ?hd (xs := ([(⟨5, 0, 0, (-1), 0⟩ : S24), (⟨149, 0, 0, 0, 0⟩ : S24)] : List (S24))) (inner := [.int .u8 5, .int .u8 0, .int .u8 0, .int .i16 (-1), .int .i32 0, .int .u8 149, .int .u8 0, .int .u8 0, .int .i16 0, .int .i32 0]) (ok := fun _ => True) (okp := fun _ => True) ?hr ?hp (fun _ hk => hk) trivial (Below.refl _ _) (Nat.le_refl _) (by simp) ?_; (case hd => rfl); (case hg => rfl); (case hr => first | (go_simp; done) | (go_simp; rfl)); (case hp => exact (Reps.c5 (show Kd.M k24 _ _ _ (⟨5, 0, 0, (-1), 0⟩ : S24) [.int .u8 5, .int .u8 0, .int .u8 0, .int .i16 (-1), .int .i32 0] from (k24_mkM _ _ _ (⟨5, 0, 0, (-1), 0⟩ : S24) )) (Reps.c5 (show Kd.M k24 _ _ _ (⟨149, 0, 0, 0, 0⟩ : S24) [.int .u8 149, .int .u8 0, .int .u8 0, .int .i16 0, .int .i32 0] from (k24_mkM _ _ _ (⟨149, 0, 0, 0, 0⟩ : S24) )) (Reps.none _ _)))); intro v140 w20 ho21 hb hg_ hnew_; clear hg_ hnew_; (first | rw [← Ny139.out] at ho21 | (simp only [Int.reduceToNat] at ho21; rw [← Ny139.out] at ho21)); have n0_ := Aside0.mk (Kd.R_elder' (by (with_reducible repeat (first | apply Kd.R_alloc | apply Kd.R_drewN | apply Kd.R_drew)); exact HO133.out) (Kd.R_base ho21) hb); have n1_ := Aside0.mk (Kd.R_elder' (by (with_reducible repeat (first | apply Kd.R_alloc | apply Kd.R_drewN | apply Kd.R_drew)); exact HO137.out) (Kd.R_base ho21) hb); have n2_ := Aside0.mk (Kd.R_lower (Kd.R_newB (Kd.R_new' (Kd.R_new' ho21 (Kd.R_lt (by (with_reducible repeat (first | apply Kd.R_alloc | apply Kd.R_drewN | apply Kd.R_drew)); exact HO133.out))) (Kd.R_lt (by (with_reducible repeat (first | apply Kd.R_alloc | apply Kd.R_drewN | apply Kd.R_drew)); exact HO137.out))) (g := gb130) (o := .cells #[.int .u8 149, .int .u8 0, .int .u8 0, .int .i16 0, .int .i32 0] 24 (0, 0)) (by (with_reducible repeat (first | refine blk_drewN ?_ _ | refine blk_drew ?_ | refine blk_alloc ?_ _)); exact BK130.out)) (below_size (by repeat (first | (with_reducible first | exact HB.out | apply below_alloc | apply pw_below_drewN | apply below_drew1 | refine below_set ?_ GE130.out) | exact HB.out)))); have n3_ := Aside0.mk (blk_below (g := gb130) (o := .cells #[.int .u8 149, .int .u8 0, .int .u8 0, .int .i16 0, .int .i32 0] 24 (0, 0)) (by (with_reducible repeat (first | refine blk_drewN ?_ _ | refine blk_drew ?_ | refine blk_alloc ?_ _)); exact BK130.out) hb); have n4_ := Aside0.mk (below_step (by repeat (first | (with_reducible first | exact HB.out | apply below_alloc | apply pw_below_drewN | apply below_drew1 | refine below_set ?_ GE130.out) | exact HB.out)) hb); clear HO133; clear HO137; clear BK130; clear HB; have HO133 := n0_; have HO137 := n1_; have HO141 := n2_; have BK130 := n3_; have HB := n4_; clear n0_ n1_ n2_ n3_ n4_; clear hb ho21; obtain ⟨Ao22, co22, eo22⟩ := Kd.R_slice HO141.out; subst eo22) | (go_at_call 18; (with_reducible refine (isa_Check.calls k _ _ y139 0 t142 _ ?side1 ?side2 A5.out).mono ?_); (case side1 => repeat (first | exact (Kd.R_reads' HO141.out).2.2 | (with_reducible refine Kd.C_alloc ?_ _) | (with_reducible refine Kd.C_drewN ?_ _) | (with_reducible refine Kd.C_drew ?_))); (case side2 => exact (Kd.R_reads' HO141.out).2.1); rintro e w23 ⟨rfl, hb⟩; have n0_ := Aside0.mk (Kd.R_below (by (with_reducible repeat (first | apply Kd.R_alloc | apply Kd.R_drewN | apply Kd.R_drew)); exact HO133.out) hb); have n1_ := Aside0.mk (Kd.R_below (by (with_reducible repeat (first | apply Kd.R_alloc | apply Kd.R_drewN | apply Kd.R_drew)); exact HO137.out) hb); have n2_ := Aside0.mk (Kd.R_below (by (with_reducible repeat (first | apply Kd.R_alloc | apply Kd.R_drewN | apply Kd.R_drew)); exact HO141.out) hb); have n3_ := Aside0.mk (blk_below (g := gb130) (o := .cells #[.int .u8 149, .int .u8 0, .int .u8 0, .int .i16 0, .int .i32 0] 24 (0, 0)) (by (with_reducible repeat (first | refine blk_drewN ?_ _ | refine blk_drew ?_ | refine blk_alloc ?_ _)); exact BK130.out) hb); have n4_ := Aside0.mk (below_step (by repeat (first | (with_reducible first | exact HB.out | apply below_alloc | apply pw_below_drewN | apply below_drew1 | refine below_set ?_ GE130.out) | exact HB.out)) hb); clear HO133; clear HO137; clear HO141; clear BK130; clear HB; have HO133 := n0_; have HO137 := n1_; have HO141 := n2_; have BK130 := n3_; have HB := n4_; clear n0_ n1_ n2_ n3_ n4_; (try clear hb); (try clear hb2); (try clear hk); (try clear hi)) | (go_at_call 10; (with_reducible refine (isa_Right.calls k 183 10 0 0 0 t143 _ A7.out).mono ?_); rintro e w24 ⟨rfl, hb⟩; have n0_ := Aside0.mk (Kd.R_below (by (with_reducible repeat (first | apply Kd.R_alloc | apply Kd.R_drewN | apply Kd.R_drew)); exact HO133.out) hb); have n1_ := Aside0.mk (Kd.R_below (by (with_reducible repeat (first | apply Kd.R_alloc | apply Kd.R_drewN | apply Kd.R_drew)); exact HO137.out) hb); have n2_ := Aside0.mk (Kd.R_below (by (with_reducible repeat (first | apply Kd.R_alloc | apply Kd.R_drewN | apply Kd.R_drew)); exact HO141.out) hb); have n3_ := Aside0.mk (blk_below (g := gb130) (o := .cells #[.int .u8 149, .int .u8 0, .int .u8 0, .int .i16 0, .int .i32 0] 24 (0, 0)) (by (with_reducible repeat (first | refine blk_drewN ?_ _ | refine blk_drew ?_ | refine blk_alloc ?_ _)); exact BK130.out) hb); have n4_ := Aside0.mk (below_step (by repeat (first | (with_reducible first | exact HB.out | apply below_alloc | apply pw_below_drewN | apply below_drew1 | refine below_set ?_ GE130.out) | exact HB.out)) hb); clear HO133; clear HO137; clear HO141; clear BK130; clear HB; have HO133 := n0_; have HO137 := n1_; have HO141 := n2_; have BK130 := n3_; have HB := n4_; clear n0_ n1_ n2_ n3_ n4_; (try clear hb); (try clear hb2); (try clear hk); (try clear hi)))
        go_ret
        exact ⟨by first | rfl | (simp [errW_none, errW_some] <;> rfl) | (simp [*, errW_none, errW_some] <;> rfl), by repeat (first | (with_reducible first | exact HB.out | apply below_alloc | apply pw_below_drewN | apply below_drew1 | refine below_set ?_ GE130.out) | exact HB.out)⟩
      · rw [if_neg c6] at H
        have c6b0 : (t142 == 22) = false := beq_eq_false_iff_ne.mpr c6
        have c6b1 : (t142 != 22) = true := bne_iff_ne.mpr c6
        obtain rfl := Option.some.inj H
        go_enter Try.func9, Try.ntmps9
        go_wp2_with (first | ((with_reducible refine gate_dst (N := 1) rfl ?_); (try (refine gate_guard (by rfl) ?_; dsimp only)); refine box_event ?hg (N := 1) ?hd (cs := #[.int .u8 0, .int .u8 0, .int .u8 0, .int .i16 0, .int .i32 0]) (t := 24) ?hr ?_; (case hd => rfl); (case hg => rfl); (case hr => first | (go_simp; done) | (go_simp; rfl)); intro gb130 hg w25 hbox hb; have n0_ := Aside0.mk (below_step (by repeat (first | (with_reducible first | exact HB.out | apply below_alloc | apply pw_below_drewN | apply below_drew1) | exact HB.out)) hb); have n1_ := Aside0.mk (hbox); have n2_ := Aside0.mk ((by rw [hg]; exact (below_size (by repeat (first | (with_reducible first | exact HB.out | apply below_alloc | apply pw_below_drewN | apply below_drew1) | exact HB.out))) : w.heap.size ≤ gb130)); have n3_ := Aside0.mk ((by rw [hg]; exact (below_size (by repeat (first | (with_reducible first | exact HB.out | apply below_alloc | apply pw_below_drewN | apply below_drew1) | exact HB.out))) : w.heap.size ≤ gb130)); clear HB; have HB := n0_; have BK130 := n1_; have GW130 := n2_; have GE130 := n3_; clear n0_ n1_ n2_ n3_; clear hb hbox hg; have hcz26_0 : w25.cell? ⟨gb130, 0, none⟩ = some (.int .u8 0) := (blk_cell BK130.out 0).trans rfl; have hcz26_1 : w25.cell? ⟨gb130, 1, none⟩ = some (.int .u8 0) := (blk_cell BK130.out 1).trans rfl; have hcz26_2 : w25.cell? ⟨gb130, 2, none⟩ = some (.int .u8 0) := (blk_cell BK130.out 2).trans rfl; have hcz26_3 : w25.cell? ⟨gb130, 3, none⟩ = some (.int .i16 0) := (blk_cell BK130.out 3).trans rfl; have hcz26_4 : w25.cell? ⟨gb130, 4, none⟩ = some (.int .i32 0) := (blk_cell BK130.out 4).trans rfl; have hfz26_0 := blk_frozen BK130.out 0; have hfz26_1 := blk_frozen BK130.out 1; have hfz26_2 := blk_frozen BK130.out 2; have hfz26_3 := blk_frozen BK130.out 3; have hfz26_4 := blk_frozen BK130.out 4) | ((with_reducible refine gate_dst (N := 5) rfl ?_); (try (refine gate_guard (by rfl) ?_; dsimp only)); refine Kd.R_lit k24 _ 24 ?hg (N := 5) ?hd (xs := ([(⟨183, 0, 0, 0, 0⟩ : S24), (⟨149, 0, 0, 0, 0⟩ : S24)] : List (S24))) (inner := [.int .u8 183, .int .u8 0, .int .u8 0, .int .i16 0, .int .i32 0, .int .u8 149, .int .u8 0, .int .u8 0, .int .i16 0, .int .i32 0]) (ok := fun _ => True) (okp := fun _ => True) ?hr ?hp (fun _ hk => hk) trivial (Below.refl _ _) (Nat.le_refl _) (by simp) ?_; (case hd => rfl); (case hg => rfl); (case hr => first | (go_simp; done) | (go_simp; rfl)); (case hp => exact (Reps.c5 (show Kd.M k24 _ _ _ (⟨183, 0, 0, 0, 0⟩ : S24) [.int .u8 183, .int .u8 0, .int .u8 0, .int .i16 0, .int .i32 0] from (k24_mkM _ _ _ (⟨183, 0, 0, 0, 0⟩ : S24) )) (Reps.c5 (show Kd.M k24 _ _ _ (⟨149, 0, 0, 0, 0⟩ : S24) [.int .u8 149, .int .u8 0, .int .u8 0, .int .i16 0, .int .i32 0] from (k24_mkM _ _ _ (⟨149, 0, 0, 0, 0⟩ : S24) )) (Reps.none _ _)))); intro v132 w27 ho28 hb hg_ hnew_; clear hg_ hnew_; (first | rw [← Ny131.out] at ho28 | (simp only [Int.reduceToNat] at ho28; rw [← Ny131.out] at ho28)); have n0_ := Aside0.mk (Kd.R_lower (Kd.R_newB ho28 (g := gb130) (o := .cells #[.int .u8 149, .int .u8 0, .int .u8 0, .int .i16 0, .int .i32 0] 24 (0, 0)) (by (with_reducible repeat (first | refine blk_drewN ?_ _ | refine blk_drew ?_ | refine blk_alloc ?_ _)); refine blk_put (cs := #[.int .u8 149, .int .u8 0, .int .u8 0, .int .i16 0, .int .i32 0]) ?_ 4 _ rfl; (with_reducible repeat (first | refine blk_drewN ?_ _ | refine blk_drew ?_ | refine blk_alloc ?_ _)); refine blk_put (cs := #[.int .u8 149, .int .u8 0, .int .u8 0, .int .i16 0, .int .i32 0]) ?_ 3 _ rfl; (with_reducible repeat (first | refine blk_drewN ?_ _ | refine blk_drew ?_ | refine blk_alloc ?_ _)); refine blk_put (cs := #[.int .u8 149, .int .u8 0, .int .u8 0, .int .i16 0, .int .i32 0]) ?_ 2 _ rfl; (with_reducible repeat (first | refine blk_drewN ?_ _ | refine blk_drew ?_ | refine blk_alloc ?_ _)); refine blk_put (cs := #[.int .u8 149, .int .u8 0, .int .u8 0, .int .i16 0, .int .i32 0]) ?_ 1 _ rfl; (with_reducible repeat (first | refine blk_drewN ?_ _ | refine blk_drew ?_ | refine blk_alloc ?_ _)); refine blk_put (cs := #[.int .u8 0, .int .u8 0, .int .u8 0, .int .i16 0, .int .i32 0]) ?_ 0 _ rfl; (with_reducible repeat (first | refine blk_drewN ?_ _ | refine blk_drew ?_ | refine blk_alloc ?_ _)); exact BK130.out)) (below_size (by repeat (first | (with_reducible first | exact HB.out | apply below_alloc | apply pw_below_drewN | apply below_drew1 | refine below_set ?_ GE130.out) | exact HB.out)))); have n1_ := Aside0.mk (blk_below (g := gb130) (o := .cells #[.int .u8 149, .int .u8 0, .int .u8 0, .int .i16 0, .int .i32 0] 24 (0, 0)) (by (with_reducible repeat (first | refine blk_drewN ?_ _ | refine blk_drew ?_ | refine blk_alloc ?_ _)); refine blk_put (cs := #[.int .u8 149, .int .u8 0, .int .u8 0, .int .i16 0, .int .i32 0]) ?_ 4 _ rfl; (with_reducible repeat (first | refine blk_drewN ?_ _ | refine blk_drew ?_ | refine blk_alloc ?_ _)); refine blk_put (cs := #[.int .u8 149, .int .u8 0, .int .u8 0, .int .i16 0, .int .i32 0]) ?_ 3 _ rfl; (with_reducible repeat (first | refine blk_drewN ?_ _ | refine blk_drew ?_ | refine blk_alloc ?_ _)); refine blk_put (cs := #[.int .u8 149, .int .u8 0, .int .u8 0, .int .i16 0, .int .i32 0]) ?_ 2 _ rfl; (with_reducible repeat (first | refine blk_drewN ?_ _ | refine blk_drew ?_ | refine blk_alloc ?_ _)); refine blk_put (cs := #[.int .u8 149, .int .u8 0, .int .u8 0, .int .i16 0, .int .i32 0]) ?_ 1 _ rfl; (with_reducible repeat (first | refine blk_drewN ?_ _ | refine blk_drew ?_ | refine blk_alloc ?_ _)); refine blk_put (cs := #[.int .u8 0, .int .u8 0, .int .u8 0, .int .i16 0, .int .i32 0]) ?_ 0 _ rfl; (with_reducible repeat (first | refine blk_drewN ?_ _ | refine blk_drew ?_ | refine blk_alloc ?_ _)); exact BK130.out) hb); have n2_ := Aside0.mk (below_step (by repeat (first | (with_reducible first | exact HB.out | apply below_alloc | apply pw_below_drewN | apply below_drew1 | refine below_set ?_ GE130.out) | exact HB.out)) hb); clear BK130; clear HB; have HO133 := n0_; have BK130 := n1_; have HB := n2_; clear n0_ n1_ n2_; clear hb ho28; obtain ⟨Ao29, co29, eo29⟩ := Kd.R_slice HO133.out; subst eo29) | ((with_reducible refine gate_callee (f := 18) rfl ?_); refine goesL_ (some 6) rfl rfl Try.func18 (by kernel_rfl) rfl #[.slice Ao29 y131.length co29, .int .i64 0] rfl (by (try simp only [List.map_toArray, List.map_cons, List.map_nil]); first | done | rfl | (simp only [List.length_drop, List.length_take]; rfl)) ?_; (with_reducible refine (isa_Check.calls k _ _ y131 0 t134 _ ?side1 ?side2 A1.out).mono ?_); (case side1 => repeat (first | exact (Kd.R_reads' HO133.out).2.2 | (with_reducible refine Kd.C_alloc ?_ _) | (with_reducible refine Kd.C_drewN ?_ _) | (with_reducible refine Kd.C_drew ?_))); (case side2 => exact (Kd.R_reads' HO133.out).2.1); rintro e w30 ⟨rfl, hb⟩; refine ⟨_, rfl, ?_⟩; have n0_ := Aside0.mk (Kd.R_below (by (with_reducible repeat (first | apply Kd.R_alloc | apply Kd.R_drewN | apply Kd.R_drew)); exact HO133.out) hb); have n1_ := Aside0.mk (blk_below (g := gb130) (o := .cells #[.int .u8 149, .int .u8 0, .int .u8 0, .int .i16 0, .int .i32 0] 24 (0, 0)) (by (with_reducible repeat (first | refine blk_drewN ?_ _ | refine blk_drew ?_ | refine blk_alloc ?_ _)); exact BK130.out) hb); have n2_ := Aside0.mk (below_step (by repeat (first | (with_reducible first | exact HB.out | apply below_alloc | apply pw_below_drewN | apply below_drew1 | refine below_set ?_ GE130.out) | exact HB.out)) hb); clear HO133; clear BK130; clear HB; have HO133 := n0_; have BK130 := n1_; have HB := n2_; clear n0_ n1_ n2_; (try clear hb); (try clear hb2); (try clear hk); (try clear hi); have hcz31_0 : w30.cell? ⟨gb130, 0, none⟩ = some (.int .u8 149) := (blk_cell BK130.out 0).trans rfl; have hcz31_1 : w30.cell? ⟨gb130, 1, none⟩ = some (.int .u8 0) := (blk_cell BK130.out 1).trans rfl; have hcz31_2 : w30.cell? ⟨gb130, 2, none⟩ = some (.int .u8 0) := (blk_cell BK130.out 2).trans rfl; have hcz31_3 : w30.cell? ⟨gb130, 3, none⟩ = some (.int .i16 0) := (blk_cell BK130.out 3).trans rfl; have hcz31_4 : w30.cell? ⟨gb130, 4, none⟩ = some (.int .i32 0) := (blk_cell BK130.out 4).trans rfl; have hfz31_0 := blk_frozen BK130.out 0; have hfz31_1 := blk_frozen BK130.out 1; have hfz31_2 := blk_frozen BK130.out 2; have hfz31_3 := blk_frozen BK130.out 3; have hfz31_4 := blk_frozen BK130.out 4) | ((with_reducible refine gate_dst (N := 10) rfl ?_); (try (refine gate_guard (by rfl) ?_; dsimp only)); refine Kd.R_lit k24 _ 24 ?hg (N := 10) ?hd (xs := ([(⟨149, 0, 0, 0, 0⟩ : S24)] : List (S24))) (inner := [.int .u8 149, .int .u8 0, .int .u8 0, .int .i16 0, .int .i32 0]) (ok := fun _ => True) (okp := fun _ => True) ?hr ?hp (fun _ hk => hk) trivial (Below.refl _ _) (Nat.le_refl _) (by simp) ?_; (case hd => rfl); (case hg => rfl); (case hr => first | (go_simp; done) | (go_simp; rfl)); (case hp => exact (Reps.c5 (show Kd.M k24 _ _ _ (⟨149, 0, 0, 0, 0⟩ : S24) [.int .u8 149, .int .u8 0, .int .u8 0, .int .i16 0, .int .i32 0] from (k24_mkM _ _ _ (⟨149, 0, 0, 0, 0⟩ : S24) )) (Reps.none _ _))); intro v136 w32 ho33 hb hg_ hnew_; clear hg_ hnew_; (first | rw [← Ny135.out] at ho33 | (simp only [Int.reduceToNat] at ho33; rw [← Ny135.out] at ho33)); have n0_ := Aside0.mk (Kd.R_elder' (by (with_reducible repeat (first | apply Kd.R_alloc | apply Kd.R_drewN | apply Kd.R_drew)); exact HO133.out) (Kd.R_base ho33) hb); have n1_ := Aside0.mk (Kd.R_lower (Kd.R_newB (Kd.R_new' ho33 (Kd.R_lt (by (with_reducible repeat (first | apply Kd.R_alloc | apply Kd.R_drewN | apply Kd.R_drew)); exact HO133.out))) (g := gb130) (o := .cells #[.int .u8 149, .int .u8 0, .int .u8 0, .int .i16 0, .int .i32 0] 24 (0, 0)) (by (with_reducible repeat (first | refine blk_drewN ?_ _ | refine blk_drew ?_ | refine blk_alloc ?_ _)); exact BK130.out)) (below_size (by repeat (first | (with_reducible first | exact HB.out | apply below_alloc | apply pw_below_drewN | apply below_drew1 | refine below_set ?_ GE130.out) | exact HB.out)))); have n2_ := Aside0.mk (blk_below (g := gb130) (o := .cells #[.int .u8 149, .int .u8 0, .int .u8 0, .int .i16 0, .int .i32 0] 24 (0, 0)) (by (with_reducible repeat (first | refine blk_drewN ?_ _ | refine blk_drew ?_ | refine blk_alloc ?_ _)); exact BK130.out) hb); have n3_ := Aside0.mk (below_step (by repeat (first | (with_reducible first | exact HB.out | apply below_alloc | apply pw_below_drewN | apply below_drew1 | refine below_set ?_ GE130.out) | exact HB.out)) hb); clear HO133; clear BK130; clear HB; have HO133 := n0_; have HO137 := n1_; have BK130 := n2_; have HB := n3_; clear n0_ n1_ n2_ n3_; clear hb ho33; obtain ⟨Ao34, co34, eo34⟩ := Kd.R_slice HO137.out; subst eo34) | (go_at_call 18; (with_reducible refine (isa_Check.calls k _ _ y135 0 t138 _ ?side1 ?side2 A3.out).mono ?_); (case side1 => repeat (first | exact (Kd.R_reads' HO137.out).2.2 | (with_reducible refine Kd.C_alloc ?_ _) | (with_reducible refine Kd.C_drewN ?_ _) | (with_reducible refine Kd.C_drew ?_))); (case side2 => exact (Kd.R_reads' HO137.out).2.1); rintro e w35 ⟨rfl, hb⟩; have n0_ := Aside0.mk (Kd.R_below (by (with_reducible repeat (first | apply Kd.R_alloc | apply Kd.R_drewN | apply Kd.R_drew)); exact HO133.out) hb); have n1_ := Aside0.mk (Kd.R_below (by (with_reducible repeat (first | apply Kd.R_alloc | apply Kd.R_drewN | apply Kd.R_drew)); exact HO137.out) hb); have n2_ := Aside0.mk (blk_below (g := gb130) (o := .cells #[.int .u8 149, .int .u8 0, .int .u8 0, .int .i16 0, .int .i32 0] 24 (0, 0)) (by (with_reducible repeat (first | refine blk_drewN ?_ _ | refine blk_drew ?_ | refine blk_alloc ?_ _)); exact BK130.out) hb); have n3_ := Aside0.mk (below_step (by repeat (first | (with_reducible first | exact HB.out | apply below_alloc | apply pw_below_drewN | apply below_drew1 | refine below_set ?_ GE130.out) | exact HB.out)) hb); clear HO133; clear HO137; clear BK130; clear HB; have HO133 := n0_; have HO137 := n1_; have BK130 := n2_; have HB := n3_; clear n0_ n1_ n2_ n3_; (try clear hb); (try clear hb2); (try clear hk); (try clear hi); have hcz36_0 : w35.cell? ⟨gb130, 0, none⟩ = some (.int .u8 149) := (blk_cell BK130.out 0).trans rfl; have hcz36_1 : w35.cell? ⟨gb130, 1, none⟩ = some (.int .u8 0) := (blk_cell BK130.out 1).trans rfl; have hcz36_2 : w35.cell? ⟨gb130, 2, none⟩ = some (.int .u8 0) := (blk_cell BK130.out 2).trans rfl; have hcz36_3 : w35.cell? ⟨gb130, 3, none⟩ = some (.int .i16 0) := (blk_cell BK130.out 3).trans rfl; have hcz36_4 : w35.cell? ⟨gb130, 4, none⟩ = some (.int .i32 0) := (blk_cell BK130.out 4).trans rfl; have hfz36_0 := blk_frozen BK130.out 0; have hfz36_1 := blk_frozen BK130.out 1; have hfz36_2 := blk_frozen BK130.out 2; have hfz36_3 := blk_frozen BK130.out 3; have hfz36_4 := blk_frozen BK130.out 4) | ((with_reducible refine gate_dst (N := 17) rfl ?_); (try (refine gate_guard (by rfl) ?_; dsimp only)); refine Kd.R_lit k24 _ 24 ?hg (N := 17) ?hd (xs := ([(⟨5, 0, 0, (-1), 0⟩ : S24), (⟨149, 0, 0, 0, 0⟩ : S24)] : List (S24))) (inner := [.int .u8 5, .int .u8 0, .int .u8 0, .int .i16 (-1), .int .i32 0, .int .u8 149, .int .u8 0, .int .u8 0, .int .i16 0, .int .i32 0]) (ok := fun _ => True) (okp := fun _ => True) ?hr ?hp (fun _ hk => hk) trivial (Below.refl _ _) (Nat.le_refl _) (by simp) ?_; (case hd => rfl); (case hg => rfl); (case hr => first | (go_simp; done) | (go_simp; rfl)); (case hp => exact (Reps.c5 (show Kd.M k24 _ _ _ (⟨5, 0, 0, (-1), 0⟩ : S24) [.int .u8 5, .int .u8 0, .int .u8 0, .int .i16 (-1), .int .i32 0] from (k24_mkM _ _ _ (⟨5, 0, 0, (-1), 0⟩ : S24) )) (Reps.c5 (show Kd.M k24 _ _ _ (⟨149, 0, 0, 0, 0⟩ : S24) [.int .u8 149, .int .u8 0, .int .u8 0, .int .i16 0, .int .i32 0] from (k24_mkM _ _ _ (⟨149, 0, 0, 0, 0⟩ : S24) )) (Reps.none _ _)))); intro v140 w37 ho38 hb hg_ hnew_; clear hg_ hnew_; (first | rw [← Ny139.out] at ho38 | (simp only [Int.reduceToNat] at ho38; rw [← Ny139.out] at ho38)); have n0_ := Aside0.mk (Kd.R_elder' (by (with_reducible repeat (first | apply Kd.R_alloc | apply Kd.R_drewN | apply Kd.R_drew)); exact HO133.out) (Kd.R_base ho38) hb); have n1_ := Aside0.mk (Kd.R_elder' (by (with_reducible repeat (first | apply Kd.R_alloc | apply Kd.R_drewN | apply Kd.R_drew)); exact HO137.out) (Kd.R_base ho38) hb); have n2_ := Aside0.mk (Kd.R_lower (Kd.R_newB (Kd.R_new' (Kd.R_new' ho38 (Kd.R_lt (by (with_reducible repeat (first | apply Kd.R_alloc | apply Kd.R_drewN | apply Kd.R_drew)); exact HO133.out))) (Kd.R_lt (by (with_reducible repeat (first | apply Kd.R_alloc | apply Kd.R_drewN | apply Kd.R_drew)); exact HO137.out))) (g := gb130) (o := .cells #[.int .u8 149, .int .u8 0, .int .u8 0, .int .i16 0, .int .i32 0] 24 (0, 0)) (by (with_reducible repeat (first | refine blk_drewN ?_ _ | refine blk_drew ?_ | refine blk_alloc ?_ _)); exact BK130.out)) (below_size (by repeat (first | (with_reducible first | exact HB.out | apply below_alloc | apply pw_below_drewN | apply below_drew1 | refine below_set ?_ GE130.out) | exact HB.out)))); have n3_ := Aside0.mk (blk_below (g := gb130) (o := .cells #[.int .u8 149, .int .u8 0, .int .u8 0, .int .i16 0, .int .i32 0] 24 (0, 0)) (by (with_reducible repeat (first | refine blk_drewN ?_ _ | refine blk_drew ?_ | refine blk_alloc ?_ _)); exact BK130.out) hb); have n4_ := Aside0.mk (below_step (by repeat (first | (with_reducible first | exact HB.out | apply below_alloc | apply pw_below_drewN | apply below_drew1 | refine below_set ?_ GE130.out) | exact HB.out)) hb); clear HO133; clear HO137; clear BK130; clear HB; have HO133 := n0_; have HO137 := n1_; have HO141 := n2_; have BK130 := n3_; have HB := n4_; clear n0_ n1_ n2_ n3_ n4_; clear hb ho38; obtain ⟨Ao39, co39, eo39⟩ := Kd.R_slice HO141.out; subst eo39) | (go_at_call 18; (with_reducible refine (isa_Check.calls k _ _ y139 0 t142 _ ?side1 ?side2 A5.out).mono ?_); (case side1 => repeat (first | exact (Kd.R_reads' HO141.out).2.2 | (with_reducible refine Kd.C_alloc ?_ _) | (with_reducible refine Kd.C_drewN ?_ _) | (with_reducible refine Kd.C_drew ?_))); (case side2 => exact (Kd.R_reads' HO141.out).2.1); rintro e w40 ⟨rfl, hb⟩; have n0_ := Aside0.mk (Kd.R_below (by (with_reducible repeat (first | apply Kd.R_alloc | apply Kd.R_drewN | apply Kd.R_drew)); exact HO133.out) hb); have n1_ := Aside0.mk (Kd.R_below (by (with_reducible repeat (first | apply Kd.R_alloc | apply Kd.R_drewN | apply Kd.R_drew)); exact HO137.out) hb); have n2_ := Aside0.mk (Kd.R_below (by (with_reducible repeat (first | apply Kd.R_alloc | apply Kd.R_drewN | apply Kd.R_drew)); exact HO141.out) hb); have n3_ := Aside0.mk (blk_below (g := gb130) (o := .cells #[.int .u8 149, .int .u8 0, .int .u8 0, .int .i16 0, .int .i32 0] 24 (0, 0)) (by (with_reducible repeat (first | refine blk_drewN ?_ _ | refine blk_drew ?_ | refine blk_alloc ?_ _)); exact BK130.out) hb); have n4_ := Aside0.mk (below_step (by repeat (first | (with_reducible first | exact HB.out | apply below_alloc | apply pw_below_drewN | apply below_drew1 | refine below_set ?_ GE130.out) | exact HB.out)) hb); clear HO133; clear HO137; clear HO141; clear BK130; clear HB; have HO133 := n0_; have HO137 := n1_; have HO141 := n2_; have BK130 := n3_; have HB := n4_; clear n0_ n1_ n2_ n3_ n4_; (try clear hb); (try clear hb2); (try clear hk); (try clear hi)))
        go_ret
        exact ⟨by first | rfl | (simp [errW_none, errW_some] <;> rfl) | (simp [*, errW_none, errW_some] <;> rfl), by repeat (first | (with_reducible first | exact HB.out | apply below_alloc | apply pw_below_drewN | apply below_drew1 | refine below_set ?_ GE130.out) | exact HB.out)⟩
    · rw [if_neg c4] at H
      have c4b0 : (t138 == 0) = false := beq_eq_false_iff_ne.mpr c4
      have c4b1 : (t138 != 0) = true := bne_iff_ne.mpr c4
      obtain rfl := Option.some.inj H
      go_enter Try.func9, Try.ntmps9
      go_wp2_with (first | ((with_reducible refine gate_dst (N := 1) rfl ?_); (try (refine gate_guard (by rfl) ?_; dsimp only)); refine box_event ?hg (N := 1) ?hd (cs := #[.int .u8 0, .int .u8 0, .int .u8 0, .int .i16 0, .int .i32 0]) (t := 24) ?hr ?_; (case hd => rfl); (case hg => rfl); (case hr => first | (go_simp; done) | (go_simp; rfl)); intro gb130 hg w41 hbox hb; have n0_ := Aside0.mk (below_step (by repeat (first | (with_reducible first | exact HB.out | apply below_alloc | apply pw_below_drewN | apply below_drew1) | exact HB.out)) hb); have n1_ := Aside0.mk (hbox); have n2_ := Aside0.mk ((by rw [hg]; exact (below_size (by repeat (first | (with_reducible first | exact HB.out | apply below_alloc | apply pw_below_drewN | apply below_drew1) | exact HB.out))) : w.heap.size ≤ gb130)); have n3_ := Aside0.mk ((by rw [hg]; exact (below_size (by repeat (first | (with_reducible first | exact HB.out | apply below_alloc | apply pw_below_drewN | apply below_drew1) | exact HB.out))) : w.heap.size ≤ gb130)); clear HB; have HB := n0_; have BK130 := n1_; have GW130 := n2_; have GE130 := n3_; clear n0_ n1_ n2_ n3_; clear hb hbox hg; have hcz42_0 : w41.cell? ⟨gb130, 0, none⟩ = some (.int .u8 0) := (blk_cell BK130.out 0).trans rfl; have hcz42_1 : w41.cell? ⟨gb130, 1, none⟩ = some (.int .u8 0) := (blk_cell BK130.out 1).trans rfl; have hcz42_2 : w41.cell? ⟨gb130, 2, none⟩ = some (.int .u8 0) := (blk_cell BK130.out 2).trans rfl; have hcz42_3 : w41.cell? ⟨gb130, 3, none⟩ = some (.int .i16 0) := (blk_cell BK130.out 3).trans rfl; have hcz42_4 : w41.cell? ⟨gb130, 4, none⟩ = some (.int .i32 0) := (blk_cell BK130.out 4).trans rfl; have hfz42_0 := blk_frozen BK130.out 0; have hfz42_1 := blk_frozen BK130.out 1; have hfz42_2 := blk_frozen BK130.out 2; have hfz42_3 := blk_frozen BK130.out 3; have hfz42_4 := blk_frozen BK130.out 4) | ((with_reducible refine gate_dst (N := 5) rfl ?_); (try (refine gate_guard (by rfl) ?_; dsimp only)); refine Kd.R_lit k24 _ 24 ?hg (N := 5) ?hd (xs := ([(⟨183, 0, 0, 0, 0⟩ : S24), (⟨149, 0, 0, 0, 0⟩ : S24)] : List (S24))) (inner := [.int .u8 183, .int .u8 0, .int .u8 0, .int .i16 0, .int .i32 0, .int .u8 149, .int .u8 0, .int .u8 0, .int .i16 0, .int .i32 0]) (ok := fun _ => True) (okp := fun _ => True) ?hr ?hp (fun _ hk => hk) trivial (Below.refl _ _) (Nat.le_refl _) (by simp) ?_; (case hd => rfl); (case hg => rfl); (case hr => first | (go_simp; done) | (go_simp; rfl)); (case hp => exact (Reps.c5 (show Kd.M k24 _ _ _ (⟨183, 0, 0, 0, 0⟩ : S24) [.int .u8 183, .int .u8 0, .int .u8 0, .int .i16 0, .int .i32 0] from (k24_mkM _ _ _ (⟨183, 0, 0, 0, 0⟩ : S24) )) (Reps.c5 (show Kd.M k24 _ _ _ (⟨149, 0, 0, 0, 0⟩ : S24) [.int .u8 149, .int .u8 0, .int .u8 0, .int .i16 0, .int .i32 0] from (k24_mkM _ _ _ (⟨149, 0, 0, 0, 0⟩ : S24) )) (Reps.none _ _)))); intro v132 w43 ho44 hb hg_ hnew_; clear hg_ hnew_; (first | rw [← Ny131.out] at ho44 | (simp only [Int.reduceToNat] at ho44; rw [← Ny131.out] at ho44)); have n0_ := Aside0.mk (Kd.R_lower (Kd.R_newB ho44 (g := gb130) (o := .cells #[.int .u8 149, .int .u8 0, .int .u8 0, .int .i16 0, .int .i32 0] 24 (0, 0)) (by (with_reducible repeat (first | refine blk_drewN ?_ _ | refine blk_drew ?_ | refine blk_alloc ?_ _)); refine blk_put (cs := #[.int .u8 149, .int .u8 0, .int .u8 0, .int .i16 0, .int .i32 0]) ?_ 4 _ rfl; (with_reducible repeat (first | refine blk_drewN ?_ _ | refine blk_drew ?_ | refine blk_alloc ?_ _)); refine blk_put (cs := #[.int .u8 149, .int .u8 0, .int .u8 0, .int .i16 0, .int .i32 0]) ?_ 3 _ rfl; (with_reducible repeat (first | refine blk_drewN ?_ _ | refine blk_drew ?_ | refine blk_alloc ?_ _)); refine blk_put (cs := #[.int .u8 149, .int .u8 0, .int .u8 0, .int .i16 0, .int .i32 0]) ?_ 2 _ rfl; (with_reducible repeat (first | refine blk_drewN ?_ _ | refine blk_drew ?_ | refine blk_alloc ?_ _)); refine blk_put (cs := #[.int .u8 149, .int .u8 0, .int .u8 0, .int .i16 0, .int .i32 0]) ?_ 1 _ rfl; (with_reducible repeat (first | refine blk_drewN ?_ _ | refine blk_drew ?_ | refine blk_alloc ?_ _)); refine blk_put (cs := #[.int .u8 0, .int .u8 0, .int .u8 0, .int .i16 0, .int .i32 0]) ?_ 0 _ rfl; (with_reducible repeat (first | refine blk_drewN ?_ _ | refine blk_drew ?_ | refine blk_alloc ?_ _)); exact BK130.out)) (below_size (by repeat (first | (with_reducible first | exact HB.out | apply below_alloc | apply pw_below_drewN | apply below_drew1 | refine below_set ?_ GE130.out) | exact HB.out)))); have n1_ := Aside0.mk (blk_below (g := gb130) (o := .cells #[.int .u8 149, .int .u8 0, .int .u8 0, .int .i16 0, .int .i32 0] 24 (0, 0)) (by (with_reducible repeat (first | refine blk_drewN ?_ _ | refine blk_drew ?_ | refine blk_alloc ?_ _)); refine blk_put (cs := #[.int .u8 149, .int .u8 0, .int .u8 0, .int .i16 0, .int .i32 0]) ?_ 4 _ rfl; (with_reducible repeat (first | refine blk_drewN ?_ _ | refine blk_drew ?_ | refine blk_alloc ?_ _)); refine blk_put (cs := #[.int .u8 149, .int .u8 0, .int .u8 0, .int .i16 0, .int .i32 0]) ?_ 3 _ rfl; (with_reducible repeat (first | refine blk_drewN ?_ _ | refine blk_drew ?_ | refine blk_alloc ?_ _)); refine blk_put (cs := #[.int .u8 149, .int .u8 0, .int .u8 0, .int .i16 0, .int .i32 0]) ?_ 2 _ rfl; (with_reducible repeat (first | refine blk_drewN ?_ _ | refine blk_drew ?_ | refine blk_alloc ?_ _)); refine blk_put (cs := #[.int .u8 149, .int .u8 0, .int .u8 0, .int .i16 0, .int .i32 0]) ?_ 1 _ rfl; (with_reducible repeat (first | refine blk_drewN ?_ _ | refine blk_drew ?_ | refine blk_alloc ?_ _)); refine blk_put (cs := #[.int .u8 0, .int .u8 0, .int .u8 0, .int .i16 0, .int .i32 0]) ?_ 0 _ rfl; (with_reducible repeat (first | refine blk_drewN ?_ _ | refine blk_drew ?_ | refine blk_alloc ?_ _)); exact BK130.out) hb); have n2_ := Aside0.mk (below_step (by repeat (first | (with_reducible first | exact HB.out | apply below_alloc | apply pw_below_drewN | apply below_drew1 | refine below_set ?_ GE130.out) | exact HB.out)) hb); clear BK130; clear HB; have HO133 := n0_; have BK130 := n1_; have HB := n2_; clear n0_ n1_ n2_; clear hb ho44; obtain ⟨Ao45, co45, eo45⟩ := Kd.R_slice HO133.out; subst eo45) | ((with_reducible refine gate_callee (f := 18) rfl ?_); refine goesL_ (some 6) rfl rfl Try.func18 (by kernel_rfl) rfl #[.slice Ao45 y131.length co45, .int .i64 0] rfl (by (try simp only [List.map_toArray, List.map_cons, List.map_nil]); first | done | rfl | (simp only [List.length_drop, List.length_take]; rfl)) ?_; (with_reducible refine (isa_Check.calls k _ _ y131 0 t134 _ ?side1 ?side2 A1.out).mono ?_); (case side1 => repeat (first | exact (Kd.R_reads' HO133.out).2.2 | (with_reducible refine Kd.C_alloc ?_ _) | (with_reducible refine Kd.C_drewN ?_ _) | (with_reducible refine Kd.C_drew ?_))); (case side2 => exact (Kd.R_reads' HO133.out).2.1); rintro e w46 ⟨rfl, hb⟩; refine ⟨_, rfl, ?_⟩; have n0_ := Aside0.mk (Kd.R_below (by (with_reducible repeat (first | apply Kd.R_alloc | apply Kd.R_drewN | apply Kd.R_drew)); exact HO133.out) hb); have n1_ := Aside0.mk (blk_below (g := gb130) (o := .cells #[.int .u8 149, .int .u8 0, .int .u8 0, .int .i16 0, .int .i32 0] 24 (0, 0)) (by (with_reducible repeat (first | refine blk_drewN ?_ _ | refine blk_drew ?_ | refine blk_alloc ?_ _)); exact BK130.out) hb); have n2_ := Aside0.mk (below_step (by repeat (first | (with_reducible first | exact HB.out | apply below_alloc | apply pw_below_drewN | apply below_drew1 | refine below_set ?_ GE130.out) | exact HB.out)) hb); clear HO133; clear BK130; clear HB; have HO133 := n0_; have BK130 := n1_; have HB := n2_; clear n0_ n1_ n2_; (try clear hb); (try clear hb2); (try clear hk); (try clear hi); have hcz47_0 : w46.cell? ⟨gb130, 0, none⟩ = some (.int .u8 149) := (blk_cell BK130.out 0).trans rfl; have hcz47_1 : w46.cell? ⟨gb130, 1, none⟩ = some (.int .u8 0) := (blk_cell BK130.out 1).trans rfl; have hcz47_2 : w46.cell? ⟨gb130, 2, none⟩ = some (.int .u8 0) := (blk_cell BK130.out 2).trans rfl; have hcz47_3 : w46.cell? ⟨gb130, 3, none⟩ = some (.int .i16 0) := (blk_cell BK130.out 3).trans rfl; have hcz47_4 : w46.cell? ⟨gb130, 4, none⟩ = some (.int .i32 0) := (blk_cell BK130.out 4).trans rfl; have hfz47_0 := blk_frozen BK130.out 0; have hfz47_1 := blk_frozen BK130.out 1; have hfz47_2 := blk_frozen BK130.out 2; have hfz47_3 := blk_frozen BK130.out 3; have hfz47_4 := blk_frozen BK130.out 4) | ((with_reducible refine gate_dst (N := 10) rfl ?_); (try (refine gate_guard (by rfl) ?_; dsimp only)); refine Kd.R_lit k24 _ 24 ?hg (N := 10) ?hd (xs := ([(⟨149, 0, 0, 0, 0⟩ : S24)] : List (S24))) (inner := [.int .u8 149, .int .u8 0, .int .u8 0, .int .i16 0, .int .i32 0]) (ok := fun _ => True) (okp := fun _ => True) ?hr ?hp (fun _ hk => hk) trivial (Below.refl _ _) (Nat.le_refl _) (by simp) ?_; (case hd => rfl); (case hg => rfl); (case hr => first | (go_simp; done) | (go_simp; rfl)); (case hp => exact (Reps.c5 (show Kd.M k24 _ _ _ (⟨149, 0, 0, 0, 0⟩ : S24) [.int .u8 149, .int .u8 0, .int .u8 0, .int .i16 0, .int .i32 0] from (k24_mkM _ _ _ (⟨149, 0, 0, 0, 0⟩ : S24) )) (Reps.none _ _))); intro v136 w48 ho49 hb hg_ hnew_; clear hg_ hnew_; (first | rw [← Ny135.out] at ho49 | (simp only [Int.reduceToNat] at ho49; rw [← Ny135.out] at ho49)); have n0_ := Aside0.mk (Kd.R_elder' (by (with_reducible repeat (first | apply Kd.R_alloc | apply Kd.R_drewN | apply Kd.R_drew)); exact HO133.out) (Kd.R_base ho49) hb); have n1_ := Aside0.mk (Kd.R_lower (Kd.R_newB (Kd.R_new' ho49 (Kd.R_lt (by (with_reducible repeat (first | apply Kd.R_alloc | apply Kd.R_drewN | apply Kd.R_drew)); exact HO133.out))) (g := gb130) (o := .cells #[.int .u8 149, .int .u8 0, .int .u8 0, .int .i16 0, .int .i32 0] 24 (0, 0)) (by (with_reducible repeat (first | refine blk_drewN ?_ _ | refine blk_drew ?_ | refine blk_alloc ?_ _)); exact BK130.out)) (below_size (by repeat (first | (with_reducible first | exact HB.out | apply below_alloc | apply pw_below_drewN | apply below_drew1 | refine below_set ?_ GE130.out) | exact HB.out)))); have n2_ := Aside0.mk (blk_below (g := gb130) (o := .cells #[.int .u8 149, .int .u8 0, .int .u8 0, .int .i16 0, .int .i32 0] 24 (0, 0)) (by (with_reducible repeat (first | refine blk_drewN ?_ _ | refine blk_drew ?_ | refine blk_alloc ?_ _)); exact BK130.out) hb); have n3_ := Aside0.mk (below_step (by repeat (first | (with_reducible first | exact HB.out | apply below_alloc | apply pw_below_drewN | apply below_drew1 | refine below_set ?_ GE130.out) | exact HB.out)) hb); clear HO133; clear BK130; clear HB; have HO133 := n0_; have HO137 := n1_; have BK130 := n2_; have HB := n3_; clear n0_ n1_ n2_ n3_; clear hb ho49; obtain ⟨Ao50, co50, eo50⟩ := Kd.R_slice HO137.out; subst eo50) | (go_at_call 18; (with_reducible refine (isa_Check.calls k _ _ y135 0 t138 _ ?side1 ?side2 A3.out).mono ?_); (case side1 => repeat (first | exact (Kd.R_reads' HO137.out).2.2 | (with_reducible refine Kd.C_alloc ?_ _) | (with_reducible refine Kd.C_drewN ?_ _) | (with_reducible refine Kd.C_drew ?_))); (case side2 => exact (Kd.R_reads' HO137.out).2.1); rintro e w51 ⟨rfl, hb⟩; have n0_ := Aside0.mk (Kd.R_below (by (with_reducible repeat (first | apply Kd.R_alloc | apply Kd.R_drewN | apply Kd.R_drew)); exact HO133.out) hb); have n1_ := Aside0.mk (Kd.R_below (by (with_reducible repeat (first | apply Kd.R_alloc | apply Kd.R_drewN | apply Kd.R_drew)); exact HO137.out) hb); have n2_ := Aside0.mk (blk_below (g := gb130) (o := .cells #[.int .u8 149, .int .u8 0, .int .u8 0, .int .i16 0, .int .i32 0] 24 (0, 0)) (by (with_reducible repeat (first | refine blk_drewN ?_ _ | refine blk_drew ?_ | refine blk_alloc ?_ _)); exact BK130.out) hb); have n3_ := Aside0.mk (below_step (by repeat (first | (with_reducible first | exact HB.out | apply below_alloc | apply pw_below_drewN | apply below_drew1 | refine below_set ?_ GE130.out) | exact HB.out)) hb); clear HO133; clear HO137; clear BK130; clear HB; have HO133 := n0_; have HO137 := n1_; have BK130 := n2_; have HB := n3_; clear n0_ n1_ n2_ n3_; (try clear hb); (try clear hb2); (try clear hk); (try clear hi)))
      go_ret
      exact ⟨by first | rfl | (simp [errW_none, errW_some] <;> rfl) | (simp [*, errW_none, errW_some] <;> rfl), by repeat (first | (with_reducible first | exact HB.out | apply below_alloc | apply pw_below_drewN | apply below_drew1 | refine below_set ?_ GE130.out) | exact HB.out)⟩
  · rw [if_neg c2] at H
    have c2b0 : (t134 == 0) = false := beq_eq_false_iff_ne.mpr c2
    have c2b1 : (t134 != 0) = true := bne_iff_ne.mpr c2
    obtain rfl := Option.some.inj H
    go_enter Try.func9, Try.ntmps9
    go_wp2_with (first | ((with_reducible refine gate_dst (N := 1) rfl ?_); (try (refine gate_guard (by rfl) ?_; dsimp only)); refine box_event ?hg (N := 1) ?hd (cs := #[.int .u8 0, .int .u8 0, .int .u8 0, .int .i16 0, .int .i32 0]) (t := 24) ?hr ?_; (case hd => rfl); (case hg => rfl); (case hr => first | (go_simp; done) | (go_simp; rfl)); intro gb130 hg w52 hbox hb; have n0_ := Aside0.mk (below_step (by repeat (first | (with_reducible first | exact HB.out | apply below_alloc | apply pw_below_drewN | apply below_drew1) | exact HB.out)) hb); have n1_ := Aside0.mk (hbox); have n2_ := Aside0.mk ((by rw [hg]; exact (below_size (by repeat (first | (with_reducible first | exact HB.out | apply below_alloc | apply pw_below_drewN | apply below_drew1) | exact HB.out))) : w.heap.size ≤ gb130)); have n3_ := Aside0.mk ((by rw [hg]; exact (below_size (by repeat (first | (with_reducible first | exact HB.out | apply below_alloc | apply pw_below_drewN | apply below_drew1) | exact HB.out))) : w.heap.size ≤ gb130)); clear HB; have HB := n0_; have BK130 := n1_; have GW130 := n2_; have GE130 := n3_; clear n0_ n1_ n2_ n3_; clear hb hbox hg; have hcz53_0 : w52.cell? ⟨gb130, 0, none⟩ = some (.int .u8 0) := (blk_cell BK130.out 0).trans rfl; have hcz53_1 : w52.cell? ⟨gb130, 1, none⟩ = some (.int .u8 0) := (blk_cell BK130.out 1).trans rfl; have hcz53_2 : w52.cell? ⟨gb130, 2, none⟩ = some (.int .u8 0) := (blk_cell BK130.out 2).trans rfl; have hcz53_3 : w52.cell? ⟨gb130, 3, none⟩ = some (.int .i16 0) := (blk_cell BK130.out 3).trans rfl; have hcz53_4 : w52.cell? ⟨gb130, 4, none⟩ = some (.int .i32 0) := (blk_cell BK130.out 4).trans rfl; have hfz53_0 := blk_frozen BK130.out 0; have hfz53_1 := blk_frozen BK130.out 1; have hfz53_2 := blk_frozen BK130.out 2; have hfz53_3 := blk_frozen BK130.out 3; have hfz53_4 := blk_frozen BK130.out 4) | ((with_reducible refine gate_dst (N := 5) rfl ?_); (try (refine gate_guard (by rfl) ?_; dsimp only)); refine Kd.R_lit k24 _ 24 ?hg (N := 5) ?hd (xs := ([(⟨183, 0, 0, 0, 0⟩ : S24), (⟨149, 0, 0, 0, 0⟩ : S24)] : List (S24))) (inner := [.int .u8 183, .int .u8 0, .int .u8 0, .int .i16 0, .int .i32 0, .int .u8 149, .int .u8 0, .int .u8 0, .int .i16 0, .int .i32 0]) (ok := fun _ => True) (okp := fun _ => True) ?hr ?hp (fun _ hk => hk) trivial (Below.refl _ _) (Nat.le_refl _) (by simp) ?_; (case hd => rfl); (case hg => rfl); (case hr => first | (go_simp; done) | (go_simp; rfl)); (case hp => exact (Reps.c5 (show Kd.M k24 _ _ _ (⟨183, 0, 0, 0, 0⟩ : S24) [.int .u8 183, .int .u8 0, .int .u8 0, .int .i16 0, .int .i32 0] from (k24_mkM _ _ _ (⟨183, 0, 0, 0, 0⟩ : S24) )) (Reps.c5 (show Kd.M k24 _ _ _ (⟨149, 0, 0, 0, 0⟩ : S24) [.int .u8 149, .int .u8 0, .int .u8 0, .int .i16 0, .int .i32 0] from (k24_mkM _ _ _ (⟨149, 0, 0, 0, 0⟩ : S24) )) (Reps.none _ _)))); intro v132 w54 ho55 hb hg_ hnew_; clear hg_ hnew_; (first | rw [← Ny131.out] at ho55 | (simp only [Int.reduceToNat] at ho55; rw [← Ny131.out] at ho55)); have n0_ := Aside0.mk (Kd.R_lower (Kd.R_newB ho55 (g := gb130) (o := .cells #[.int .u8 149, .int .u8 0, .int .u8 0, .int .i16 0, .int .i32 0] 24 (0, 0)) (by (with_reducible repeat (first | refine blk_drewN ?_ _ | refine blk_drew ?_ | refine blk_alloc ?_ _)); refine blk_put (cs := #[.int .u8 149, .int .u8 0, .int .u8 0, .int .i16 0, .int .i32 0]) ?_ 4 _ rfl; (with_reducible repeat (first | refine blk_drewN ?_ _ | refine blk_drew ?_ | refine blk_alloc ?_ _)); refine blk_put (cs := #[.int .u8 149, .int .u8 0, .int .u8 0, .int .i16 0, .int .i32 0]) ?_ 3 _ rfl; (with_reducible repeat (first | refine blk_drewN ?_ _ | refine blk_drew ?_ | refine blk_alloc ?_ _)); refine blk_put (cs := #[.int .u8 149, .int .u8 0, .int .u8 0, .int .i16 0, .int .i32 0]) ?_ 2 _ rfl; (with_reducible repeat (first | refine blk_drewN ?_ _ | refine blk_drew ?_ | refine blk_alloc ?_ _)); refine blk_put (cs := #[.int .u8 149, .int .u8 0, .int .u8 0, .int .i16 0, .int .i32 0]) ?_ 1 _ rfl; (with_reducible repeat (first | refine blk_drewN ?_ _ | refine blk_drew ?_ | refine blk_alloc ?_ _)); refine blk_put (cs := #[.int .u8 0, .int .u8 0, .int .u8 0, .int .i16 0, .int .i32 0]) ?_ 0 _ rfl; (with_reducible repeat (first | refine blk_drewN ?_ _ | refine blk_drew ?_ | refine blk_alloc ?_ _)); exact BK130.out)) (below_size (by repeat (first | (with_reducible first | exact HB.out | apply below_alloc | apply pw_below_drewN | apply below_drew1 | refine below_set ?_ GE130.out) | exact HB.out)))); have n1_ := Aside0.mk (blk_below (g := gb130) (o := .cells #[.int .u8 149, .int .u8 0, .int .u8 0, .int .i16 0, .int .i32 0] 24 (0, 0)) (by (with_reducible repeat (first | refine blk_drewN ?_ _ | refine blk_drew ?_ | refine blk_alloc ?_ _)); refine blk_put (cs := #[.int .u8 149, .int .u8 0, .int .u8 0, .int .i16 0, .int .i32 0]) ?_ 4 _ rfl; (with_reducible repeat (first | refine blk_drewN ?_ _ | refine blk_drew ?_ | refine blk_alloc ?_ _)); refine blk_put (cs := #[.int .u8 149, .int .u8 0, .int .u8 0, .int .i16 0, .int .i32 0]) ?_ 3 _ rfl; (with_reducible repeat (first | refine blk_drewN ?_ _ | refine blk_drew ?_ | refine blk_alloc ?_ _)); refine blk_put (cs := #[.int .u8 149, .int .u8 0, .int .u8 0, .int .i16 0, .int .i32 0]) ?_ 2 _ rfl; (with_reducible repeat (first | refine blk_drewN ?_ _ | refine blk_drew ?_ | refine blk_alloc ?_ _)); refine blk_put (cs := #[.int .u8 149, .int .u8 0, .int .u8 0, .int .i16 0, .int .i32 0]) ?_ 1 _ rfl; (with_reducible repeat (first | refine blk_drewN ?_ _ | refine blk_drew ?_ | refine blk_alloc ?_ _)); refine blk_put (cs := #[.int .u8 0, .int .u8 0, .int .u8 0, .int .i16 0, .int .i32 0]) ?_ 0 _ rfl; (with_reducible repeat (first | refine blk_drewN ?_ _ | refine blk_drew ?_ | refine blk_alloc ?_ _)); exact BK130.out) hb); have n2_ := Aside0.mk (below_step (by repeat (first | (with_reducible first | exact HB.out | apply below_alloc | apply pw_below_drewN | apply below_drew1 | refine below_set ?_ GE130.out) | exact HB.out)) hb); clear BK130; clear HB; have HO133 := n0_; have BK130 := n1_; have HB := n2_; clear n0_ n1_ n2_; clear hb ho55; obtain ⟨Ao56, co56, eo56⟩ := Kd.R_slice HO133.out; subst eo56) | ((with_reducible refine gate_callee (f := 18) rfl ?_); refine goesL_ (some 6) rfl rfl Try.func18 (by kernel_rfl) rfl #[.slice Ao56 y131.length co56, .int .i64 0] rfl (by (try simp only [List.map_toArray, List.map_cons, List.map_nil]); first | done | rfl | (simp only [List.length_drop, List.length_take]; rfl)) ?_; (with_reducible refine (isa_Check.calls k _ _ y131 0 t134 _ ?side1 ?side2 A1.out).mono ?_); (case side1 => repeat (first | exact (Kd.R_reads' HO133.out).2.2 | (with_reducible refine Kd.C_alloc ?_ _) | (with_reducible refine Kd.C_drewN ?_ _) | (with_reducible refine Kd.C_drew ?_))); (case side2 => exact (Kd.R_reads' HO133.out).2.1); rintro e w57 ⟨rfl, hb⟩; refine ⟨_, rfl, ?_⟩; have n0_ := Aside0.mk (Kd.R_below (by (with_reducible repeat (first | apply Kd.R_alloc | apply Kd.R_drewN | apply Kd.R_drew)); exact HO133.out) hb); have n1_ := Aside0.mk (blk_below (g := gb130) (o := .cells #[.int .u8 149, .int .u8 0, .int .u8 0, .int .i16 0, .int .i32 0] 24 (0, 0)) (by (with_reducible repeat (first | refine blk_drewN ?_ _ | refine blk_drew ?_ | refine blk_alloc ?_ _)); exact BK130.out) hb); have n2_ := Aside0.mk (below_step (by repeat (first | (with_reducible first | exact HB.out | apply below_alloc | apply pw_below_drewN | apply below_drew1 | refine below_set ?_ GE130.out) | exact HB.out)) hb); clear HO133; clear BK130; clear HB; have HO133 := n0_; have BK130 := n1_; have HB := n2_; clear n0_ n1_ n2_; (try clear hb); (try clear hb2); (try clear hk); (try clear hi)))
    go_ret
    exact ⟨by first | rfl | (simp [errW_none, errW_some] <;> rfl) | (simp [*, errW_none, errW_some] <;> rfl), by repeat (first | (with_reducible first | exact HB.out | apply below_alloc | apply pw_below_drewN | apply below_drew1 | refine below_set ?_ GE130.out) | exact HB.out)⟩

/-! ### halberdref03_Size: function 13 -/
mutual
def halberdref03_Size.j0 : Nat → Int → Bool → Option (Int)
  | 0, _, _ => none
  | k + 1, x3, x4 => if x4 = true then (some 4) else (if x3 = 105 then (halberdref03_Size.j1 k x3 (x3 == 105)) else (if x3 = 106 then (halberdref03_Size.j1 k x3 (x3 == 106)) else (halberdref03_Size.j1 k x3 (x3 == 107))))
def halberdref03_Size.j1 : Nat → Int → Bool → Option (Int)
  | 0, _, _ => none
  | k + 1, x3, x8 => if x8 = true then (some 2) else (if x3 = 113 then (halberdref03_Size.j2 k x3 (x3 == 113)) else (if x3 = 114 then (halberdref03_Size.j2 k x3 (x3 == 114)) else (halberdref03_Size.j2 k x3 (x3 == 115))))
def halberdref03_Size.j2 : Nat → Int → Bool → Option (Int)
  | 0, _, _ => none
  | k + 1, x3, x12 => if x12 = true then (some 1) else (if x3 = 121 then (some 8) else (if x3 = 122 then (some 8) else (if x3 = 123 then (some 8) else (some 0))))
end
def halberdref03_Size.f (k : Nat) (a0 : Int) : Option (Int) := if a0 = 97 then (halberdref03_Size.j0 k a0 (a0 == 97)) else (if a0 = 98 then (halberdref03_Size.j0 k a0 (a0 == 98)) else (halberdref03_Size.j0 k a0 (a0 == 99)))
theorem halberdref03_Size.mono_l : ∀ k, (∀ y0 y1, LeO (halberdref03_Size.j0 k y0 y1) (halberdref03_Size.j0 (k + 1) y0 y1)) ∧ (∀ y0 y1, LeO (halberdref03_Size.j1 k y0 y1) (halberdref03_Size.j1 (k + 1) y0 y1)) ∧ (∀ y0 y1, LeO (halberdref03_Size.j2 k y0 y1) (halberdref03_Size.j2 (k + 1) y0 y1))
  | 0 => ⟨fun _ _ r h => by simp [halberdref03_Size.j0] at h, fun _ _ r h => by simp [halberdref03_Size.j1] at h, fun _ _ r h => by simp [halberdref03_Size.j2] at h⟩
  | k + 1 => by
    obtain ⟨ih0, ih1, ih2⟩ := halberdref03_Size.mono_l k
    refine ⟨?_, ?_, ?_⟩
    · intro y0 y1
      unfold halberdref03_Size.j0
      repeat' first
      | (with_reducible exact ih0 _ _)
      | (with_reducible exact ih1 _ _)
      | (with_reducible exact ih2 _ _)
      | (with_reducible exact LeO.refl _)
      | (with_reducible exact LeO.none _)
      | (with_reducible refine LeO.ite ?_ ?_)
      | (with_reducible refine LeO.bind ?_ (fun _ => ?_))
      | exact ih0 _ _
      | exact ih1 _ _
      | exact ih2 _ _
      | exact LeO.none _
      | refine LeO.ite ?_ ?_
      | refine LeO.bind ?_ (fun _ => ?_)
    · intro y0 y1
      unfold halberdref03_Size.j1
      repeat' first
      | (with_reducible exact ih0 _ _)
      | (with_reducible exact ih1 _ _)
      | (with_reducible exact ih2 _ _)
      | (with_reducible exact LeO.refl _)
      | (with_reducible exact LeO.none _)
      | (with_reducible refine LeO.ite ?_ ?_)
      | (with_reducible refine LeO.bind ?_ (fun _ => ?_))
      | exact ih0 _ _
      | exact ih1 _ _
      | exact ih2 _ _
      | exact LeO.none _
      | refine LeO.ite ?_ ?_
      | refine LeO.bind ?_ (fun _ => ?_)
    · intro y0 y1
      unfold halberdref03_Size.j2
      repeat' first
      | (with_reducible exact ih0 _ _)
      | (with_reducible exact ih1 _ _)
      | (with_reducible exact ih2 _ _)
      | (with_reducible exact LeO.refl _)
      | (with_reducible exact LeO.none _)
      | (with_reducible refine LeO.ite ?_ ?_)
      | (with_reducible refine LeO.bind ?_ (fun _ => ?_))
      | exact ih0 _ _
      | exact ih1 _ _
      | exact ih2 _ _
      | exact LeO.none _
      | refine LeO.ite ?_ ?_
      | refine LeO.bind ?_ (fun _ => ?_)
theorem halberdref03_Size.mono : ∀ a0 k, LeO (halberdref03_Size.f k a0) (halberdref03_Size.f (k + 1) a0) := by
  intro a0 k
  obtain ⟨ih0, ih1, ih2⟩ := halberdref03_Size.mono_l k
  unfold halberdref03_Size.f
  repeat' first
      | (with_reducible exact ih0 _ _)
      | (with_reducible exact ih1 _ _)
      | (with_reducible exact ih2 _ _)
      | (with_reducible exact LeO.refl _)
      | (with_reducible exact LeO.none _)
      | (with_reducible refine LeO.ite ?_ ?_)
      | (with_reducible refine LeO.bind ?_ (fun _ => ?_))
      | exact ih0 _ _
      | exact ih1 _ _
      | exact ih2 _ _
      | exact LeO.none _
      | refine LeO.ite ?_ ?_
      | refine LeO.bind ?_ (fun _ => ?_)
set_option maxHeartbeats 8000000 in
set_option maxRecDepth 100000 in
theorem halberdref03_Size.calls (k : Nat) (a0 : Int) (r : Int) (w : World) (h : halberdref03_Size.f k a0 = some r) :
    Calls Try.prog 13 #[.int .u8 a0] w fun e w' => e = .returned (.int .i64 r) ∧ Drawn0 w w' := by
  have H : (if a0 = 97 then (halberdref03_Size.j0 k a0 (a0 == 97)) else (if a0 = 98 then (halberdref03_Size.j0 k a0 (a0 == 98)) else (halberdref03_Size.j0 k a0 (a0 == 99)))) = some r := h
  clear h
  have HC2 := Aside0.mk H
  clear H
  go_enter Try.func13, Try.ntmps13
  go_upto_if 4 with (fail)
  go_cut [4] (fun v4 wc => ∃ (kq : Nat) (x4_1 : Bool), v4 = .bool x4_1 ∧ Aside0 (halberdref03_Size.j0 kq a0 x4_1 = some r) ∧ Aside0 (kq ≤ k) ∧ Drawn0 w wc)
  case first =>
    have H := HC2.out
    clear HC2
    by_cases c3 : a0 = 97
    · rw [if_pos c3] at H
      have c3b0 : (a0 == 97) = true := beq_iff_eq.mpr c3
      have c3b1 : (a0 != 97) = false := bne_eq_false_iff_eq.mpr c3
      clear c3
      (first | rw [c3b0] | (simp only [i64_w, i32_w]; rw [c3b0]) | skip)
      have H' := Aside0.mk H
      clear H
      go_wp2
      go_meet
      case rel => exact ⟨_, ((a0 == 97)), (by first | rfl | (simp; done) | (simp [*]; done)), H', ⟨by first | omega | exact Nat.le_refl _⟩, by repeat (first | exact Drawn0.refl _ | apply Drawn0.step)⟩
    · rw [if_neg c3] at H
      have c3b0 : (a0 == 97) = false := beq_eq_false_iff_ne.mpr c3
      have c3b1 : (a0 != 97) = true := bne_iff_ne.mpr c3
      (first | rw [c3b0] | (simp only [i64_w, i32_w]; rw [c3b0]) | skip)
      by_cases c4 : a0 = 98
      · rw [if_pos c4] at H
        have c4b0 : (a0 == 98) = true := beq_iff_eq.mpr c4
        have c4b1 : (a0 != 98) = false := bne_eq_false_iff_eq.mpr c4
        clear c4
        have H' := Aside0.mk H
        clear H
        go_wp2
        go_meet
        case rel => exact ⟨_, ((a0 == 98)), (by first | rfl | (simp; done) | (simp [*]; done)), H', ⟨by first | omega | exact Nat.le_refl _⟩, by repeat (first | exact Drawn0.refl _ | apply Drawn0.step)⟩
      · rw [if_neg c4] at H
        have c4b0 : (a0 == 98) = false := beq_eq_false_iff_ne.mpr c4
        have c4b1 : (a0 != 98) = true := bne_iff_ne.mpr c4
        have H' := Aside0.mk H
        clear H
        go_wp2
        go_meet
        case rel => exact ⟨_, ((a0 == 99)), (by first | rfl | (simp; done) | (simp [*]; done)), H', ⟨by first | omega | exact Nat.le_refl _⟩, by repeat (first | exact Drawn0.refl _ | apply Drawn0.step)⟩
  case rest =>
    clear HC2
    try clear c1
    try clear p2
    try clear c3
    try clear c3b0
    try clear c3b1
    try clear c4
    try clear c4b0
    try clear c4b1
    obtain ⟨kq, x4_1, rfl, HA, HJ1, ⟨mc1, rfl⟩⟩ := hcut
    cases kq with
    | zero => exact absurd HA.out (by simp [halberdref03_Size.j0])
    | succ kj1 =>
      have H := HA.out
      clear HA
      simp only [halberdref03_Size.j0] at H
      by_cases c5 : x4_1 = true
      · subst c5
        have H1 : (some 4) = some r := by rw [if_pos rfl] at H; exact H
        clear H
        have H := H1
        clear H1
        obtain rfl := Option.some.inj H
        go_wp2
        go_ret
        exact ⟨by first | rfl | (simp; done) | (simp [*]; done), by repeat (first | exact Drawn0.refl _ | apply Drawn0.step)⟩
      · replace c5 := Bool.eq_false_iff.mpr c5
        subst c5
        have H1 : (if a0 = 105 then (halberdref03_Size.j1 kj1 a0 (a0 == 105)) else (if a0 = 106 then (halberdref03_Size.j1 kj1 a0 (a0 == 106)) else (halberdref03_Size.j1 kj1 a0 (a0 == 107)))) = some r := by rw [if_neg (show ¬ (false = true) by decide)] at H; exact H
        clear H
        have H := H1
        clear H1
        have HC6 := Aside0.mk H
        clear H
        go_upto_if 8 with (fail)
        go_cut [8] (fun v8 wc => ∃ (kq : Nat) (x8_5 : Bool), v8 = .bool x8_5 ∧ Aside0 (halberdref03_Size.j1 kq a0 x8_5 = some r) ∧ Aside0 (kq ≤ kj1) ∧ Drawn0 w wc)
        case first =>
          have H := HC6.out
          clear HC6
          by_cases c7 : a0 = 105
          · rw [if_pos c7] at H
            have c7b0 : (a0 == 105) = true := beq_iff_eq.mpr c7
            have c7b1 : (a0 != 105) = false := bne_eq_false_iff_eq.mpr c7
            clear c7
            (first | rw [c7b0] | (simp only [i64_w, i32_w]; rw [c7b0]) | skip)
            have H' := Aside0.mk H
            clear H
            go_wp2
            go_meet
            case rel => exact ⟨_, ((a0 == 105)), (by first | rfl | (simp; done) | (simp [*]; done)), H', ⟨by have := HJ1.out; first | omega | exact Nat.le_refl _⟩, by repeat (first | exact Drawn0.refl _ | apply Drawn0.step)⟩
          · rw [if_neg c7] at H
            have c7b0 : (a0 == 105) = false := beq_eq_false_iff_ne.mpr c7
            have c7b1 : (a0 != 105) = true := bne_iff_ne.mpr c7
            (first | rw [c7b0] | (simp only [i64_w, i32_w]; rw [c7b0]) | skip)
            by_cases c8 : a0 = 106
            · rw [if_pos c8] at H
              have c8b0 : (a0 == 106) = true := beq_iff_eq.mpr c8
              have c8b1 : (a0 != 106) = false := bne_eq_false_iff_eq.mpr c8
              clear c8
              have H' := Aside0.mk H
              clear H
              go_wp2
              go_meet
              case rel => exact ⟨_, ((a0 == 106)), (by first | rfl | (simp; done) | (simp [*]; done)), H', ⟨by have := HJ1.out; first | omega | exact Nat.le_refl _⟩, by repeat (first | exact Drawn0.refl _ | apply Drawn0.step)⟩
            · rw [if_neg c8] at H
              have c8b0 : (a0 == 106) = false := beq_eq_false_iff_ne.mpr c8
              have c8b1 : (a0 != 106) = true := bne_iff_ne.mpr c8
              have H' := Aside0.mk H
              clear H
              go_wp2
              go_meet
              case rel => exact ⟨_, ((a0 == 107)), (by first | rfl | (simp; done) | (simp [*]; done)), H', ⟨by have := HJ1.out; first | omega | exact Nat.le_refl _⟩, by repeat (first | exact Drawn0.refl _ | apply Drawn0.step)⟩
        case rest =>
          clear HC6
          try clear c1
          try clear p2
          try clear c3
          try clear c3b0
          try clear c3b1
          try clear c4
          try clear c4b0
          try clear c4b1
          try clear c5
          try clear c7
          try clear c7b0
          try clear c7b1
          try clear c8
          try clear c8b0
          try clear c8b1
          try clear p2
          obtain ⟨kq, x8_5, rfl, HA, HJ5, ⟨mc5, rfl⟩⟩ := hcut
          cases kq with
          | zero => exact absurd HA.out (by simp [halberdref03_Size.j1])
          | succ kj5 =>
            have H := HA.out
            clear HA
            simp only [halberdref03_Size.j1] at H
            by_cases c9 : x8_5 = true
            · subst c9
              have H1 : (some 2) = some r := by rw [if_pos rfl] at H; exact H
              clear H
              have H := H1
              clear H1
              obtain rfl := Option.some.inj H
              go_wp2
              go_ret
              exact ⟨by first | rfl | (simp; done) | (simp [*]; done), by repeat (first | exact Drawn0.refl _ | apply Drawn0.step)⟩
            · replace c9 := Bool.eq_false_iff.mpr c9
              subst c9
              have H1 : (if a0 = 113 then (halberdref03_Size.j2 kj5 a0 (a0 == 113)) else (if a0 = 114 then (halberdref03_Size.j2 kj5 a0 (a0 == 114)) else (halberdref03_Size.j2 kj5 a0 (a0 == 115)))) = some r := by rw [if_neg (show ¬ (false = true) by decide)] at H; exact H
              clear H
              have H := H1
              clear H1
              have HC10 := Aside0.mk H
              clear H
              go_upto_if 12 with (fail)
              go_cut [12] (fun v12 wc => ∃ (kq : Nat) (x12_9 : Bool), v12 = .bool x12_9 ∧ Aside0 (halberdref03_Size.j2 kq a0 x12_9 = some r) ∧ Aside0 (kq ≤ kj5) ∧ Drawn0 w wc)
              case first =>
                have H := HC10.out
                clear HC10
                by_cases c11 : a0 = 113
                · rw [if_pos c11] at H
                  have c11b0 : (a0 == 113) = true := beq_iff_eq.mpr c11
                  have c11b1 : (a0 != 113) = false := bne_eq_false_iff_eq.mpr c11
                  clear c11
                  (first | rw [c11b0] | (simp only [i64_w, i32_w]; rw [c11b0]) | skip)
                  have H' := Aside0.mk H
                  clear H
                  go_wp2
                  go_meet
                  case rel => exact ⟨_, ((a0 == 113)), (by first | rfl | (simp; done) | (simp [*]; done)), H', ⟨by have := HJ1.out; have := HJ5.out; first | omega | exact Nat.le_refl _⟩, by repeat (first | exact Drawn0.refl _ | apply Drawn0.step)⟩
                · rw [if_neg c11] at H
                  have c11b0 : (a0 == 113) = false := beq_eq_false_iff_ne.mpr c11
                  have c11b1 : (a0 != 113) = true := bne_iff_ne.mpr c11
                  (first | rw [c11b0] | (simp only [i64_w, i32_w]; rw [c11b0]) | skip)
                  by_cases c12 : a0 = 114
                  · rw [if_pos c12] at H
                    have c12b0 : (a0 == 114) = true := beq_iff_eq.mpr c12
                    have c12b1 : (a0 != 114) = false := bne_eq_false_iff_eq.mpr c12
                    clear c12
                    have H' := Aside0.mk H
                    clear H
                    go_wp2
                    go_meet
                    case rel => exact ⟨_, ((a0 == 114)), (by first | rfl | (simp; done) | (simp [*]; done)), H', ⟨by have := HJ1.out; have := HJ5.out; first | omega | exact Nat.le_refl _⟩, by repeat (first | exact Drawn0.refl _ | apply Drawn0.step)⟩
                  · rw [if_neg c12] at H
                    have c12b0 : (a0 == 114) = false := beq_eq_false_iff_ne.mpr c12
                    have c12b1 : (a0 != 114) = true := bne_iff_ne.mpr c12
                    have H' := Aside0.mk H
                    clear H
                    go_wp2
                    go_meet
                    case rel => exact ⟨_, ((a0 == 115)), (by first | rfl | (simp; done) | (simp [*]; done)), H', ⟨by have := HJ1.out; have := HJ5.out; first | omega | exact Nat.le_refl _⟩, by repeat (first | exact Drawn0.refl _ | apply Drawn0.step)⟩
              case rest =>
                clear HC10
                try clear c1
                try clear p2
                try clear c3
                try clear c3b0
                try clear c3b1
                try clear c4
                try clear c4b0
                try clear c4b1
                try clear c5
                try clear c7
                try clear c7b0
                try clear c7b1
                try clear c8
                try clear c8b0
                try clear c8b1
                try clear c9
                try clear c11
                try clear c11b0
                try clear c11b1
                try clear c12
                try clear c12b0
                try clear c12b1
                try clear p2
                obtain ⟨kq, x12_9, rfl, HA, HJ9, ⟨mc9, rfl⟩⟩ := hcut
                cases kq with
                | zero => exact absurd HA.out (by simp [halberdref03_Size.j2])
                | succ kj9 =>
                  have H := HA.out
                  clear HA
                  simp only [halberdref03_Size.j2] at H
                  by_cases c13 : x12_9 = true
                  · subst c13
                    have H1 : (some 1) = some r := by rw [if_pos rfl] at H; exact H
                    clear H
                    have H := H1
                    clear H1
                    obtain rfl := Option.some.inj H
                    go_wp2
                    go_ret
                    exact ⟨by first | rfl | (simp; done) | (simp [*]; done), by repeat (first | exact Drawn0.refl _ | apply Drawn0.step)⟩
                  · replace c13 := Bool.eq_false_iff.mpr c13
                    subst c13
                    have H1 : (if a0 = 121 then (some 8) else (if a0 = 122 then (some 8) else (if a0 = 123 then (some 8) else (some 0)))) = some r := by rw [if_neg (show ¬ (false = true) by decide)] at H; exact H
                    clear H
                    have H := H1
                    clear H1
                    by_cases c14 : a0 = 121
                    · rw [if_pos c14] at H
                      have c14b0 : (a0 == 121) = true := beq_iff_eq.mpr c14
                      have c14b1 : (a0 != 121) = false := bne_eq_false_iff_eq.mpr c14
                      clear c14
                      obtain rfl := Option.some.inj H
                      go_wp2
                      go_ret
                      exact ⟨by first | rfl | (simp; done) | (simp [*]; done), by repeat (first | exact Drawn0.refl _ | apply Drawn0.step)⟩
                    · rw [if_neg c14] at H
                      have c14b0 : (a0 == 121) = false := beq_eq_false_iff_ne.mpr c14
                      have c14b1 : (a0 != 121) = true := bne_iff_ne.mpr c14
                      by_cases c15 : a0 = 122
                      · rw [if_pos c15] at H
                        have c15b0 : (a0 == 122) = true := beq_iff_eq.mpr c15
                        have c15b1 : (a0 != 122) = false := bne_eq_false_iff_eq.mpr c15
                        clear c15
                        obtain rfl := Option.some.inj H
                        go_wp2
                        go_ret
                        exact ⟨by first | rfl | (simp; done) | (simp [*]; done), by repeat (first | exact Drawn0.refl _ | apply Drawn0.step)⟩
                      · rw [if_neg c15] at H
                        have c15b0 : (a0 == 122) = false := beq_eq_false_iff_ne.mpr c15
                        have c15b1 : (a0 != 122) = true := bne_iff_ne.mpr c15
                        by_cases c16 : a0 = 123
                        · rw [if_pos c16] at H
                          have c16b0 : (a0 == 123) = true := beq_iff_eq.mpr c16
                          have c16b1 : (a0 != 123) = false := bne_eq_false_iff_eq.mpr c16
                          clear c16
                          obtain rfl := Option.some.inj H
                          go_wp2
                          go_ret
                          exact ⟨by first | rfl | (simp; done) | (simp [*]; done), by repeat (first | exact Drawn0.refl _ | apply Drawn0.step)⟩
                        · rw [if_neg c16] at H
                          have c16b0 : (a0 == 123) = false := beq_eq_false_iff_ne.mpr c16
                          have c16b1 : (a0 != 123) = true := bne_iff_ne.mpr c16
                          obtain rfl := Option.some.inj H
                          go_wp2
                          go_ret
                          exact ⟨by first | rfl | (simp; done) | (simp [*]; done), by repeat (first | exact Drawn0.refl _ | apply Drawn0.step)⟩

/-! ### halberdref03_Conditional: function 20 -/
def halberdref03_Conditional.f (a0 : Int) : Option (Bool) := if (Int.tmod a0 8) = 5 then (if ((Int.tdiv a0 16) % 256) ≥ 1 then (if ((Int.tdiv a0 16) % 256) ≤ 7 then (some true) else (if ((Int.tdiv a0 16) % 256) ≥ 10 then (some (decide (((Int.tdiv a0 16) % 256) ≤ 13))) else (some false))) else (if ((Int.tdiv a0 16) % 256) ≥ 10 then (some (decide (((Int.tdiv a0 16) % 256) ≤ 13))) else (some false))) else (if (Int.tmod a0 8) = 6 then (if ((Int.tdiv a0 16) % 256) ≥ 1 then (if ((Int.tdiv a0 16) % 256) ≤ 7 then (some true) else (if ((Int.tdiv a0 16) % 256) ≥ 10 then (some (decide (((Int.tdiv a0 16) % 256) ≤ 13))) else (some false))) else (if ((Int.tdiv a0 16) % 256) ≥ 10 then (some (decide (((Int.tdiv a0 16) % 256) ≤ 13))) else (some false))) else (some false))
set_option maxHeartbeats 8000000 in
set_option maxRecDepth 100000 in
theorem halberdref03_Conditional.calls (a0 : Int) (r : Bool) (w : World) (h : halberdref03_Conditional.f a0 = some r) :
    Calls Try.prog 20 #[.int .u8 a0] w fun e w' => e = .returned (.bool r) ∧ Drawn0 w w' := by
  have H : (if (Int.tmod a0 8) = 5 then (if ((Int.tdiv a0 16) % 256) ≥ 1 then (if ((Int.tdiv a0 16) % 256) ≤ 7 then (some true) else (if ((Int.tdiv a0 16) % 256) ≥ 10 then (some (decide (((Int.tdiv a0 16) % 256) ≤ 13))) else (some false))) else (if ((Int.tdiv a0 16) % 256) ≥ 10 then (some (decide (((Int.tdiv a0 16) % 256) ≤ 13))) else (some false))) else (if (Int.tmod a0 8) = 6 then (if ((Int.tdiv a0 16) % 256) ≥ 1 then (if ((Int.tdiv a0 16) % 256) ≤ 7 then (some true) else (if ((Int.tdiv a0 16) % 256) ≥ 10 then (some (decide (((Int.tdiv a0 16) % 256) ≤ 13))) else (some false))) else (if ((Int.tdiv a0 16) % 256) ≥ 10 then (some (decide (((Int.tdiv a0 16) % 256) ≤ 13))) else (some false))) else (some false))) = some r := h
  clear h
  by_cases c2 : (Int.tmod a0 8) = 5
  · rw [if_pos c2] at H
    have c2b0 : ((Int.tmod a0 8) == 5) = true := beq_iff_eq.mpr c2
    have c2b1 : ((Int.tmod a0 8) != 5) = false := bne_eq_false_iff_eq.mpr c2
    clear c2
    by_cases c3 : ((Int.tdiv a0 16) % 256) ≥ 1
    · rw [if_pos c3] at H
      have c3b0 : decide (1 ≤ ((Int.tdiv a0 16) % 256)) = true := decide_eq_true c3
      clear c3
      by_cases c4 : ((Int.tdiv a0 16) % 256) ≤ 7
      · rw [if_pos c4] at H
        have c4b0 : decide (((Int.tdiv a0 16) % 256) ≤ 7) = true := decide_eq_true c4
        clear c4
        obtain rfl := Option.some.inj H
        go_enter Try.func20, Try.ntmps20
        go_wp2
        go_ret
        exact ⟨by first | rfl | (simp; done) | (simp [*]; done), by repeat (first | exact Drawn0.refl _ | apply Drawn0.step)⟩
      · rw [if_neg c4] at H
        have c4b0 : decide (((Int.tdiv a0 16) % 256) ≤ 7) = false := decide_eq_false c4
        clear c4
        by_cases c5 : ((Int.tdiv a0 16) % 256) ≥ 10
        · rw [if_pos c5] at H
          have c5b0 : decide (10 ≤ ((Int.tdiv a0 16) % 256)) = true := decide_eq_true c5
          clear c5
          obtain rfl := Option.some.inj H
          go_enter Try.func20, Try.ntmps20
          go_wp2
          go_ret
          exact ⟨by first | rfl | (simp; done) | (simp [*]; done), by repeat (first | exact Drawn0.refl _ | apply Drawn0.step)⟩
        · rw [if_neg c5] at H
          have c5b0 : decide (10 ≤ ((Int.tdiv a0 16) % 256)) = false := decide_eq_false c5
          clear c5
          obtain rfl := Option.some.inj H
          go_enter Try.func20, Try.ntmps20
          go_wp2
          go_ret
          exact ⟨by first | rfl | (simp; done) | (simp [*]; done), by repeat (first | exact Drawn0.refl _ | apply Drawn0.step)⟩
    · rw [if_neg c3] at H
      have c3b0 : decide (1 ≤ ((Int.tdiv a0 16) % 256)) = false := decide_eq_false c3
      clear c3
      by_cases c6 : ((Int.tdiv a0 16) % 256) ≥ 10
      · rw [if_pos c6] at H
        have c6b0 : decide (10 ≤ ((Int.tdiv a0 16) % 256)) = true := decide_eq_true c6
        clear c6
        obtain rfl := Option.some.inj H
        go_enter Try.func20, Try.ntmps20
        go_wp2
        go_ret
        exact ⟨by first | rfl | (simp; done) | (simp [*]; done), by repeat (first | exact Drawn0.refl _ | apply Drawn0.step)⟩
      · rw [if_neg c6] at H
        have c6b0 : decide (10 ≤ ((Int.tdiv a0 16) % 256)) = false := decide_eq_false c6
        clear c6
        obtain rfl := Option.some.inj H
        go_enter Try.func20, Try.ntmps20
        go_wp2
        go_ret
        exact ⟨by first | rfl | (simp; done) | (simp [*]; done), by repeat (first | exact Drawn0.refl _ | apply Drawn0.step)⟩
  · rw [if_neg c2] at H
    have c2b0 : ((Int.tmod a0 8) == 5) = false := beq_eq_false_iff_ne.mpr c2
    have c2b1 : ((Int.tmod a0 8) != 5) = true := bne_iff_ne.mpr c2
    by_cases c7 : (Int.tmod a0 8) = 6
    · rw [if_pos c7] at H
      have c7b0 : ((Int.tmod a0 8) == 6) = true := beq_iff_eq.mpr c7
      have c7b1 : ((Int.tmod a0 8) != 6) = false := bne_eq_false_iff_eq.mpr c7
      clear c7
      by_cases c8 : ((Int.tdiv a0 16) % 256) ≥ 1
      · rw [if_pos c8] at H
        have c8b0 : decide (1 ≤ ((Int.tdiv a0 16) % 256)) = true := decide_eq_true c8
        clear c8
        by_cases c9 : ((Int.tdiv a0 16) % 256) ≤ 7
        · rw [if_pos c9] at H
          have c9b0 : decide (((Int.tdiv a0 16) % 256) ≤ 7) = true := decide_eq_true c9
          clear c9
          obtain rfl := Option.some.inj H
          go_enter Try.func20, Try.ntmps20
          go_wp2
          go_ret
          exact ⟨by first | rfl | (simp; done) | (simp [*]; done), by repeat (first | exact Drawn0.refl _ | apply Drawn0.step)⟩
        · rw [if_neg c9] at H
          have c9b0 : decide (((Int.tdiv a0 16) % 256) ≤ 7) = false := decide_eq_false c9
          clear c9
          by_cases c10 : ((Int.tdiv a0 16) % 256) ≥ 10
          · rw [if_pos c10] at H
            have c10b0 : decide (10 ≤ ((Int.tdiv a0 16) % 256)) = true := decide_eq_true c10
            clear c10
            obtain rfl := Option.some.inj H
            go_enter Try.func20, Try.ntmps20
            go_wp2
            go_ret
            exact ⟨by first | rfl | (simp; done) | (simp [*]; done), by repeat (first | exact Drawn0.refl _ | apply Drawn0.step)⟩
          · rw [if_neg c10] at H
            have c10b0 : decide (10 ≤ ((Int.tdiv a0 16) % 256)) = false := decide_eq_false c10
            clear c10
            obtain rfl := Option.some.inj H
            go_enter Try.func20, Try.ntmps20
            go_wp2
            go_ret
            exact ⟨by first | rfl | (simp; done) | (simp [*]; done), by repeat (first | exact Drawn0.refl _ | apply Drawn0.step)⟩
      · rw [if_neg c8] at H
        have c8b0 : decide (1 ≤ ((Int.tdiv a0 16) % 256)) = false := decide_eq_false c8
        clear c8
        by_cases c11 : ((Int.tdiv a0 16) % 256) ≥ 10
        · rw [if_pos c11] at H
          have c11b0 : decide (10 ≤ ((Int.tdiv a0 16) % 256)) = true := decide_eq_true c11
          clear c11
          obtain rfl := Option.some.inj H
          go_enter Try.func20, Try.ntmps20
          go_wp2
          go_ret
          exact ⟨by first | rfl | (simp; done) | (simp [*]; done), by repeat (first | exact Drawn0.refl _ | apply Drawn0.step)⟩
        · rw [if_neg c11] at H
          have c11b0 : decide (10 ≤ ((Int.tdiv a0 16) % 256)) = false := decide_eq_false c11
          clear c11
          obtain rfl := Option.some.inj H
          go_enter Try.func20, Try.ntmps20
          go_wp2
          go_ret
          exact ⟨by first | rfl | (simp; done) | (simp [*]; done), by repeat (first | exact Drawn0.refl _ | apply Drawn0.step)⟩
    · rw [if_neg c7] at H
      have c7b0 : ((Int.tmod a0 8) == 6) = false := beq_eq_false_iff_ne.mpr c7
      have c7b1 : ((Int.tmod a0 8) != 6) = true := bne_iff_ne.mpr c7
      obtain rfl := Option.some.inj H
      go_enter Try.func20, Try.ntmps20
      go_wp2
      go_ret
      exact ⟨by first | rfl | (simp; done) | (simp [*]; done), by repeat (first | exact Drawn0.refl _ | apply Drawn0.step)⟩

end Go.Proofs.Ytkbngkhajkhfgaa.PIsaChecks
