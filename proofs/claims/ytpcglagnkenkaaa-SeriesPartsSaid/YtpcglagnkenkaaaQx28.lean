-- written by a program of this session (wip/tool/p2.py over the kit's print)
import Derived.Test.YtpcglagnkenkaaaQx0
import Derived.Test.YtpcglagnkenkaaaQx12
import Derived.Test.YtpcglagnkenkaaaQx13
import Derived.Test.YtpcglagnkenkaaaQx14
import Derived.Test.YtpcglagnkenkaaaQx27
namespace Go.Proofs.Ytpcglagnkenkaaa.Q
open Go.RowKit Go.Proofs.YtpcglagnkenkaaaW.PrintWords Go.Proofs.YtpcglagnkenkaaaW.PrintLast Go.Proofs.YtpcglagnkenkaaaW.PrintMore
attribute [local go_sem] max2_int min2_int max_two min_two max_three min_three max_four min_four   -- for this text's walks alone
set_option linter.unusedVariables false
set_option linter.unusedSimpArgs false

/-! ### series_Window: function 22 -/
def series_Window.j0 : Nat → Int → Int → Bool → Int → Int → List Int → Option (List Int × Int)
  | 0, _, _, _, _, _, _ => none
  | k + 1, x1, x2, x20, x217000, x217001, x217002 => if x20 = true then (some (([] : List Int), 1)) else (if 0 ≤ x1 then (if x1 ≤ (wrap64 (x1 + x2)) then (if (wrap64 (x1 + x2)) ≤ (x217002.length : Int) then ((slices_Clone_int_int.f ((x217002.take ((wrap64 (x1 + x2)) : Int).toNat).drop (x1 : Int).toNat)).bind fun t220 => ((slices_Contains_int_int.f k t220 1073741824).bind fun t223 => (if t223 = true then (some (([] : List Int), 13)) else (some (t220, 0))))) else (none)) else (none)) else (none))
def series_Window.f (k : Nat) (a0_0 : Int) (a0_1 : Int) (l0_2 : List Int) (a1 : Int) (a2 : Int) : Option (List Int × Int) := (series_Valid.f k a0_0 a0_1 l0_2).bind fun t217 => (if t217 = true then (if a2 < 1 then (series_Window.j0 k a1 a2 true a0_0 a0_1 l0_2) else ((series_inside.f a0_0 a0_1 l0_2 a1 a2).bind fun t218 => (series_Window.j0 k a1 a2 (!t218) a0_0 a0_1 l0_2))) else (some (([] : List Int), 3)))
theorem series_Window.mono_l : ∀ k, (∀ y0 y1 y2 y3 y4 y5, LeO (series_Window.j0 k y0 y1 y2 y3 y4 y5) (series_Window.j0 (k + 1) y0 y1 y2 y3 y4 y5))
  | 0 => fun _ _ _ _ _ _ r h => by simp [series_Window.j0] at h
  | k + 1 => by
    have ih0 := series_Window.mono_l k
    · intro y0 y1 y2 y3 y4 y5
      unfold series_Window.j0
      repeat' first
      | (with_reducible exact ih0 _ _ _ _ _ _)
      | (with_reducible exact series_Valid.mono _ _ _ _)
      | (with_reducible exact slices_Contains_int_int.mono _ _ _)
      | (with_reducible exact LeO.refl _)
      | (with_reducible exact LeO.none _)
      | (with_reducible refine LeO.ite ?_ ?_)
      | (with_reducible refine LeO.bind ?_ (fun _ => ?_))
      | exact ih0 _ _ _ _ _ _
      | exact series_Valid.mono _ _ _ _
      | exact slices_Contains_int_int.mono _ _ _
      | exact LeO.none _
      | refine LeO.ite ?_ ?_
      | refine LeO.bind ?_ (fun _ => ?_)
theorem series_Window.mono : ∀ a0 a1 a2 a3 a4 k, LeO (series_Window.f k a0 a1 a2 a3 a4) (series_Window.f (k + 1) a0 a1 a2 a3 a4) := by
  intro a0 a1 a2 a3 a4 k
  have ih0 := series_Window.mono_l k
  unfold series_Window.f
  repeat' first
      | (with_reducible exact ih0 _ _ _ _ _ _)
      | (with_reducible exact series_Valid.mono _ _ _ _)
      | (with_reducible exact slices_Contains_int_int.mono _ _ _)
      | (with_reducible exact LeO.refl _)
      | (with_reducible exact LeO.none _)
      | (with_reducible refine LeO.ite ?_ ?_)
      | (with_reducible refine LeO.bind ?_ (fun _ => ?_))
      | exact ih0 _ _ _ _ _ _
      | exact series_Valid.mono _ _ _ _
      | exact slices_Contains_int_int.mono _ _ _
      | exact LeO.none _
      | refine LeO.ite ?_ ?_
      | refine LeO.bind ?_ (fun _ => ?_)
set_option maxHeartbeats 8000000 in
set_option maxRecDepth 100000 in
theorem series_Window.calls (k : Nat) (a0_0 : Int) (a0_1 : Int) (A0_2 : Option Addr) (c0_2 : Nat) (l0_2 : List Int) (a1 : Int) (a2 : Int) (r1 : List Int) (r2 : Int) (w : World) (hr0_2 : Kd.C (Kd.int .i64) w A0_2 l0_2.length l0_2) (hc0_2 : l0_2.length ≤ c0_2) (h : series_Window.f k a0_0 a0_1 l0_2 a1 a2 = some (r1, r2)) :
    Calls Try.prog 22 #[.agg #[.int .i64 a0_0, .int .i64 a0_1, .slice A0_2 l0_2.length c0_2], .int .i64 a1, .int .i64 a2] w fun e w' => ∃ v0_ : Value, e = .returned (.tuple #[v0_, .int .i64 r2]) ∧ Kd.R (Kd.int .i64) 3 w' w.heap.size (fun _ => True) v0_ r1 ∧ Below w.heap.size w w' := by
  have hu24 := Try.underlying24
  have HR0_2 := Aside0.mk hr0_2
  have HC0_2 := Aside0.mk hc0_2
  clear hr0_2 hc0_2
  have HB := Aside0.mk (Below.refl w.heap.size w)
  have H : ((series_Valid.f k a0_0 a0_1 l0_2).bind fun t217 => (if t217 = true then (if a2 < 1 then (series_Window.j0 k a1 a2 true a0_0 a0_1 l0_2) else ((series_inside.f a0_0 a0_1 l0_2 a1 a2).bind fun t218 => (series_Window.j0 k a1 a2 (!t218) a0_0 a0_1 l0_2))) else (some (([] : List Int), 3)))) = some (r1, r2) := h
  clear h
  replace H := Option.bind_eq_some_iff.mp H
  obtain ⟨t217, A40, H⟩ := H
  replace H : (if t217 = true then (if a2 < 1 then (series_Window.j0 k a1 a2 true a0_0 a0_1 l0_2) else ((series_inside.f a0_0 a0_1 l0_2 a1 a2).bind fun t218 => (series_Window.j0 k a1 a2 (!t218) a0_0 a0_1 l0_2))) else (some (([] : List Int), 3))) = some (r1, r2) := H
  have A4 := Aside0.mk A40
  clear A40
  by_cases c5 : t217 = true
  · subst c5
    have H1 : (if a2 < 1 then (series_Window.j0 k a1 a2 true a0_0 a0_1 l0_2) else ((series_inside.f a0_0 a0_1 l0_2 a1 a2).bind fun t218 => (series_Window.j0 k a1 a2 (!t218) a0_0 a0_1 l0_2))) = some (r1, r2) := by rw [if_pos rfl] at H; exact H
    clear H
    have H := H1
    clear H1
    have HC6 := Aside0.mk H
    clear H
    go_enter Try.func22, Try.ntmps22
    go_upto_region 3 with (first | ((with_reducible refine gate_dst (N := 3) rfl ?_); refine box_event ?hg (N := 3) ?hd (cs := #[.int .i64 a0_0, .int .i64 a0_1, .slice A0_2 l0_2.length c0_2]) (t := 24) ?hr ?_; (case hd => rfl); (case hg => rfl); (case hr => first | (go_simp; done) | (go_simp; rfl)); intro gb216 hg w7 hbox hb; have n0_ := Aside0.mk (below_step (by repeat (first | (with_reducible first | exact HB.out | apply below_alloc | apply pw_below_drewN | apply below_drew1) | exact HB.out)) hb); have n1_ := Aside0.mk (hbox); have n2_ := Aside0.mk ((by rw [hg]; exact (below_size (by repeat (first | (with_reducible first | exact HB.out | apply below_alloc | apply pw_below_drewN | apply below_drew1) | exact HB.out))) : w.heap.size ≤ gb216)); have n3_ := Aside0.mk ((by rw [hg]; exact (below_size (by repeat (first | (with_reducible first | exact HB.out | apply below_alloc | apply pw_below_drewN | apply below_drew1) | exact HB.out))) : w.heap.size ≤ gb216)); clear HB; have HB := n0_; have BK216 := n1_; have GW216 := n2_; have GE216 := n3_; clear n0_ n1_ n2_ n3_; clear hb hbox hg; have hcz8_0 : w7.cell? ⟨gb216, 0, none⟩ = some (.int .i64 a0_0) := (blk_cell BK216.out 0).trans rfl; have hcz8_1 : w7.cell? ⟨gb216, 1, none⟩ = some (.int .i64 a0_1) := (blk_cell BK216.out 1).trans rfl; have hcz8_2 : w7.cell? ⟨gb216, 2, none⟩ = some (.slice A0_2 l0_2.length c0_2) := (blk_cell BK216.out 2).trans rfl; have hfz8_0 := blk_frozen BK216.out 0; have hfz8_1 := blk_frozen BK216.out 1; have hfz8_2 := blk_frozen BK216.out 2) | ((with_reducible refine gate_callee (f := 16) rfl ?_); refine goesL_ (some 10) rfl rfl Try.func16 (by kernel_rfl) rfl #[.agg #[.int .i64 a0_0, .int .i64 a0_1, .slice A0_2 l0_2.length c0_2]] rfl (by (try simp only [List.map_toArray, List.map_cons, List.map_nil]); first | done | rfl | (simp only [List.length_drop, List.length_take]; rfl)) ?_; (with_reducible refine (series_Valid.calls k a0_0 a0_1 _ _ l0_2 true _ ?side1 ?side2 A4.out).mono ?_); (case side1 => repeat (first | exact (Kd.C_below HR0_2.out HB.out) | (with_reducible refine Kd.C_alloc ?_ _) | (with_reducible refine Kd.C_drewN ?_ _) | (with_reducible refine Kd.C_drew ?_))); (case side2 => exact HC0_2.out); rintro e w9 ⟨rfl, hb⟩; refine ⟨_, rfl, ?_⟩; have n0_ := Aside0.mk (blk_below (g := gb216) (o := .cells #[.int .i64 a0_0, .int .i64 a0_1, .slice A0_2 l0_2.length c0_2] 24 (0, 0)) (by (with_reducible repeat (first | refine blk_drewN ?_ _ | refine blk_drew ?_ | refine blk_alloc ?_ _)); exact BK216.out) hb); have n1_ := Aside0.mk (below_step (by repeat (first | (with_reducible first | exact HB.out | apply below_alloc | apply pw_below_drewN | apply below_drew1 | refine below_set ?_ GE216.out) | exact HB.out)) hb); clear BK216; clear HB; have BK216 := n0_; have HB := n1_; clear n0_ n1_; (try clear hb); (try clear hb2); (try clear hk); (try clear hi)))
    (try simp only [Act.put, List.setIfInBounds_toArray, List.set_cons_zero, List.set_cons_succ])
    go_cut [20] (fun v20 wc => ∃ (kq : Nat) (x20_5 : Bool), v20 = .bool x20_5 ∧ Aside0 (series_Window.j0 kq a1 a2 x20_5 a0_0 a0_1 l0_2 = some (r1, r2)) ∧ Aside0 (kq ≤ k) ∧ Aside0 (wc.heap[gb216]? = some (.cells #[.int .i64 a0_0, .int .i64 a0_1, (.slice A0_2 l0_2.length c0_2)] 24 (0, 0))) ∧ Aside0 (Below w.heap.size w wc))
    case first =>
      have H := HC6.out
      clear HC6
      by_cases c10 : a2 < 1
      · rw [if_pos c10] at H
        have c10b0 : decide (a2 < 1) = true := decide_eq_true c10
        clear c10
        (first | rw [c10b0] | (simp only [i64_w, i32_w]; rw [c10b0]) | skip)
        have H' := Aside0.mk H
        clear H
        go_wp2
        go_meet
        case rel => exact ⟨_, (true), (by first | rfl | (simp; done) | (simp [*]; done)), H', ⟨by first | omega | exact Nat.le_refl _⟩, ⟨by (with_reducible repeat (first | refine blk_drewN ?_ _ | refine blk_drew ?_ | refine blk_alloc ?_ _)); exact BK216.out⟩, ⟨by repeat (first | (with_reducible first | exact HB.out | apply below_alloc | apply pw_below_drewN | apply below_drew1 | refine below_set ?_ GE216.out) | exact HB.out)⟩⟩
      · rw [if_neg c10] at H
        have c10b0 : decide (a2 < 1) = false := decide_eq_false c10
        clear c10
        (first | rw [c10b0] | (simp only [i64_w, i32_w]; rw [c10b0]) | skip)
        replace H := Option.bind_eq_some_iff.mp H
        obtain ⟨t218, A110, H⟩ := H
        replace H : (series_Window.j0 k a1 a2 (!t218) a0_0 a0_1 l0_2) = some (r1, r2) := H
        have A11 := Aside0.mk A110
        clear A110
        have H' := Aside0.mk H
        clear H
        have hcz12_0 : w9.cell? ⟨gb216, 0, none⟩ = some (.int .i64 a0_0) := (blk_cell BK216.out 0).trans rfl
        have hcz12_1 : w9.cell? ⟨gb216, 1, none⟩ = some (.int .i64 a0_1) := (blk_cell BK216.out 1).trans rfl
        have hcz12_2 : w9.cell? ⟨gb216, 2, none⟩ = some (.slice A0_2 l0_2.length c0_2) := (blk_cell BK216.out 2).trans rfl
        have hfz12_0 := blk_frozen BK216.out 0
        have hfz12_1 := blk_frozen BK216.out 1
        have hfz12_2 := blk_frozen BK216.out 2
        go_wp2_with (first | (go_at_call 30; (with_reducible refine (series_inside.calls a0_0 a0_1 _ _ l0_2 a1 a2 t218 _ ?side1 ?side2 A11.out).mono ?_); (case side1 => repeat (first | exact (Kd.C_below HR0_2.out HB.out) | (with_reducible refine Kd.C_alloc ?_ _) | (with_reducible refine Kd.C_drewN ?_ _) | (with_reducible refine Kd.C_drew ?_))); (case side2 => exact HC0_2.out); rintro e w13 ⟨rfl, hb⟩; have n0_ := Aside0.mk (blk_below (g := gb216) (o := .cells #[.int .i64 a0_0, .int .i64 a0_1, .slice A0_2 l0_2.length c0_2] 24 (0, 0)) (by (with_reducible repeat (first | refine blk_drewN ?_ _ | refine blk_drew ?_ | refine blk_alloc ?_ _)); exact BK216.out) hb); have n1_ := Aside0.mk (below_step (by repeat (first | (with_reducible first | exact HB.out | apply below_alloc | apply pw_below_drewN | apply below_drew1 | refine below_set ?_ GE216.out) | exact HB.out)) hb); clear BK216; clear HB; have BK216 := n0_; have HB := n1_; clear n0_ n1_; (try clear hb); (try clear hb2); (try clear hk); (try clear hi)))
        go_meet
        case rel => exact ⟨_, (!t218), (by first | rfl | (simp; done) | (simp [*]; done)), H', ⟨by first | omega | exact Nat.le_refl _⟩, ⟨by (with_reducible repeat (first | refine blk_drewN ?_ _ | refine blk_drew ?_ | refine blk_alloc ?_ _)); exact BK216.out⟩, ⟨by repeat (first | (with_reducible first | exact HB.out | apply below_alloc | apply pw_below_drewN | apply below_drew1 | refine below_set ?_ GE216.out) | exact HB.out)⟩⟩
    case rest =>
      clear HC6
      try clear c1
      try clear c2
      try clear p2
      try clear c5
      try clear c10
      try clear c10b0
      try clear hcz12_0
      try clear hcz12_1
      try clear hcz12_2
      try clear hcz8_0
      try clear hcz8_1
      try clear hcz8_2
      try clear hfz12_0
      try clear hfz12_1
      try clear hfz12_2
      try clear hfz8_0
      try clear hfz8_1
      try clear hfz8_2
      obtain ⟨kq, x20_5, rfl, HA, HJ5, BK216, HB⟩ := hcut
      cases kq with
      | zero => exact absurd HA.out (by simp [series_Window.j0])
      | succ kj5 =>
        have H := HA.out
        clear HA
        simp only [series_Window.j0] at H
        by_cases c14 : x20_5 = true
        · subst c14
          have H1 : (some (([] : List Int), 1)) = some (r1, r2) := by rw [if_pos rfl] at H; exact H
          clear H
          have H := H1
          clear H1
          simp only [Option.some.injEq, Prod.mk.injEq] at H
          obtain ⟨rfl, rfl⟩ := H
          go_wp2
          go_ret2
          exact ⟨_, by first | rfl | (simp [errW_none, errW_some] <;> rfl) | (simp [*, errW_none, errW_some] <;> rfl), by first | exact Kd.R_nil _ _ _ _ _ | exact Kd.N_nil _ _ _ _ _ | exact Kd.V_nil _ _ _ _ _ | exact Kd.Q_nil _ _ _ _ _ | exact Kd.S_nil _ _ _ _ _, by repeat (first | (with_reducible first | exact HB.out | apply below_alloc | apply pw_below_drewN | apply below_drew1 | refine below_set ?_ GE216.out) | exact HB.out)⟩
        · replace c14 := Bool.eq_false_iff.mpr c14
          subst c14
          have H1 : (if 0 ≤ a1 then (if a1 ≤ (wrap64 (a1 + a2)) then (if (wrap64 (a1 + a2)) ≤ (l0_2.length : Int) then ((slices_Clone_int_int.f ((l0_2.take ((wrap64 (a1 + a2)) : Int).toNat).drop (a1 : Int).toNat)).bind fun t220 => ((slices_Contains_int_int.f kj5 t220 1073741824).bind fun t223 => (if t223 = true then (some (([] : List Int), 13)) else (some (t220, 0))))) else (none)) else (none)) else (none)) = some (r1, r2) := by rw [if_neg (show ¬ (false = true) by decide)] at H; exact H
          clear H
          have H := H1
          clear H1
          by_cases c15 : 0 ≤ a1
          · rw [if_pos c15] at H
            have c15b0 := eq_true c15
            have c15b1 : decide (0 ≤ a1) = true := decide_eq_true c15
            clear c15
            by_cases c16 : a1 ≤ (wrap64 (a1 + a2))
            · rw [if_pos c16] at H
              have c16b0 := eq_true c16
              have c16b1 : decide (a1 ≤ (wrap64 (a1 + a2))) = true := decide_eq_true c16
              by_cases c17 : (wrap64 (a1 + a2)) ≤ (l0_2.length : Int)
              · rw [if_pos c17] at H
                have c17b0 := eq_true c17
                have c17b1 : decide ((wrap64 (a1 + a2)) ≤ (l0_2.length : Int)) = true := decide_eq_true c17
                replace H := Option.bind_eq_some_iff.mp H
                obtain ⟨t220, A180, H⟩ := H
                replace H : ((slices_Contains_int_int.f kj5 t220 1073741824).bind fun t223 => (if t223 = true then (some (([] : List Int), 13)) else (some (t220, 0)))) = some (r1, r2) := H
                have A18 := Aside0.mk A180
                clear A180
                replace H := Option.bind_eq_some_iff.mp H
                obtain ⟨t223, A190, H⟩ := H
                replace H : (if t223 = true then (some (([] : List Int), 13)) else (some (t220, 0))) = some (r1, r2) := H
                have A19 := Aside0.mk A190
                clear A190
                by_cases c20 : t223 = true
                · subst c20
                  have H1 : (some (([] : List Int), 13)) = some (r1, r2) := by rw [if_pos rfl] at H; exact H
                  clear H
                  have H := H1
                  clear H1
                  simp only [Option.some.injEq, Prod.mk.injEq] at H
                  obtain ⟨rfl, rfl⟩ := H
                  have hcz21_0 : wc.cell? ⟨gb216, 0, none⟩ = some (.int .i64 a0_0) := (blk_cell BK216.out 0).trans rfl
                  have hcz21_1 : wc.cell? ⟨gb216, 1, none⟩ = some (.int .i64 a0_1) := (blk_cell BK216.out 1).trans rfl
                  have hcz21_2 : wc.cell? ⟨gb216, 2, none⟩ = some (.slice A0_2 l0_2.length c0_2) := (blk_cell BK216.out 2).trans rfl
                  have hfz21_0 := blk_frozen BK216.out 0
                  have hfz21_1 := blk_frozen BK216.out 1
                  have hfz21_2 := blk_frozen BK216.out 2
                  obtain ⟨i022, hi022, _, hsz22, _⟩ := info_parts info3
                  obtain ⟨A22, hcut22, hA22, hC22⟩ := print_mid_of (P := Try.prog) (Value.int .i64) 0 22 3 .i64 .i64 Try.underlying22 hi022 hsz22 A0_2 c0_2 l0_2 a1 (wrap64 (a1 + a2)) (of_decide_eq_true (by first | (with_reducible assumption) | assumption)) (by first | omega | exact of_decide_eq_true (by first | (with_reducible assumption) | assumption)) (of_decide_eq_true (by first | (with_reducible assumption) | assumption)) HC0_2.out
                  have HR219 := Aside0.mk (Kd.C_of_reads (h1 := fun _ => rfl) (hA22 _ (Kd.reads_of_C HR0_2.out)))
                  have HC219 := Aside0.mk hC22
                  clear hA22 hC22 hi022 hsz22
                  go_wp2_with (first | ((with_reducible refine gate_callee (f := 31) rfl ?_); refine goesL_ (some 28) rfl rfl Try.func31 (by kernel_rfl) rfl #[.slice A22 ((l0_2.take ((wrap64 (a1 + a2)) : Int).toNat).drop (a1 : Int).toNat).length (c0_2 - a1.toNat)] rfl (by (try simp only [List.map_toArray, List.map_cons, List.map_nil]); first | done | (rw [show ((l0_2.take ((wrap64 (a1 + a2)) : Int).toNat).drop (a1 : Int).toNat).length = ((wrap64 (a1 + a2)).toNat - a1.toNat) from (by rw [List.length_drop, List.length_take]; have h_ : ((wrap64 (a1 + a2)) : Int) ≤ (l0_2.length : Int) := of_decide_eq_true (by first | (with_reducible assumption) | assumption); omega)] <;> rfl) | rfl | (simp only [List.length_drop, List.length_take]; rfl)) ?_; (with_reducible refine (slices_Clone_int_int.calls _ _ ((l0_2.take ((wrap64 (a1 + a2)) : Int).toNat).drop (a1 : Int).toNat) t220 _ ?side1 ?side2 A18.out).mono ?_); (case side1 => repeat (first | exact (Kd.C_below HR219.out HB.out) | (with_reducible refine Kd.C_alloc ?_ _) | (with_reducible refine Kd.C_drewN ?_ _) | (with_reducible refine Kd.C_drew ?_))); (case side2 => exact HC219.out); rintro e w23 ⟨v221, rfl, ho0, hb⟩; refine ⟨_, rfl, ?_⟩; have n0_ := Aside0.mk (Kd.R_lower ho0 (below_size (by repeat (first | (with_reducible first | exact HB.out | apply below_alloc | apply pw_below_drewN | apply below_drew1 | refine below_set ?_ GE216.out) | exact HB.out)))); have n1_ := Aside0.mk (blk_below (g := gb216) (o := .cells #[.int .i64 a0_0, .int .i64 a0_1, .slice A0_2 l0_2.length c0_2] 24 (0, 0)) (by (with_reducible repeat (first | refine blk_drewN ?_ _ | refine blk_drew ?_ | refine blk_alloc ?_ _)); exact BK216.out) hb); have n2_ := Aside0.mk (below_step (by repeat (first | (with_reducible first | exact HB.out | apply below_alloc | apply pw_below_drewN | apply below_drew1 | refine below_set ?_ GE216.out) | exact HB.out)) hb); clear BK216; clear HB; have HO222 := n0_; have BK216 := n1_; have HB := n2_; clear n0_ n1_ n2_; (try clear hb); (try clear hb2); (try clear hk); (try clear hi); (try clear ho0); obtain ⟨Ao24, co24, eo24⟩ := Kd.R_slice HO222.out; subst eo24) | ((with_reducible refine gate_callee (f := 38) rfl ?_); refine goesL_ (some 30) rfl rfl Try.func38 (by kernel_rfl) rfl #[.slice Ao24 t220.length co24, .int .i64 1073741824] rfl (by (try simp only [List.map_toArray, List.map_cons, List.map_nil]); first | done | rfl | (simp only [List.length_drop, List.length_take]; rfl)) ?_; (with_reducible refine (slices_Contains_int_int.calls kj5 _ _ t220 1073741824 true _ ?side1 ?side2 A19.out).mono ?_); (case side1 => repeat (first | exact (Kd.R_reads' HO222.out).2.2 | (with_reducible refine Kd.C_alloc ?_ _) | (with_reducible refine Kd.C_drewN ?_ _) | (with_reducible refine Kd.C_drew ?_))); (case side2 => exact (Kd.R_reads' HO222.out).2.1); rintro e w' ⟨rfl, ⟨nd, rfl⟩⟩; refine ⟨_, rfl, ?_⟩))
                  go_ret2
                  exact ⟨_, by first | rfl | (simp [errW_none, errW_some] <;> rfl) | (simp [*, errW_none, errW_some] <;> rfl), by first | exact Kd.R_nil _ _ _ _ _ | exact Kd.N_nil _ _ _ _ _ | exact Kd.V_nil _ _ _ _ _ | exact Kd.Q_nil _ _ _ _ _ | exact Kd.S_nil _ _ _ _ _, by repeat (first | (with_reducible first | exact HB.out | apply below_alloc | apply pw_below_drewN | apply below_drew1 | refine below_set ?_ GE216.out) | exact HB.out)⟩
                · replace c20 := Bool.eq_false_iff.mpr c20
                  subst c20
                  have H1 : (some (t220, 0)) = some (r1, r2) := by rw [if_neg (show ¬ (false = true) by decide)] at H; exact H
                  clear H
                  have H := H1
                  clear H1
                  simp only [Option.some.injEq, Prod.mk.injEq] at H
                  obtain ⟨rfl, rfl⟩ := H
                  have hcz25_0 : wc.cell? ⟨gb216, 0, none⟩ = some (.int .i64 a0_0) := (blk_cell BK216.out 0).trans rfl
                  have hcz25_1 : wc.cell? ⟨gb216, 1, none⟩ = some (.int .i64 a0_1) := (blk_cell BK216.out 1).trans rfl
                  have hcz25_2 : wc.cell? ⟨gb216, 2, none⟩ = some (.slice A0_2 l0_2.length c0_2) := (blk_cell BK216.out 2).trans rfl
                  have hfz25_0 := blk_frozen BK216.out 0
                  have hfz25_1 := blk_frozen BK216.out 1
                  have hfz25_2 := blk_frozen BK216.out 2
                  obtain ⟨i026, hi026, _, hsz26, _⟩ := info_parts info3
                  obtain ⟨A26, hcut26, hA26, hC26⟩ := print_mid_of (P := Try.prog) (Value.int .i64) 0 22 3 .i64 .i64 Try.underlying22 hi026 hsz26 A0_2 c0_2 l0_2 a1 (wrap64 (a1 + a2)) (of_decide_eq_true (by first | (with_reducible assumption) | assumption)) (by first | omega | exact of_decide_eq_true (by first | (with_reducible assumption) | assumption)) (of_decide_eq_true (by first | (with_reducible assumption) | assumption)) HC0_2.out
                  have HR219 := Aside0.mk (Kd.C_of_reads (h1 := fun _ => rfl) (hA26 _ (Kd.reads_of_C HR0_2.out)))
                  have HC219 := Aside0.mk hC26
                  clear hA26 hC26 hi026 hsz26
                  go_wp2_with (first | ((with_reducible refine gate_callee (f := 31) rfl ?_); refine goesL_ (some 28) rfl rfl Try.func31 (by kernel_rfl) rfl #[.slice A26 ((l0_2.take ((wrap64 (a1 + a2)) : Int).toNat).drop (a1 : Int).toNat).length (c0_2 - a1.toNat)] rfl (by (try simp only [List.map_toArray, List.map_cons, List.map_nil]); first | done | (rw [show ((l0_2.take ((wrap64 (a1 + a2)) : Int).toNat).drop (a1 : Int).toNat).length = ((wrap64 (a1 + a2)).toNat - a1.toNat) from (by rw [List.length_drop, List.length_take]; have h_ : ((wrap64 (a1 + a2)) : Int) ≤ (l0_2.length : Int) := of_decide_eq_true (by first | (with_reducible assumption) | assumption); omega)] <;> rfl) | rfl | (simp only [List.length_drop, List.length_take]; rfl)) ?_; (with_reducible refine (slices_Clone_int_int.calls _ _ ((l0_2.take ((wrap64 (a1 + a2)) : Int).toNat).drop (a1 : Int).toNat) t220 _ ?side1 ?side2 A18.out).mono ?_); (case side1 => repeat (first | exact (Kd.C_below HR219.out HB.out) | (with_reducible refine Kd.C_alloc ?_ _) | (with_reducible refine Kd.C_drewN ?_ _) | (with_reducible refine Kd.C_drew ?_))); (case side2 => exact HC219.out); rintro e w27 ⟨v221, rfl, ho0, hb⟩; refine ⟨_, rfl, ?_⟩; have n0_ := Aside0.mk (Kd.R_lower ho0 (below_size (by repeat (first | (with_reducible first | exact HB.out | apply below_alloc | apply pw_below_drewN | apply below_drew1 | refine below_set ?_ GE216.out) | exact HB.out)))); have n1_ := Aside0.mk (blk_below (g := gb216) (o := .cells #[.int .i64 a0_0, .int .i64 a0_1, .slice A0_2 l0_2.length c0_2] 24 (0, 0)) (by (with_reducible repeat (first | refine blk_drewN ?_ _ | refine blk_drew ?_ | refine blk_alloc ?_ _)); exact BK216.out) hb); have n2_ := Aside0.mk (below_step (by repeat (first | (with_reducible first | exact HB.out | apply below_alloc | apply pw_below_drewN | apply below_drew1 | refine below_set ?_ GE216.out) | exact HB.out)) hb); clear BK216; clear HB; have HO222 := n0_; have BK216 := n1_; have HB := n2_; clear n0_ n1_ n2_; (try clear hb); (try clear hb2); (try clear hk); (try clear hi); (try clear ho0); obtain ⟨Ao28, co28, eo28⟩ := Kd.R_slice HO222.out; subst eo28) | ((with_reducible refine gate_callee (f := 38) rfl ?_); refine goesL_ (some 30) rfl rfl Try.func38 (by kernel_rfl) rfl #[.slice Ao28 t220.length co28, .int .i64 1073741824] rfl (by (try simp only [List.map_toArray, List.map_cons, List.map_nil]); first | done | rfl | (simp only [List.length_drop, List.length_take]; rfl)) ?_; (with_reducible refine (slices_Contains_int_int.calls kj5 _ _ t220 1073741824 false _ ?side1 ?side2 A19.out).mono ?_); (case side1 => repeat (first | exact (Kd.R_reads' HO222.out).2.2 | (with_reducible refine Kd.C_alloc ?_ _) | (with_reducible refine Kd.C_drewN ?_ _) | (with_reducible refine Kd.C_drew ?_))); (case side2 => exact (Kd.R_reads' HO222.out).2.1); rintro e w' ⟨rfl, ⟨nd, rfl⟩⟩; refine ⟨_, rfl, ?_⟩))
                  go_ret2
                  exact ⟨_, by first | rfl | (simp [errW_none, errW_some] <;> rfl) | (simp [*, errW_none, errW_some] <;> rfl), by (with_reducible repeat (first | apply Kd.R_alloc | apply Kd.R_drewN | apply Kd.R_drew)); exact HO222.out, by repeat (first | (with_reducible first | exact HB.out | apply below_alloc | apply pw_below_drewN | apply below_drew1 | refine below_set ?_ GE216.out) | exact HB.out)⟩
              · rw [if_neg c17] at H
                exact absurd H (by simp)
            · rw [if_neg c16] at H
              exact absurd H (by simp)
          · rw [if_neg c15] at H
            exact absurd H (by simp)
  · replace c5 := Bool.eq_false_iff.mpr c5
    subst c5
    have H1 : (some (([] : List Int), 3)) = some (r1, r2) := by rw [if_neg (show ¬ (false = true) by decide)] at H; exact H
    clear H
    have H := H1
    clear H1
    simp only [Option.some.injEq, Prod.mk.injEq] at H
    obtain ⟨rfl, rfl⟩ := H
    go_enter Try.func22, Try.ntmps22
    go_wp2_with (first | ((with_reducible refine gate_dst (N := 3) rfl ?_); refine box_event ?hg (N := 3) ?hd (cs := #[.int .i64 a0_0, .int .i64 a0_1, .slice A0_2 l0_2.length c0_2]) (t := 24) ?hr ?_; (case hd => rfl); (case hg => rfl); (case hr => first | (go_simp; done) | (go_simp; rfl)); intro gb216 hg w29 hbox hb; have n0_ := Aside0.mk (below_step (by repeat (first | (with_reducible first | exact HB.out | apply below_alloc | apply pw_below_drewN | apply below_drew1) | exact HB.out)) hb); have n1_ := Aside0.mk (hbox); have n2_ := Aside0.mk ((by rw [hg]; exact (below_size (by repeat (first | (with_reducible first | exact HB.out | apply below_alloc | apply pw_below_drewN | apply below_drew1) | exact HB.out))) : w.heap.size ≤ gb216)); have n3_ := Aside0.mk ((by rw [hg]; exact (below_size (by repeat (first | (with_reducible first | exact HB.out | apply below_alloc | apply pw_below_drewN | apply below_drew1) | exact HB.out))) : w.heap.size ≤ gb216)); clear HB; have HB := n0_; have BK216 := n1_; have GW216 := n2_; have GE216 := n3_; clear n0_ n1_ n2_ n3_; clear hb hbox hg; have hcz30_0 : w29.cell? ⟨gb216, 0, none⟩ = some (.int .i64 a0_0) := (blk_cell BK216.out 0).trans rfl; have hcz30_1 : w29.cell? ⟨gb216, 1, none⟩ = some (.int .i64 a0_1) := (blk_cell BK216.out 1).trans rfl; have hcz30_2 : w29.cell? ⟨gb216, 2, none⟩ = some (.slice A0_2 l0_2.length c0_2) := (blk_cell BK216.out 2).trans rfl; have hfz30_0 := blk_frozen BK216.out 0; have hfz30_1 := blk_frozen BK216.out 1; have hfz30_2 := blk_frozen BK216.out 2) | ((with_reducible refine gate_callee (f := 16) rfl ?_); refine goesL_ (some 10) rfl rfl Try.func16 (by kernel_rfl) rfl #[.agg #[.int .i64 a0_0, .int .i64 a0_1, .slice A0_2 l0_2.length c0_2]] rfl (by (try simp only [List.map_toArray, List.map_cons, List.map_nil]); first | done | rfl | (simp only [List.length_drop, List.length_take]; rfl)) ?_; (with_reducible refine (series_Valid.calls k a0_0 a0_1 _ _ l0_2 false _ ?side1 ?side2 A4.out).mono ?_); (case side1 => repeat (first | exact (Kd.C_below HR0_2.out HB.out) | (with_reducible refine Kd.C_alloc ?_ _) | (with_reducible refine Kd.C_drewN ?_ _) | (with_reducible refine Kd.C_drew ?_))); (case side2 => exact HC0_2.out); rintro e w31 ⟨rfl, hb⟩; refine ⟨_, rfl, ?_⟩; have n0_ := Aside0.mk (blk_below (g := gb216) (o := .cells #[.int .i64 a0_0, .int .i64 a0_1, .slice A0_2 l0_2.length c0_2] 24 (0, 0)) (by (with_reducible repeat (first | refine blk_drewN ?_ _ | refine blk_drew ?_ | refine blk_alloc ?_ _)); exact BK216.out) hb); have n1_ := Aside0.mk (below_step (by repeat (first | (with_reducible first | exact HB.out | apply below_alloc | apply pw_below_drewN | apply below_drew1 | refine below_set ?_ GE216.out) | exact HB.out)) hb); clear BK216; clear HB; have BK216 := n0_; have HB := n1_; clear n0_ n1_; (try clear hb); (try clear hb2); (try clear hk); (try clear hi)))
    go_ret2
    exact ⟨_, by first | rfl | (simp [errW_none, errW_some] <;> rfl) | (simp [*, errW_none, errW_some] <;> rfl), by first | exact Kd.R_nil _ _ _ _ _ | exact Kd.N_nil _ _ _ _ _ | exact Kd.V_nil _ _ _ _ _ | exact Kd.Q_nil _ _ _ _ _ | exact Kd.S_nil _ _ _ _ _, by repeat (first | (with_reducible first | exact HB.out | apply below_alloc | apply pw_below_drewN | apply below_drew1 | refine below_set ?_ GE216.out) | exact HB.out)⟩

end Go.Proofs.Ytpcglagnkenkaaa.Q
