-- written by a program of this session (wip/tool/p2.py over the kit's print)
import Derived.Maps.AppendAt
import Derived.Sort.LoopGhostIn
import Derived.LoopIn
import Derived.LoopNIn
import Derived.TacticsInMore
import Derived.OwnWalkIn
import Derived.Shelf.Abstract
import Derived.RangeFuncLeaves
import Derived.RangeFuncBox
import Derived.RangeFuncNested
import Derived.Test.YtpcglagnkenkaaaQx0
import Derived.Test.YtpcglagnkenkaaaQx12
namespace Go.Proofs.Ytpcglagnkenkaaa.Q
open Go.RowKit Go.Proofs.YtpcglagnkenkaaaW.PrintWords Go.Proofs.YtpcglagnkenkaaaW.PrintLast Go.Proofs.YtpcglagnkenkaaaW.PrintMore
attribute [local go_sem] max2_int min2_int max_two min_two max_three min_three max_four min_four   -- for this text's walks alone
set_option linter.unusedVariables false
set_option linter.unusedSimpArgs false

/-! ### series_Starts: function 12 -/
open Go.Shelf
attribute [local go_sem] Oper.semAt_some
abbrev series_Starts.Rn := { x : Int × Int // 0 ≤ x.1 ∧ x.1 ≤ 2000 ∧ 1 ≤ x.2 ∧ x.2 ≤ 2000 }
/-- the runs of a list: k indices from i on are still to be looked at; the run that goes on began at fr -/
def series_Starts.rg (l : List Int) : Nat → Nat → Nat → List (Int × Int)
  | 0, _, _ => []
  | k + 1, fr, i => if i < l.length ∧ l.getD i 0 ≠ 1073741824 then rg l k fr (i + 1) else (if fr < i then [((fr : Int), (i : Int) - (fr : Int))] else []) ++ rg l k (i + 1) (i + 1)
def series_Starts.Kp (n₀ Bn : Nat) (W W' : World) : Prop := Below n₀ W W' ∧ ∀ v, Boxed W Bn 22 v → Boxed W' Bn 22 v
abbrev series_Starts.encs (x : series_Starts.Rn) : Array Value := #[.agg #[.int .i64 x.1.1, .int .i64 x.1.2]]
theorem series_Starts.step (l : List Int) (fr i : Nat) :
    (i ≤ l.length → (i < l.length ∧ l.getD i 0 ≠ 1073741824) → series_Starts.rg l (l.length + 1 - i) fr i = series_Starts.rg l (l.length + 1 - (i + 1)) fr (i + 1)) ∧
    (i ≤ l.length → ¬ (i < l.length ∧ l.getD i 0 ≠ 1073741824) → fr < i → series_Starts.rg l (l.length + 1 - i) fr i = ((fr : Int), (i : Int) - (fr : Int)) :: series_Starts.rg l (l.length + 1 - (i + 1)) (i + 1) (i + 1)) ∧
    (i ≤ l.length → ¬ (i < l.length ∧ l.getD i 0 ≠ 1073741824) → ¬ fr < i → series_Starts.rg l (l.length + 1 - i) fr i = series_Starts.rg l (l.length + 1 - (i + 1)) (i + 1) (i + 1)) := by
  refine ⟨?_, ?_, ?_⟩ <;> intro h0 h1
  · rw [show l.length + 1 - i = l.length + 1 - (i + 1) + 1 by omega, series_Starts.rg, if_pos h1]
  · intro h2
    rw [show l.length + 1 - i = l.length + 1 - (i + 1) + 1 by omega, series_Starts.rg, if_neg h1, if_pos h2]
    rfl
  · intro h2
    rw [show l.length + 1 - i = l.length + 1 - (i + 1) + 1 by omega, series_Starts.rg, if_neg h1, if_neg h2]
    rfl
set_option maxRecDepth 100000 in
set_option maxHeartbeats 4000000 in
theorem series_Starts.runs1 (F : Fence) (n : Nat) (h43 : F.fn 43) (hro : F.round = none) (hn : 1 ≤ n) (lp Bn : Nat) (w0 : World) (A : Option Addr) (c : Nat) (l : List Int) (hl : l.length ≤ 2000) (J Jx : List series_Starts.Rn → World → Prop)
    (hY : ∀ pre x W, J pre W → pre.length < 2002 → YieldAt F (n - 1) Try.prog lp (series_Starts.encs x) W fun e W' =>
      (e = .returned (.bool true) ∧ J (pre ++ [x]) W' ∧ series_Starts.Kp w0.heap.size Bn W W') ∨ (e = .returned (.bool false) ∧ Jx (pre ++ [x]) W'))
    (W : World) (hBn : Boxed W Bn 22 (.slice A l.length c)) (hC : Kd.C (Kd.int .i64) w0 A l.length l) (hb : Below w0.heap.size w0 W) (h0 : J [] W) :
    CallsIn F n Try.prog 43 #[.func (.yield lp) #[] #[], .pointer (some ⟨Bn, 0, none⟩)] W fun e W' => (∃ v, e = .returned v) ∧
      ((∃ ys : List series_Starts.Rn, ys.map (·.1) = series_Starts.rg l (l.length + 1) 0 0 ∧ J ys W') ∨ (∃ pre : List series_Starts.Rn, True ∧ Jx pre W')) := by
  have HL := Aside0.mk hl
  have HC := Aside0.mk hC
  clear hC hl
  refine callsIn_of_wp Try.func43 rfl h43 ?_ hro
  simp only [Try.ntmps43, List.size_toArray, List.length_cons, List.length_nil, Nat.reduceAdd, Nat.reduceSub, Array.replicate_succ, Array.replicate_zero, List.push_toArray, List.append_toArray, List.nil_append, List.cons_append]
  gi_wp2
  gi_loopg [3, 4] (l.length + 2) (fun kq v3 v4 wr => ∃ (fr i : Nat) (pre : List series_Starts.Rn), v3 = .int .i64 fr ∧ v4 = .int .i64 i ∧ Aside0 (kq + i = l.length + 2 ∧ fr ≤ i ∧ i ≤ l.length + 1 ∧ pre.length ≤ i ∧ pre.map (·.1) ++ series_Starts.rg l (l.length + 1 - i) fr i = series_Starts.rg l (l.length + 1) 0 0) ∧ Aside0 (J pre wr) ∧ Aside0 (Below w0.heap.size w0 wr) ∧ Aside0 (Boxed wr Bn 22 (.slice A l.length c)))
  case atStart =>
    exact ⟨0, 0, [], rfl, rfl, ⟨by simp⟩, ⟨h0⟩, ⟨hb⟩, ⟨hBn⟩⟩
  case round =>
    obtain ⟨fr, i, pre, rfl, rfl, HI, HJ, HB, HX⟩ := hrel
    have hcell := HX.out.cell
    have HS := Aside0.mk (series_Starts.step l fr i)
    have HW := Aside0.mk (show i ≤ 2001 → wrap64 ((i : Int) + 1) = ((i + 1 : Nat) : Int) by intro h; unfold wrap64; omega)
    by_cases hi : i ≤ l.length
    · have hi' : (i : Int) ≤ (l.length : Int) := by omega
      by_cases hg : i < l.length ∧ l.getD i 0 ≠ 1073741824
      · -- 'continue'
        have hlt : (i : Int) < (l.length : Int) := by omega
        obtain ⟨ad, cs, rfl, _, hK, hc0⟩ := Kd.C_get (Kd.C_below HC.out HB.out) (0 : Int) (i : Int) (by omega) hlt
        have hK : cs = [.int .i64 (l.getD i 0)] := hK
        subst hK
        have hx : wr.cell? (ad.add i) = some (.int .i64 (l.getD i 0)) := by simpa [show (Kd.int .i64).sz = 1 from rfl] using hc0 0 _ rfl
        have hne : l.getD i 0 ≠ 1073741824 := hg.2
        have HG := Aside0.mk hg
        clear hc0 hg
        generalize hy : l.getD i 0 = y at hx hne
        clear hy
        gi_wp2
        go_roundg (gk - 1)
        case measure => have := HI.out; omega
        case rel =>
          have h1 := HI.out
          have h2 := HL.out
          refine ⟨fr, i + 1, pre, rfl, by rw [HW.out (by omega)], ⟨by omega, by omega, by omega, by omega, ?_⟩, HJ, HB, HX⟩
          rw [← h1.2.2.2.2, HS.out.1 (by omega) HG.out]
      · have HG := Aside0.mk hg
        clear hg
        by_cases hlt' : i < l.length
        · have hlt : (i : Int) < (l.length : Int) := by omega
          obtain ⟨ad, cs, rfl, _, hK, hc0⟩ := Kd.C_get (Kd.C_below HC.out HB.out) (0 : Int) (i : Int) (by omega) hlt
          have hK : cs = [.int .i64 (l.getD i 0)] := hK
          subst hK
          have hx : wr.cell? (ad.add i) = some (.int .i64 (l.getD i 0)) := by simpa [show (Kd.int .i64).sz = 1 from rfl] using hc0 0 _ rfl
          have he : l.getD i 0 = 1073741824 := by have h := HG.out; by_cases h9 : l.getD i 0 = 1073741824; exact h9; exact absurd ⟨hlt', h9⟩ h
          rw [he] at hx
          clear hc0 he
          by_cases hf : fr < i
          · have hJ1 := HJ.out
            have HV := Aside0.mk (show wrap64 ((i : Int) - (fr : Int)) = (i : Int) - (fr : Int) by have h1 := HI.out; have h2 := HL.out; unfold wrap64; omega)
            obtain ⟨x, hx1⟩ : ∃ x : series_Starts.Rn, x.1 = ((fr : Int), wrap64 ((i : Int) - (fr : Int))) := ⟨⟨((fr : Int), wrap64 ((i : Int) - (fr : Int))), by have h1 := HI.out; have h2 := HL.out; have h3 := HV.out; simp only [h3]; omega⟩, rfl⟩
            obtain ⟨fn, tmps, assign, body, hy, hR⟩ := hY pre x wr hJ1 (by have h1 := HI.out; have h2 := HL.out; omega)
            have HE := Aside0.mk hx1
            simp only [series_Starts.encs, hx1] at hy
            clear hx1 hJ1
            have hfi : (fr : Int) < (i : Int) := by omega
            gi_wp2
            refine hR.mono ?_
            rintro e W3 (⟨rfl, hJ3, hk3⟩ | ⟨rfl, hJx3⟩)
            · have HJ3 := Aside0.mk hJ3
              have HK3 := Aside0.mk hk3
              clear hJ3 hk3
              gi_wp2
              go_roundg (gk - 1)
              case measure => have := HI.out; omega
              case rel =>
                have h1 := HI.out
                have h2 := HL.out
                refine ⟨i + 1, i + 1, pre ++ [x], by rw [HW.out (by omega)], by rw [HW.out (by omega)], ⟨by omega, by omega, by omega, by simp; omega, ?_⟩, HJ3, ⟨HB.out.trans HK3.out.1⟩, ⟨HK3.out.2 _ HX.out⟩⟩
                rw [← h1.2.2.2.2, HS.out.2.1 (by omega) HG.out hf]
                simp [HE.out, HV.out]
            · have HJ3 := Aside0.mk hJx3
              clear hJx3
              gi_wp2
              refine bodyPost_ret (results_none rfl _ _ _) rfl ?_
              exact ⟨⟨_, rfl⟩, .inr ⟨pre ++ [x], trivial, HJ3.out⟩⟩
          · have hfi : ¬ ((fr : Int) < (i : Int)) := by omega
            gi_wp2
            refine ⟨fun _ h => (by cases h), ?_⟩
            gi_wp2
            go_roundg (gk - 1)
            case measure => have := HI.out; omega
            case rel =>
              have h1 := HI.out
              have h2 := HL.out
              refine ⟨i + 1, i + 1, pre, by rw [HW.out (by omega)], by rw [HW.out (by omega)], ⟨by omega, by omega, by omega, by omega, ?_⟩, HJ, HB, HX⟩
              rw [← h1.2.2.2.2, HS.out.2.2 (by omega) HG.out hf]
        · have hlt : ¬ ((i : Int) < (l.length : Int)) := by omega
          by_cases hf : fr < i
          · have hJ1 := HJ.out
            have HV := Aside0.mk (show wrap64 ((i : Int) - (fr : Int)) = (i : Int) - (fr : Int) by have h1 := HI.out; have h2 := HL.out; unfold wrap64; omega)
            obtain ⟨x, hx1⟩ : ∃ x : series_Starts.Rn, x.1 = ((fr : Int), wrap64 ((i : Int) - (fr : Int))) := ⟨⟨((fr : Int), wrap64 ((i : Int) - (fr : Int))), by have h1 := HI.out; have h2 := HL.out; have h3 := HV.out; simp only [h3]; omega⟩, rfl⟩
            obtain ⟨fn, tmps, assign, body, hy, hR⟩ := hY pre x wr hJ1 (by have h1 := HI.out; have h2 := HL.out; omega)
            have HE := Aside0.mk hx1
            simp only [series_Starts.encs, hx1] at hy
            clear hx1 hJ1
            have hfi : (fr : Int) < (i : Int) := by omega
            gi_wp2
            refine hR.mono ?_
            rintro e W3 (⟨rfl, hJ3, hk3⟩ | ⟨rfl, hJx3⟩)
            · have HJ3 := Aside0.mk hJ3
              have HK3 := Aside0.mk hk3
              clear hJ3 hk3
              gi_wp2
              go_roundg (gk - 1)
              case measure => have := HI.out; omega
              case rel =>
                have h1 := HI.out
                have h2 := HL.out
                refine ⟨i + 1, i + 1, pre ++ [x], by rw [HW.out (by omega)], by rw [HW.out (by omega)], ⟨by omega, by omega, by omega, by simp; omega, ?_⟩, HJ3, ⟨HB.out.trans HK3.out.1⟩, ⟨HK3.out.2 _ HX.out⟩⟩
                rw [← h1.2.2.2.2, HS.out.2.1 (by omega) HG.out hf]
                simp [HE.out, HV.out]
            · have HJ3 := Aside0.mk hJx3
              clear hJx3
              gi_wp2
              refine bodyPost_ret (results_none rfl _ _ _) rfl ?_
              exact ⟨⟨_, rfl⟩, .inr ⟨pre ++ [x], trivial, HJ3.out⟩⟩
          · have hfi : ¬ ((fr : Int) < (i : Int)) := by omega
            gi_wp2
            refine ⟨fun _ h => (by cases h), ?_⟩
            gi_wp2
            go_roundg (gk - 1)
            case measure => have := HI.out; omega
            case rel =>
              have h1 := HI.out
              have h2 := HL.out
              refine ⟨i + 1, i + 1, pre, by rw [HW.out (by omega)], by rw [HW.out (by omega)], ⟨by omega, by omega, by omega, by omega, ?_⟩, HJ, HB, HX⟩
              rw [← h1.2.2.2.2, HS.out.2.2 (by omega) HG.out hf]
    · have hge : ¬ ((i : Int) ≤ (l.length : Int)) := by omega
      gi_wp2
      go_end0
      refine ⟨⟨_, rfl⟩, .inl ⟨pre, ?_, HJ.out⟩⟩
      have h1 := HI.out
      rw [← h1.2.2.2.2, show l.length + 1 - i = 0 by omega]
      simp [series_Starts.rg]
theorem series_Starts.kp_trans {n₀ Bn : Nat} {A B C : World} (h1 : series_Starts.Kp n₀ Bn A B) (h2 : series_Starts.Kp n₀ Bn B C) : series_Starts.Kp n₀ Bn A C := ⟨h1.1.trans h2.1, fun v h => h2.2 v (h1.2 v h)⟩
theorem series_Starts.kp_put {n₀ Bn : Nat} {w : World} (hn : n₀ ≤ w.heap.size) (hB : Bn < w.heap.size) (W : World) (k : Nat) (o o' : Obj) (hk : w.heap.size ≤ k) (ho : W.heap[k]? = some o) (h1 : o.isCells = false) (h2 : o.isWalk = false) : series_Starts.Kp n₀ Bn W (W.putObj k o') :=
  ⟨belowK_b (w := w) hn W k o o' hk ho h1 h2, fun v h => h.kept (grownBy_putObj' W k o') (fun e => by cases e; omega)⟩
theorem series_Starts.runs_stops (F : Fence) (n : Nat) (h43 : F.fn 43) (hro : F.round = none) (hn : 1 ≤ n) (Bn : Nat) (w0 w : World) (A : Option Addr) (c : Nat) (l : List Int) (hl : l.length ≤ 2000) (hBw : Bn < w.heap.size)
    (hBn : Boxed w Bn 22 (.slice A l.length c)) (hC : Kd.C (Kd.int .i64) w0 A l.length l) (hb : Below w0.heap.size w0 w) :
    SeqStopsK F n Try.prog 43 #[.pointer (some ⟨Bn, 0, none⟩)] series_Starts.encs (series_Starts.Kp w0.heap.size Bn) (fun ys => ys.map (·.1) = series_Starts.rg l (l.length + 1) 0 0) (fun _ => True) 2002 w := fun lp J Jx W hW _ _ hY h0 =>
  series_Starts.runs1 F n h43 hro hn lp Bn w0 A c l hl J Jx hY W ((hW.block Bn hBw).trans hBn) hC (hb.trans (hW.mono hb.size)) h0
theorem series_Starts.runs (F : Fence) (n : Nat) (h35 : F.fn 35) (hro : F.round = none) (A : Option Addr) (m c : Nat) (w : World) :
    CallsIn F n Try.prog 35 #[.slice A m c] w fun e w' => e = .returned (.func (.func 43) #[] #[.pointer (some ⟨w.heap.size, 0, none⟩)]) ∧ w' = w.alloc (.cells #[.slice A m c] 22) := by
  refine callsIn_of_wp Try.func35 rfl h35 ?_ hro
  simp only [Try.ntmps35, List.size_toArray, List.length_cons, List.length_nil, Nat.reduceAdd, Nat.reduceSub, Array.replicate_succ, Array.replicate_zero, List.push_toArray, List.append_toArray, List.nil_append, List.cons_append]
  gi_wp2
  go_ret
  exact ⟨rfl, rfl⟩
def series_Starts.upto (a : Int) (j : Nat) : List Int := (List.range j).map (fun i : Nat => wrap64 (a + (i : Int)))
theorem series_Starts.upto_succ (a : Int) (j : Nat) : series_Starts.upto a (j + 1) = series_Starts.upto a j ++ [wrap64 (a + (j : Int))] := by simp [series_Starts.upto, List.range_succ]
def series_Starts.one (m : Int) (x : Int × Int) : List Int := series_Starts.upto x.1 (wrap64 (wrap64 (x.2 - m) + 1)).toNat
def series_Starts.all (m : Int) (xs : List (Int × Int)) : List Int := xs.flatMap (series_Starts.one m)
def series_Starts.f (k : Nat) (a0_0 : Int) (a0_1 : Int) (l0_2 : List Int) (a1 : Int) : Option (List Int) := (series_Valid.f k a0_0 a0_1 l0_2).bind fun v => if v = false then some [] else if a1 < 1 then some [] else if l0_2.length ≤ 2000 ∧ a1 ≤ 9223372036854775807 then some (series_Starts.all a1 (series_Starts.rg l0_2 (l0_2.length + 1) 0 0)) else none
theorem series_Starts.mono : ∀ a0 a1 a2 a3 k, LeO (series_Starts.f k a0 a1 a2 a3) (series_Starts.f (k + 1) a0 a1 a2 a3) := by
  intro a0 a1 a2 a3 k
  unfold series_Starts.f
  exact LeO.bind (series_Valid.mono _ _ _ _) (fun _ => LeO.refl _)
theorem series_Starts.one_len (m : Int) (h1 : 1 ≤ m) (h2 : m ≤ 9223372036854775807) (x : series_Starts.Rn) : (series_Starts.one m x.1).length ≤ 2000 := by
  obtain ⟨⟨a, b⟩, h3, h4, h5, h6⟩ := x
  simp only at h3 h4 h5 h6
  simp only [series_Starts.one, series_Starts.upto, List.length_map, List.length_range]
  unfold wrap64
  omega
theorem series_Starts.all_len (m : Int) (h1 : 1 ≤ m) (h2 : m ≤ 9223372036854775807) : ∀ pre : List series_Starts.Rn, (series_Starts.all m (pre.map (·.1))).length ≤ 2000 * pre.length
  | [] => by simp [series_Starts.all]
  | x :: pre => by
    have ih := series_Starts.all_len m h1 h2 pre
    have h := series_Starts.one_len m h1 h2 x
    have e : series_Starts.all m ((x :: pre).map (·.1)) = series_Starts.one m x.1 ++ series_Starts.all m (pre.map (·.1)) := by simp [series_Starts.all]
    rw [e, List.length_append, List.length_cons]
    omega
theorem series_Starts.other {W w1 : World} {tmp : Obj} {v v' : Value} {b B t e base size k : Nat} {cs : Array Value} {xs : List Value} (h : W.heap[b]? = some (.cells cs t (0, 0))) (hne : b ≠ B) (ht : t ≠ e) (hrow : W.ownsRow base e size v k xs)
    (hgrow : (W.alloc tmp).grownBy w1 v.ownBlock) : (w1.setCell ⟨B, 0, none⟩ v').heap[b]? = some (.cells cs t (0, 0)) := by
  have hlt := (Array.getElem?_eq_some_iff.1 h).1
  have h1 : some b ≠ v.ownBlock := by
    rcases hrow.2 with ⟨rfl, _⟩ | ⟨g, cap, cur, rfl, _, hgb, _⟩
    · simp [Value.ownBlock]
    · intro e'
      obtain rfl : b = g := by simpa [Value.ownBlock] using e'
      rw [h] at hgb
      cases hgb
      exact ht rfl
  have h2 : w1.heap[b]? = some (.cells cs t (0, 0)) := (hgrow.block b (by simp; omega) h1).trans ((Below.heap_alloc W tmp b hlt).trans h)
  exact ((grownBy_setCell' w1 B v').block b (Array.getElem?_eq_some_iff.1 h2).1 (fun e => hne (by cases e; rfl))).trans h2
theorem series_Starts.base {W : World} {base base' e size k : Nat} {v : Value} {xs : List Value} (h : W.ownsRow base e size v k xs) (hb : base' ≤ base) : W.ownsRow base' e size v k xs := by
  obtain ⟨h1, h2 | ⟨g, cap, cur, h3, h4, h5⟩⟩ := h
  · exact ⟨h1, .inl h2⟩
  · exact ⟨h1, .inr ⟨g, cap, cur, h3, Nat.le_trans hb h4, h5⟩⟩
theorem series_Starts.boxes {w w3 : World} {X Y : Obj} (hb : Below ((w.alloc X).alloc Y).heap.size ((w.alloc X).alloc Y) w3) : w3.heap[w.heap.size]? = some X ∧ w3.heap[w.heap.size + 1]? = some Y ∧ Below w.heap.size w w3 ∧ w.heap.size + 2 ≤ w3.heap.size := by
  have e1 : (w.alloc X).heap.size = w.heap.size + 1 := by simp
  have e2 : ((w.alloc X).alloc Y).heap.size = w.heap.size + 2 := by simp
  have h2 : ((w.alloc X).alloc Y).heap[w.heap.size + 1]? = some Y := by have := World.alloc_heap_new (w.alloc X) Y; rwa [e1] at this
  have h1 : ((w.alloc X).alloc Y).heap[w.heap.size]? = some X := by
    have h := World.alloc_heap_new w X
    exact (Below.heap_alloc (w.alloc X) Y w.heap.size (by omega)).trans h
  refine ⟨(hb.block _ (by omega)).trans h1, (hb.block _ (by omega)).trans h2, ?_, by have := hb.size; omega⟩
  exact ((((Below.refl _ w).alloc (Nat.le_refl _) _).alloc (by simp) _)).trans (hb.mono (by omega))
set_option maxHeartbeats 4000000 in
set_option maxRecDepth 100000 in
theorem series_Starts.calls (k : Nat) (a0_0 : Int) (a0_1 : Int) (A0_2 : Option Addr) (c0_2 : Nat) (l0_2 : List Int) (a1 : Int) (r : List Int) (w : World) (hr0_2 : Kd.C (Kd.int .i64) w A0_2 l0_2.length l0_2) (hc0_2 : l0_2.length ≤ c0_2) (h : series_Starts.f k a0_0 a0_1 l0_2 a1 = some r) :
    Calls Try.prog 12 #[.agg #[.int .i64 a0_0, .int .i64 a0_1, .slice A0_2 l0_2.length c0_2], .int .i64 a1] w fun e w' => ∃ v0_ : Value, e = .returned (v0_) ∧ Kd.R (Kd.int .i64) 3 w' w.heap.size (fun _ => True) v0_ r ∧ Below w.heap.size w w' := by
  have hu24 := Try.underlying24
  unfold series_Starts.f at h
  obtain ⟨v, HV, h⟩ := Option.bind_eq_some_iff.mp h
  have HR := Aside0.mk hr0_2
  have HV := Aside0.mk HV
  have HH := Aside0.mk h
  have HC := Aside0.mk hc0_2
  clear h hr0_2
  refine (callsIn_wide (n := 6)).1 ?_
  refine callsIn_of_wp_marks Try.func12 rfl trivial ?_ rfl
  simp only [Try.ntmps12, List.size_toArray, List.length_cons, List.length_nil, Nat.reduceAdd, Nat.reduceSub, Array.replicate_succ, Array.replicate_zero, List.push_toArray, List.append_toArray, List.nil_append, List.cons_append]
  gi_wp2
  refine ⟨trivial, ?_⟩
  refine (callsIn_wide.2 (series_Valid.calls k a0_0 a0_1 A0_2 c0_2 l0_2 v _ ?sC HC.out HV.out)).mono ?_
  case sC => exact Kd.C_below HR.out (((Below.refl _ w).alloc (Nat.le_refl _) _).alloc (by simp) _)
  rintro e w3 ⟨rfl, hb⟩
  have HX := Aside0.mk (series_Starts.boxes hb)
  have hx1 : w3.cell? ⟨w.heap.size + 1, 0, none⟩ = some (.int .i64 a1) := by simp [World.cell?, HX.out.2.1]
  have hx3 : (w3.alloc (.cells #[.slice none 0 0] 22)).cell? ⟨w.heap.size, 2, none⟩ = some (.slice A0_2 l0_2.length c0_2) := by
    have h := HX.out
    have h2 := (Below.heap_alloc w3 (.cells #[.slice none 0 0] 22) w.heap.size (by omega)).trans h.1
    simp [World.cell?, h2]
  clear hb
  have HC3 := Aside0.mk (Kd.C_below HR.out HX.out.2.2.1)
  rcases v with _ | _
  · have HH := HH.out
    simp at HH
    subst HH
    gi_wp2
    refine ⟨_, results_tmp rfl _ _ _, ?_⟩
    exact ⟨_, rfl, Kd.R_nil _ _ _ _ _, HX.out.2.2.1⟩
  by_cases hm : a1 < 1
  · have HH := HH.out
    simp [hm] at HH
    subst HH
    gi_wp2
    refine ⟨_, results_tmp rfl _ _ _, ?_⟩
    exact ⟨_, rfl, Kd.R_nil _ _ _ _ _, HX.out.2.2.1⟩
  have HM := Aside0.mk hm
  obtain ⟨HL, rfl⟩ : Aside0 (l0_2.length ≤ 2000 ∧ a1 ≤ 9223372036854775807) ∧ series_Starts.all a1 (series_Starts.rg l0_2 (l0_2.length + 1) 0 0) = r := by
    have h := HH.out
    simp only [Bool.true_eq_false, if_false, hm] at h
    split at h
    · exact ⟨⟨‹_›⟩, by simpa using h⟩
    · simp at h
  have h1m : 1 ≤ a1 := by omega
  gi_wp2
  refine ⟨trivial, ?_⟩
  refine (series_Starts.runs Fence.wide _ trivial rfl _ _ _ _).mono ?_
  rintro e w4 ⟨rfl, rfl⟩
  gi_wp2
  have hs : w.heap.size + 2 ≤ w3.heap.size := HX.out.2.2.2
  obtain ⟨i0, hi, hz0, hz1, hz2⟩ := info_parts info3
  have bO := Boxed.new w3 22 (.slice none 0 0)
  have bN := Boxed.new (w3.alloc (.cells #[.slice none 0 0] 22)) 22 (.slice A0_2 l0_2.length c0_2)
  rw [World.size_alloc] at bN
  have hB0 : Below w3.heap.size w3 ((w3.alloc (.cells #[.slice none 0 0] 22)).alloc (.cells #[.slice A0_2 l0_2.length c0_2] 22)) := ((Below.refl _ w3).alloc (Nat.le_refl _) _).alloc (by simp) _
  refine wpIn_rangeFunc_ownH rfl (by omega) (gf := 43) (lb := #[.pointer (some ⟨w3.heap.size + 1, 0, none⟩)]) rfl trivial (enters_of Try.func43 (by kernel_rfl) rfl)
    (series_Starts.runs_stops Fence.wide _ trivial rfl (by omega) (w3.heap.size + 1) w3 _ A0_2 c0_2 l0_2 HL.out.1 (by simp) bN HC3.out hB0) series_Starts.kp_trans (series_Starts.kp_put (by simp; omega) (by simp)) (Below.refl _ _) (fun _ => rfl)
    (fun pre W => (∃ v, Boxed W w3.heap.size 22 v ∧ W.ownsRow w3.heap.size 3 1 v (series_Starts.all a1 (pre.map (·.1))).length ((series_Starts.all a1 (pre.map (·.1))).map (Value.int .i64)) ∧ True) ∧ Below w3.heap.size w3 W)
    (fun _ _ _ => False)
    (OwnFrom.and (Own.from (holdsRow_own w3.heap.size w3.heap.size 22 3 1 (fun pre : List series_Starts.Rn => (series_Starts.all a1 (pre.map (·.1))).length) (fun pre => (series_Starts.all a1 (pre.map (·.1))).map (Value.int .i64)) (fun pre v => True)) _) (ownFrom_below (Nat.le_refl _) (by simp; omega)))
    (fun _ _ _ _ _ hs _ _ => hs)
    ⟨⟨_, bO.alloc _, World.ownsRow_nil _ _ _ _, trivial⟩, hB0⟩
    (fun x a' W => ∃ Bx, w3.heap.size < Bx ∧ W.heap[Bx]? = some (.cells #[.int .i64 x.1.1, .int .i64 x.1.2] 63 (0, 0)) ∧ a' = { tmps := #[.agg #[.int .i64 a0_0, .int .i64 a0_1, .slice A0_2 l0_2.length c0_2], .int .i64 a1, .pointer (some ⟨w.heap.size, 0, none⟩), .pointer (some ⟨w.heap.size + 1, 0, none⟩), .slice none 0 0, .pointer (some ⟨w3.heap.size, 0, none⟩), .pointer (some ⟨Bx, 0, none⟩), undef, .agg #[.int .i64 a0_0, .int .i64 a0_1, .slice A0_2 l0_2.length c0_2], .bool true, .bool false, .bool false, .int .i64 a1, .bool (decide (a1 < 1)), .bool (decide (a1 < 1)), .pointer (some ⟨w.heap.size, 2, none⟩), .slice A0_2 l0_2.length c0_2, .func (.func 43) #[] #[.pointer (some ⟨w3.heap.size + 1, 0, none⟩)], .agg #[.int .i64 x.1.1, .int .i64 x.1.2], undef, undef, undef, undef, undef, undef, undef, undef, undef, undef, undef, undef, undef, undef, undef, undef, undef, undef], defers := [] })
    ?hAx ?assign ?body ?done ?stop
  case hAx =>
    rintro x a' u X Y row ⟨Bx, h1, h2, h3⟩ hg hr
    refine ⟨Bx, h1, (hg.block Bx (Array.getElem?_eq_some_iff.1 h2).1 (fun e => ?_)).trans h2, h3⟩
    obtain ⟨_, o, ho, hc⟩ := hr Bx e.symm
    rw [h2] at ho
    cases ho
    cases hc
  case assign =>
    rintro l pre x W K ⟨⟨v, hv, hrow, _⟩, hB⟩ hK
    gi_wp2
    exact hK _ _ ((KeepsOthers.alloc _ _).from _) ⟨(Below.refl _ W).alloc hB.size _, fun v h => h.alloc _⟩ ⟨⟨_, hv.alloc _, hrow.alloc _, trivial⟩, hB.alloc hB.size _⟩ ⟨W.heap.size, hv.lt, World.alloc_heap_new W _, rfl⟩
  case body =>
    rintro l pre x a' W hl ⟨rr, hr⟩ ⟨⟨v, hv, hrow, _⟩, hB⟩ ⟨Bx, hBx, bX, rfl⟩ hlt
    have hP := Aside0.mk (series_Starts.all_len a1 h1m HL.out.2 pre)
    have HQ := Aside0.mk (series_Starts.one_len a1 h1m HL.out.2 x)
    have HE := Aside0.mk (show series_Starts.all a1 ((pre ++ [x]).map (·.1)) = series_Starts.all a1 (pre.map (·.1)) ++ series_Starts.one a1 x.1 by simp [series_Starts.all])
    generalize hP0 : series_Starts.all a1 (pre.map (·.1)) = P0 at hrow hP HE
    clear hP0
    have hc0 : W.cell? ⟨Bx, 0, none⟩ = some (.int .i64 x.1.1) := by simp [World.cell?, bX]
    have hc1 : W.cell? ⟨Bx, 1, none⟩ = some (.int .i64 x.1.2) := by simp [World.cell?, bX]
    have hc2 : W.cell? ⟨w.heap.size + 1, 0, none⟩ = some (.int .i64 a1) := by
      have h := HX.out
      have h2 := (hB.block (w.heap.size + 1) (by omega)).trans h.2.1
      simp [World.cell?, h2]
    obtain ⟨T, hT⟩ : ∃ T, Aside0 (T = wrap64 (wrap64 (x.1.2 - a1) + 1)) := ⟨_, ⟨rfl⟩⟩
    have hT2 : T.toNat ≤ 2000 := by
      have h := HQ.out
      simpa [series_Starts.one, series_Starts.upto, ← hT.out] using h
    have HT2 := Aside0.mk hT2
    have HE2 := Aside0.mk (show series_Starts.one a1 x.1 = series_Starts.upto x.1.1 T.toNat by rw [hT.out]; rfl)
    clear hT2
    gi_wp2
    all_goals
      rw [← hT.out] at h ⊢
      gi_loopg [25] (T.toNat + 1) (fun kq v25 wr => ∃ j : Nat, v25 = .int .i64 j ∧ Aside0 (j ≤ T.toNat ∧ kq + j = T.toNat + 1) ∧ Aside0 (∃ v, Boxed wr w3.heap.size 22 v ∧ wr.ownsRow w3.heap.size 3 1 v (P0 ++ series_Starts.upto x.1.1 j).length ((P0 ++ series_Starts.upto x.1.1 j).map (Value.int .i64))) ∧ Aside0 (Below w3.heap.size w3 wr) ∧ Aside0 (KeepsOthers W wr) ∧ Aside0 (series_Starts.Kp w3.heap.size (w3.heap.size + 1) W wr) ∧ Aside0 (wr.heap[Bx]? = some (.cells #[.int .i64 x.1.1, .int .i64 x.1.2] 63 (0, 0))))
      case atStart => exact ⟨0, rfl, ⟨by omega, by omega⟩, ⟨v, hv, by simpa [series_Starts.upto] using hrow⟩, ⟨hB⟩, ⟨KeepsOthers.refl _⟩, ⟨Below.refl _ _, fun _ h => h⟩, ⟨bX⟩⟩
      case round =>
        obtain ⟨j, rfl, HI, ⟨⟨v1, hv1, hrow1⟩⟩, HB1, HK1, HP1, HX1⟩ := hrel
        have hx0 : wr.cell? ⟨Bx, 0, none⟩ = some (.int .i64 x.1.1) := by simp [World.cell?, HX1.out]
        have hcv := hv1.cell
        have HW := Aside0.mk (show wrap64 ((j : Int) + 1) = ((j + 1 : Nat) : Int) by have h1 := HI.out; have h2 := HT2.out; unfold wrap64; omega)
        have HLn := Aside0.mk (show (P0 ++ series_Starts.upto x.1.1 j).length ≤ 6000000 by have h1 := hP.out; have h2 := HI.out; have h3 := HT2.out; simp [series_Starts.upto]; omega)
        have HLa := Aside0.mk (show (P0 ++ series_Starts.upto x.1.1 j).length + 1 ≤ maxLen by have := HLn.out; simp only [maxLen]; omega)
        have HLb := Aside0.mk (show ((P0 ++ series_Starts.upto x.1.1 j).length + 1) * 8 ≤ 140737488355328 by have := HLn.out; omega)
        have HLc := Aside0.mk (show ∀ o, w3.heap.size ≤ (wr.alloc o).heap.size by intro o; have := HB1.out.size; rw [World.size_alloc]; omega)
        have HRw := Aside0.mk hrow1
        have HVw := Aside0.mk hv1
        have hde : (22 : Nat) ≠ 3 := by decide
        have HDe := Aside0.mk hde
        clear hrow1 hde
        by_cases hj : j < T.toNat
        · have hjT : (j : Int) < T := by omega
          generalize hL1 : P0 ++ series_Starts.upto x.1.1 j = L1 at HRw HLa HLb
          have HL1 := Aside0.mk hL1
          clear hL1 HLn
          first
            | (exfalso; omega)
            | skip
          all_goals
            gi_wp2_with (gi_at_builtin; (refine wpListIn_append_own _ rfl _ _ 22 rfl w3.heap.size 3 i0 (.int .i64 0) 1 8 Try.underlying22 hi hz0 hz1 hz2 rfl (by decide) _ _ _ rfl (HRw.out.alloc _) ⟨wr.heap.size, 0, none⟩ 1 1 [.int .i64 (wrap64 (x.1.1 + (j : Int)))] rfl rfl (cell_one_new _ _ _) (by simp [Value.oneCell']) HLa.out HLb.out (HLc.out _) ?_; intro v' w1 hown' hgrow _; (obtain ⟨g', cap', rfl⟩ := ownsRow_succ hown'; obtain ⟨hv1', hv2, hr2, hk2, hb2⟩ := HVw.out.appended HDe.out HRw.out HB1.out.size (Nat.le_refl _) hown' hgrow); have hc1 := hv1'.cell; have hf1 := hv1'.frozen; have HO := Aside0.mk (fun (u : Value) (b t : Nat) (cs : Array Value) (h : wr.heap[b]? = some (.cells cs t (0, 0))) (hne : b ≠ w3.heap.size) (ht : t ≠ 3) => series_Starts.other (v' := u) h hne ht HRw.out hgrow)))
            go_roundg (gk - 1)
            case measure => have := HI.out; omega
            case rel => exact ⟨j + 1, by rw [HW.out], ⟨by omega, by have := HI.out; omega⟩, ⟨_, hv2, by rw [series_Starts.upto_succ, ← List.append_assoc, HL1.out]; simpa using hr2⟩, ⟨HB1.out.trans hb2⟩, ⟨HK1.out.trans hk2⟩, ⟨series_Starts.kp_trans HP1.out ⟨hb2, fun v h => HO.out _ _ _ _ h (by omega) (by decide)⟩⟩, ⟨HO.out _ _ _ _ HX1.out (by omega) (by decide)⟩⟩
        · have hjT : ¬ ((j : Int) < T) := by omega
          have hj0 : ¬ ((j : Int) < 0) := by omega
          gi_wp2
          have e : j = T.toNat := by have := HI.out; omega
          subst e
          exact ⟨HK1.out.from _, HP1.out, ⟨v1, hv1, by rw [HE.out, HE2.out]; exact HRw.out⟩, HB1.out⟩
  case done =>
    rintro D ys W hD hS ⟨⟨v, hv, hrow, _⟩, hB⟩ hK
    have hc := hv.cell
    gi_wp2
    refine ⟨by simp, .inl ⟨_, _, rfl, run_takeDeferred hK, ?_⟩⟩
    refine ⟨_, results_tmp rfl _ _ _, v, rfl, ?_, ?_⟩
    · rw [hS] at hrow
      exact Kd.R_of_own (series_Starts.base (ownsRow_putObj hrow _ hK rfl) (by omega)) (fun _ _ => trivial)
    · exact HX.out.2.2.1.trans ((hB.trans (belowK_b (w := w3) (Nat.le_refl _) W D _ _ (by simp at hD; omega) hK rfl rfl)).mono (by omega))
  case stop =>
    rintro D c pre W _ _ h _
    exact h.elim


end Go.Proofs.Ytpcglagnkenkaaa.Q
