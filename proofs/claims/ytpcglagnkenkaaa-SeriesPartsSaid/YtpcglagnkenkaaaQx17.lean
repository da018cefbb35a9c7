-- written by a program of this session (wip/tool/p2.py over the kit's print)
import Derived.Test.YtpcglagnkenkaaaQx0
namespace Go.Proofs.Ytpcglagnkenkaaa.Q
open Go.RowKit Go.Proofs.YtpcglagnkenkaaaW.PrintWords Go.Proofs.YtpcglagnkenkaaaW.PrintLast Go.Proofs.YtpcglagnkenkaaaW.PrintMore
attribute [local go_sem] max2_int min2_int max_two min_two max_three min_three max_four min_four   -- for this text's walks alone
set_option linter.unusedVariables false
set_option linter.unusedSimpArgs false

/-! ### slices_Concat_int_int: function 33 -/
def slices_Concat_int_int.f (l0 : List (List Int)) : Option (List Int) := if l0.flatten.length ≤ 17592186044416 then some l0.flatten else none
theorem slices_Concat_int_int.part (l0 : List (List Int)) (i : Nat) : (l0.take i).flatten.length ≤ l0.flatten.length := by
  conv => rhs; rw [← List.take_append_drop i l0]
  rw [List.flatten_append, List.length_append]
  omega
theorem slices_Concat_int_int.next (l0 : List (List Int)) (i : Nat) (h : i < l0.length) : (l0.take (i + 1)).flatten = (l0.take i).flatten ++ l0.getD i [] := by
  rw [List.take_succ_eq_append_getElem h, List.flatten_append]
  simp [List.getD_eq_getElem?_getD, List.getElem?_eq_getElem h]
theorem slices_Concat_int_int.grow (n : Int) (w : World) (h0 : 0 ≤ n) (h1 : n ≤ 17592186044416) :
    Calls Try.prog 41 #[.slice none 0 0, .int .i64 n] w fun e w' => ∃ v0_ : Value, e = .returned (v0_) ∧ Kd.R (Kd.int .i64) 3 w' w.heap.size (fun _ => True) v0_ [] ∧ Below w.heap.size w w' := by
  have hu := Try.underlying22
  have h2 : n ≤ 9223372036854775807 := by omega
  by_cases hp : 0 < n
  · go_enter Try.func41, Try.ntmps41
    go_wp2_with (first
      | ((with_reducible refine gate_builtin (b := .append) (xs := #[.tmp 20, .tmp 21]) rfl ?_); at_builtin; refine Kd.R_append_zeros (Kd.int .i64) (w0 := w) w.heap.size rfl (.tmp 20) (.tmp 21) 22 3 3 (.int .i64 0) 8 rfl Try.underlying22 (k := .i64) Try.underlying3 info3 rfl (by decide) (by omega) (.slice none 0 0) [] (0 : Int) n (fun _ => True) rfl rfl rfl (fun _ _ => trivial) (Kd.R_nil _ _ _ _ _) h0 (Below.refl _ _) (Nat.le_refl _) (by simp; omega) ?_; intro v7 w7 ho hb hg hat; obtain ⟨A7, c7, rfl⟩ := Kd.R_slice ho; have HO := Aside0.mk (Kd.R_take (m := 0) ho (Nat.zero_le _)); have HB := Aside0.mk hb; clear ho hb hg hat))
    go_ret
    exact ⟨_, rfl, HO.out, HB.out⟩
  · go_enter Try.func41, Try.ntmps41
    go_wp2
    go_ret
    exact ⟨_, rfl, Kd.R_nil _ _ _ _ _, Below.refl _ _⟩
set_option maxHeartbeats 4000000 in
set_option maxRecDepth 100000 in
theorem slices_Concat_int_int.calls (A0 : Option Addr) (c0 : Nat) (l0 : List (List Int)) (r : List Int) (w : World) (hr0 : Kd.C (Kd.slice 3 (Kd.int .i64)) w A0 l0.length l0) (hc0 : l0.length ≤ c0) (h : slices_Concat_int_int.f l0 = some r) :
    Calls Try.prog 33 #[.slice A0 l0.length c0] w fun e w' => ∃ v0_ : Value, e = .returned (v0_) ∧ Kd.R (Kd.int .i64) 3 w' w.heap.size (fun _ => True) v0_ r ∧ Below w.heap.size w w' := by
  have HR := Aside0.mk hr0
  unfold slices_Concat_int_int.f at h
  split at h
  case isFalse => simp at h
  cases h
  have HL := Aside0.mk ‹l0.flatten.length ≤ 17592186044416›
  have HM := Aside0.mk (show l0.length ≤ 9223372036854775807 by have := hr0.2.1; omega)
  have X := Aside0.mk (fun (W : World) (hb : Below w.heap.size w W) (i : Nat) (hi : i < l0.length) => Kd.C_get (Kd.C_below HR.out hb) ([] : List Int) (i : Int) (by omega) (by omega))
  clear hr0 hc0
  go_enter Try.func33, Try.ntmps33
  go_wp2
  go_loopg [3, 11] (l0.length + 1) (fun kq v3 v11 w' => ∃ i s : Nat, v3 = .int .i64 s ∧ v11 = .int .i64 i ∧ Aside0 (i ≤ l0.length ∧ kq + i = l0.length + 1 ∧ s = (l0.take i).flatten.length) ∧ w = w')
  case atStart => exact ⟨0, 0, rfl, rfl, ⟨by simp⟩, rfl⟩
  case round =>
    obtain ⟨i, s, rfl, rfl, HI, rfl⟩ := hrel
    by_cases hi : i < l0.length
    · obtain ⟨ad, c, e, _, hK, hc0⟩ := X.out w (Below.refl _ _) i hi
      subst e
      obtain ⟨A1, c1, rfl, hl1, hC1⟩ := hK
      have hx : w.cell? (ad.add i) = some (.slice A1 (l0.getD i []).length c1) := by simpa [show (Kd.slice 3 (Kd.int .i64)).sz = 1 from rfl] using hc0 0 _ rfl
      have HX : Aside0 (s + (l0.getD i []).length = (l0.take (i + 1)).flatten.length ∧ s + (l0.getD i []).length ≤ 17592186044416) := by
        have hp := slices_Concat_int_int.part l0 (i + 1)
        have hnl : (l0.take (i + 1)).flatten.length = (l0.take i).flatten.length + (l0.getD i []).length := by rw [slices_Concat_int_int.next l0 i hi, List.length_append]
        have h1 := HL.out
        have h2 := HI.out
        exact ⟨by omega, by omega⟩
      have HMo := HM.out
      generalize (l0.getD i []).length = m at hx HX
      have HW := Aside0.mk (show 0 ≤ (s : Int) ∧ wrap64 ((s : Int) + m) = ((s + m : Nat) : Int) ∧ wrap64 ((i : Int) + 1) = ((i + 1 : Nat) : Int) by
        have := HX.out
        unfold wrap64
        omega)
      clear HMo hc0
      go_wp2
      all_goals try (exfalso; have h1 := HW.out; have h2 : wrap64 ((s : Int) + m) < 0 := by assumption
                     omega)
      go_roundg (gk - 1)
      case measure => have := HI.out; omega
      case rel => exact ⟨i + 1, s + m, by rw [HW.out.2.1], by rw [HW.out.2.2], ⟨by have := HI.out; have := HX.out; omega⟩, rfl⟩
    · have HG := Aside0.mk (show (s : Int) = (l0.flatten.length : Int) by
        have h2 := HI.out
        have h3 : i = l0.length := by omega
        rw [h2.2.2, h3, List.take_length])
      have hge : ¬ ((i : Int) < (l0.length : Int)) := by omega
      go_wp2_with (first
        | (go_at_call 41; (with_reducible refine (slices_Concat_int_int.grow (s : Int) w (by omega) (by have := HG.out; have := HL.out; omega)).mono ?_); rintro e w1 ⟨v1, rfl, ho, hb⟩; have HO := Aside0.mk ho; have HB := Aside0.mk hb; clear ho hb))
      go_loopg [6, 27] (l0.length + 1) (fun kq v6 v27 w' => ∃ i : Nat, v27 = .int .i64 i ∧ Aside0 (i ≤ l0.length ∧ kq + i = l0.length + 1) ∧ Aside0 (Kd.R (Kd.int .i64) 3 w' w.heap.size (fun _ => True) v6 (l0.take i).flatten) ∧ Aside0 (Below w.heap.size w w'))
      case atStart => exact ⟨0, rfl, ⟨by simp⟩, ⟨by simpa using HO.out⟩, HB⟩
      case round =>
        clear HO HB
        obtain ⟨i, rfl, HI, HO, HB⟩ := hrel
        by_cases hi : i < l0.length
        · obtain ⟨ad, c, e, _, hK, hc0⟩ := X.out wr HB.out i hi
          subst e
          obtain ⟨A1, c1, rfl, hl1, hC1⟩ := hK
          have hx : wr.cell? (ad.add i) = some (.slice A1 (l0.getD i []).length c1) := by simpa [show (Kd.slice 3 (Kd.int .i64)).sz = 1 from rfl] using hc0 0 _ rfl
          have HC := Aside0.mk (show (Kd.int .i64).C wr A1 (l0.getD i []).length (l0.getD i []) from hC1)
          have HN := Aside0.mk (slices_Concat_int_int.next l0 i hi)
          have HP := Aside0.mk (slices_Concat_int_int.part l0 (i + 1))
          have HMo := HM.out
          have HW := Aside0.mk (show wrap64 ((i : Int) + 1) = ((i + 1 : Nat) : Int) by unfold wrap64; omega)
          have HN := Aside0.mk (show (l0.take i).flatten ++ l0.getD i [] = (l0.take (i + 1)).flatten from HN.out.symm)
          have HQ := Aside0.mk (show (l0.take i).flatten.length + (l0.getD i []).length ≤ 17592186044416 by have h1 := HL.out; have h2 := HP.out; rw [← HN.out, List.length_append] at h2; omega)
          clear hc0 hl1 hC1 HP
          clear X HMo
          generalize l0.getD i [] = row at *
          generalize (l0.take i).flatten = pre at *
          obtain ⟨A6, c6, rfl⟩ := Kd.R_slice HO.out
          go_wp2_with (first
            | ((with_reducible refine gate_builtin (b := .append) (xs := #[.tmp 31, .tmp 32]) rfl ?_); at_builtin; refine Kd.R_append_rows (Kd.int .i64) (w0 := w) w.heap.size rfl (.tmp 31) (.tmp 32) 22 3 (.int .i64 0) 8 rfl Try.underlying22 info3 rfl (by decide) (by omega) _ pre row _ _ _ (fun _ => True) (fun _ => False) rfl rfl ?aO ?aR (fun _ _ h => h) (fun _ h => h.elim) ?aF ?aB ?aS ?aL ?_; (case aR => exact HC.out); (case aB => exact HB.out); (case aF => exact fun _ _ => trivial); (case aO => exact HO.out); (case aS => exact HB.out.size); (case aL => have h1 := HQ.out; omega); intro v7 w7 ho hb hg hat; have HO7 := Aside0.mk ho; have HB7 := Aside0.mk hb; clear ho hb hg hat))
          go_roundg (gk - 1)
          case measure => have := HI.out; omega
          case rel => exact ⟨i + 1, by rw [HW.out], ⟨by have := HI.out; omega⟩, ⟨by rw [← HN.out]; exact HO7.out⟩, HB7⟩
        · have HG := Aside0.mk (show l0.take i = l0 by
            have h2 := HI.out
            rw [show i = l0.length by omega, List.take_length])
          have hge : ¬ ((i : Int) < (l0.length : Int)) := by omega
          go_wp2
          go_ret
          exact ⟨_, rfl, by have := HO.out; rwa [HG.out] at this, HB.out⟩


end Go.Proofs.Ytpcglagnkenkaaa.Q
