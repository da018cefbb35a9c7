-- written by a program of this session (wip/tool/p2.py over the kit's print)
import Derived.Laws.BitsAllLaws
import Derived.Deep.RegionLaw
import Derived.Laws.CopyOwn
import Derived.Test.YtpcglagnkenkaaaQx0
import Derived.Test.YtpcglagnkenkaaaQx19
import Derived.Test.YtpcglagnkenkaaaQx20
namespace Go.Proofs.Ytpcglagnkenkaaa.Q
open Go.RowKit Go.Proofs.YtpcglagnkenkaaaW.PrintWords Go.Proofs.YtpcglagnkenkaaaW.PrintLast Go.Proofs.YtpcglagnkenkaaaW.PrintMore
attribute [local go_sem] max2_int min2_int max_two min_two max_three min_three max_four min_four   -- for this text's walks alone
set_option linter.unusedVariables false
set_option linter.unusedSimpArgs false

/-! ### slices_Repeat_int_int: function 34 -/
def slices_Repeat_int_int.f (l0 : List Int) (a1 : Int) : Option (List Int) := if l0.length = 1 ∧ 0 ≤ a1 ∧ a1 ≤ 17592186044416 then some (List.replicate a1.toNat (l0.headD 0)) else none
theorem slices_Repeat_int_int.mul (n : Int) (h0 : 0 ≤ n) (h1 : n ≤ 17592186044416) : bits_Mul.f 1 n = some (0, n) := by
  unfold bits_Mul.f bits_Mul64.f
  have e1 : ∀ m : Int, 0 ≤ m → m < 18446744073709551616 → Go.bits .and .u64 m 4294967295 = m % 4294967296 := by
    intro m h0 h1
    obtain ⟨m, rfl⟩ := Int.eq_ofNat_of_zero_le h0
    have e := u64_and_nat m 4294967295 (by omega) (by omega)
    have e3 : m &&& 4294967295 = m % 4294967296 := Nat.and_two_pow_sub_one_eq_mod m 32
    rw [e3] at e
    simpa using e
  rw [e1 n (by omega) (by omega), e1 1 (by omega) (by omega)]
  simp only [IntKind.wrap_u64, Option.bind_some, Option.some.injEq, Prod.mk.injEq, Int.one_mul, show (1 : Int) / 4294967296 = 0 by decide, show (1 : Int) % 4294967296 = 1 by decide, Int.zero_mul]
  rw [e1 _ (by omega) (by omega)]
  omega
theorem slices_Repeat_int_int.fill (L : List Value) (p m : Nat) (x : Value) (hp : p ≤ L.length) (h : L.take p = List.replicate p x) (hm : p + m ≤ L.length) :
    (splice L p (List.replicate m x)).take (p + m) = List.replicate (p + m) x := by
  unfold splice
  rw [h, ← List.append_assoc, List.replicate_append_replicate, List.take_left' (by simp)]
theorem slices_Repeat_int_int.cur {w : World} {base n m c g : Nat} {A : Option Addr} (h : Kd.R (Kd.int .i64) 3 w base (fun _ => True) (.slice A m c) (List.replicate n 0)) (hv : (Value.slice A m c).ownBlock = some g) :
    ∃ cur : List Value, Aside0 (A = some ⟨g, 0, none⟩ ∧ m = n ∧ base ≤ g ∧ w.heap[g]? = some (.cells cur.toArray 3 (0, 0)) ∧ n ≤ c ∧ c ≤ maxLen ∧ cur.length = c) := by
  obtain ⟨_, inner, ⟨ho, h2⟩, hr⟩ := h
  rcases h2 with ⟨he, _⟩ | ⟨g', cap, cur, he, hb, hh, hnc, hcm, hcs, ht⟩
  · cases he; simp [Value.ownBlock] at hv
  · cases he
    have : g' = g := by simpa [Value.ownBlock] using hv
    subst this
    exact ⟨cur.toList, ⟨rfl, by simp, hb, by simpa using hh, by simpa using hnc, hcm, by simpa [Kd.int, Kd.scalar] using hcs⟩⟩
theorem slices_Repeat_int_int.size : (Try.prog.info? 3).map (·.size) = some 1 := by
  obtain ⟨i, hi, hz⟩ := Option.map_eq_some_iff.1 info3
  simp only [Prod.mk.injEq] at hz
  rw [hi]
  simp [hz.2.1, Kd.int, Kd.scalar]
theorem slices_Repeat_int_int.src {w W : World} {ad : Addr} {x : Int} (h : Kd.C (Kd.int .i64) w (some ad) 1 [x]) (hb : Below w.heap.size w W) : W.cell? (ad.add 0) = some (.int .i64 x) := by
  obtain ⟨ad', c, he, hcl, hK, hcell⟩ := Kd.C_get (Kd.C_below h hb) (0 : Int) (0 : Int) (by omega) (by simp)
  cases he
  have hK : c = [.int .i64 x] := hK
  subst hK
  simpa using hcell 0 _ rfl
theorem slices_Repeat_int_int.one {W : World} {ad : Addr} {x v : Value} {m j : Nat} (h : (List.replicate m x)[j]? = some v) (hj : j = 0) (hc : W.cell? (ad.add 0) = some x) : W.cell? (ad.add j) = some v := by
  subst hj
  obtain ⟨h1, h2⟩ := List.getElem?_eq_some_iff.1 h
  rw [List.getElem_replicate] at h2
  rw [← h2]; exact hc
theorem slices_Repeat_int_int.from {W : World} {g p m n : Nat} {L : List Value} {x : Value} (hh : W.heap[g]? = some (.cells L.toArray 3 (0, 0))) (ht : L.take p = List.replicate p x) (hp : p ≤ n) (hn : n ≤ L.length) (hm : m ≤ p) :
    ∀ (j : Nat) (v : Value), (List.replicate m x)[j]? = some v → W.cell? ((⟨g, 0, none⟩ : Addr).add j) = some v := by
  intro j v h
  obtain ⟨h1, h2⟩ := List.getElem?_eq_some_iff.1 h
  rw [List.getElem_replicate] at h2
  subst h2
  have hj : j < p := by simp at h1; omega
  have e : L[j]? = some x := by
    have h3 : (L.take p)[j]? = some x := by rw [ht]; simp [hj]
    rw [List.getElem?_take] at h3
    simpa [hj] using h3
  have ha : ((⟨g, 0, none⟩ : Addr).add j) = ⟨g, j, none⟩ := by unfold Addr.add; split <;> simp_all
  rw [ha]
  simp [World.cell?, hh, e]
theorem slices_Repeat_int_int.out {w : World} {base n c g : Nat} {L : List Value} {x : Int} (hb : base ≤ g) (hh : w.heap[g]? = some (.cells L.toArray 3 (0, 0))) (hl : L.length = c) (hn : n ≤ c) (hm : c ≤ maxLen)
    (ht : L.take n = List.replicate n (.int .i64 x)) : Kd.R (Kd.int .i64) 3 w base (fun _ => True) (.slice (some ⟨g, 0, none⟩) n c) (List.replicate n x) := by
  refine Kd.R_of_own ⟨by simp [encs_length], .inr ⟨g, c, L.toArray, by simp, hb, hh, by simpa using hn, hm, by simpa using hl, ?_⟩⟩ (fun _ _ => trivial)
  simpa [encs] using ht
set_option maxHeartbeats 4000000 in
set_option maxRecDepth 100000 in
theorem slices_Repeat_int_int.calls (A0 : Option Addr) (c0 : Nat) (l0 : List Int) (a1 : Int) (r : List Int) (w : World) (hr0 : Kd.C (Kd.int .i64) w A0 l0.length l0) (hc0 : l0.length ≤ c0) (h : slices_Repeat_int_int.f l0 a1 = some r) :
    Calls Try.prog 34 #[.slice A0 l0.length c0, .int .i64 a1] w fun e w' => ∃ v0_ : Value, e = .returned (v0_) ∧ Kd.R (Kd.int .i64) 3 w' w.heap.size (fun _ => True) v0_ r ∧ Below w.heap.size w w' := by
  unfold slices_Repeat_int_int.f at h
  split at h
  case isFalse => simp at h
  cases h
  obtain ⟨h1, h2, h3⟩ := ‹_ ∧ _ ∧ _›
  obtain ⟨x, rfl⟩ : ∃ x, l0 = [x] := List.length_eq_one_iff.1 h1
  obtain ⟨n, rfl⟩ := Int.eq_ofNat_of_zero_le h2
  obtain ⟨ad, _, rfl, _, _, _⟩ := Kd.C_get hr0 (0 : Int) (0 : Int) (by omega) (by simp)
  have HR := Aside0.mk hr0
  have HN := Aside0.mk (show n ≤ 17592186044416 by omega)
  have HM := Aside0.mk (slices_Repeat_int_int.mul (n : Int) h2 h3)
  have hneg : ¬ ((n : Int) < 0) := by omega
  simp only [List.headD_cons, Int.toNat_natCast, List.length_cons, List.length_nil] at *
  clear hr0 h1 h2 h3
  obtain ⟨m1, HM1⟩ : ∃ m1, Aside0 (m1 = Nat.min 1 n ∧ m1 ≤ 1 ∧ m1 ≤ n ∧ (0 < n → m1 = 1)) := ⟨_, ⟨rfl, Nat.min_le_left _ _, Nat.min_le_right _ _, fun h => by rcases n with _ | n <;> simp at h ⊢⟩⟩
  go_enter Try.func34, Try.ntmps34
  go_wp2_with (first
    | (go_at_call 42; (with_reducible refine (bits_Mul.calls 1 (n : Int) 0 (n : Int) _ HM.out).mono ?_); rintro e w' ⟨rfl, ⟨nd, rfl⟩⟩)
    | ((with_reducible refine gate_dst (N := 30) rfl ?_); refine Kd.R_make (Kd.int .i64) (w0 := w) w.heap.size 3 rfl (N := 30) rfl 22 _ _ rfl (n : Int) rfl rfl Try.underlying22 (.int .i64 0) 8 info3 rfl (by decide) (by omega) (0 : Int) (ok := fun _ => True) (okp := fun _ => True) rfl (fun _ hk => hk) trivial (by omega) (by have := HN.out; simp; omega) ?mB ?mS ?_; (case mB => exact pw_below_drewN (Below.refl _ _) _); (case mS => simp); intro v7 w7 ho hb hg hat; obtain ⟨g, hv, hge⟩ := hat; have HO := Aside0.mk ho; have HB := Aside0.mk hb; have HG := Aside0.mk hge; clear ho hb hg hge; obtain ⟨A7, c7, rfl⟩ := Kd.R_slice HO.out; obtain ⟨cur, HC⟩ := slices_Repeat_int_int.cur HO.out hv)
    | ((with_reducible refine gate_builtin (b := .copy) (xs := #[.tmp 31, .tmp 32]) rfl ?_); refine wpList_copy_splice rfl (.tmp 31) (.tmp 32) 22 22 rfl 3 Try.underlying22 slices_Repeat_int_int.size _ _ _ _ _ _ rfl rfl g 0 cur 3 HC.out.2.2.2.1 (List.replicate m1 (.int .i64 x)) ?cn ?cp ?cf ?c1 w.heap.size w HB.out HC.out.2.2.1 ?_; (case cn => have := HM1.out.1; simpa using this); (case cp => have h1 := HM1.out.2.1; exact fun h => ⟨HC.out.1, _, rfl, fun j v hj => by have hj1 : j < m1 := (by simpa using (List.getElem?_eq_some_iff.1 hj).1); exact slices_Repeat_int_int.one hj (by omega) (slices_Repeat_int_int.src HR.out HB.out)⟩); (case cf => have h1 := HM1.out.2.2.1; have h2 := HC.out; simp only [List.length_replicate]; omega); (case c1 => intro v hv; rw [List.eq_of_mem_replicate hv]; rfl); intro w8 hg8 hb8; have HG8 := Aside0.mk hg8.out; have HB8 := Aside0.mk hb8; clear hg8 hb8))
  go_loopg [8] (n - m1) (fun kq v8 w' => ∃ (p : Nat) (L : List Value), v8 = .int .i64 p ∧ Aside0 (w'.heap[g]? = some (.cells L.toArray 3 (0, 0)) ∧ L.length = c7 ∧ p ≤ n ∧ (0 < n → 0 < p) ∧ kq + p = n ∧ L.take p = List.replicate p (.int .i64 x)) ∧ Aside0 (Below w.heap.size w w'))
  case atStart =>
    refine ⟨m1, _, by simp, ⟨HG8.out, ?_, HM1.out.2.2.1, fun h => by rw [HM1.out.2.2.2 h]; omega, by have := HM1.out.2.2.1; omega, ?_⟩, HB8⟩
    · rw [length_splice _ _ _ (by have h1 := HM1.out.2.2.1; have h2 := HC.out; simp only [List.length_replicate]; omega)]
      exact HC.out.2.2.2.2.2.2
    · have := slices_Repeat_int_int.fill cur 0 m1 (.int .i64 x) (by omega) (by simp) (by have h1 := HM1.out.2.2.1; have h2 := HC.out; omega)
      simpa using this
  case round =>
    clear HB HG8 HB8 HR
    have hA7 := HC.out.1
    subst hA7
    obtain ⟨p, L, rfl, HL, HB⟩ := hrel
    by_cases hp : p < n
    · obtain ⟨m2, HM2⟩ : ∃ m2, Aside0 (m2 = Nat.min p (n - p) ∧ m2 ≤ p ∧ m2 ≤ n - p ∧ (0 < p → 0 < m2)) := ⟨_, ⟨rfl, Nat.min_le_left _ _, Nat.min_le_right _ _, fun h => Nat.lt_min.2 ⟨h, by omega⟩⟩⟩
      have HS := Aside0.mk (slices_Repeat_int_int.from HL.out.1 HL.out.2.2.2.2.2 HL.out.2.2.1 (by have := HC.out; have := HL.out; omega) HM2.out.2.1)
      have HW := Aside0.mk (show IntKind.i64.wrap ((p : Int) + (m2 : Int)) = ((p + m2 : Nat) : Int) by
        have := HM2.out
        have := HN.out
        rw [IntKind.wrap_i64]
        omega)
      have hnc : n ≤ c7 := HC.out.2.2.2.2.1
      have hpn : p ≤ n := HL.out.2.2.1
      have hpc : p ≤ c7 := by omega
      go_wp2
      go_region_law ((with_reducible refine step_copy_splice rfl (.tmp 41) (.tmp 44) 22 22 rfl 3 Try.underlying22 slices_Repeat_int_int.size (some ⟨g, p, none⟩) (some ⟨g, 0, none⟩) (n - p) (c7 - p) p c7 ?hd ?hs g p L 3 (blk_drew HL.out.1) (List.replicate m2 (.int .i64 x)) ?cn ?cp ?cf ?c1 w.heap.size w ?cb HC.out.2.2.1 ?_); (case hd => simp [Act.eval, Act.put]; omega); (case hs => simp [Act.eval, Act.put]); (case cb => exact below_drew1 HB.out); (case cn => have := HM2.out.1; simpa using this); (case cp => exact fun h => ⟨rfl, _, rfl, fun j v hj => HS.out j v hj⟩); (case cf => have h1 := HM2.out.2.2.1; have h2 := HC.out; have h3 := HL.out; simp only [List.length_replicate]; omega); (case c1 => intro v hv; rw [List.eq_of_mem_replicate hv]; rfl); intro w8 hg8 hb8; have HG8 := Aside0.mk hg8.out; have HB8 := Aside0.mk hb8; clear hg8 hb8)
      go_wp2
      go_roundg (n - (p + m2))
      case measure => have h1 := HL.out; have h2 := HM2.out; omega
      case rel =>
        refine ⟨p + m2, _, by rw [HW.out], ⟨HG8.out, ?_, by have h2 := HM2.out; omega, fun h => by have h1 := HL.out.2.2.2.1 h; omega, by have h2 := HM2.out; omega, ?_⟩, HB8⟩
        · rw [length_splice _ _ _ (by have h1 := HL.out; have h2 := HM2.out; simp only [List.length_replicate]; omega)]
          exact HL.out.2.1
        · exact slices_Repeat_int_int.fill L p m2 (.int .i64 x) (by have h1 := HL.out; omega) HL.out.2.2.2.2.2 (by have h1 := HL.out; have h2 := HM2.out; omega)
    · have hge : ¬ ((p : Int) < (n : Int)) := by omega
      go_wp2
      go_ret
      refine ⟨_, rfl, ?_, HB.out⟩
      have h1 := HL.out
      have h2 := HC.out
      have e : p = n := by omega
      subst e
      exact slices_Repeat_int_int.out h2.2.2.1 h1.1 h1.2.1 h2.2.2.2.2.1 h2.2.2.2.2.2.1 h1.2.2.2.2.2


end Go.Proofs.Ytpcglagnkenkaaa.Q
