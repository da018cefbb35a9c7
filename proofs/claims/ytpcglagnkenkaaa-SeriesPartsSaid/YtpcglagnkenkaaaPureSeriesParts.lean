/- Two neighbouring cuts of a series joined are the cut of both, and a series is the join of its parts with a gap between them: the statement over numbers and lists that lies behind the statement SeriesParts, for every list of numbers and every three bytes. -/
import Derived.Test.YtpcglagnkenkaaaQx10
import Derived.Test.YtpcglagnkenkaaaQx32
import Derived.Test.YtpcglagnkenkaaaQx23
import Derived.Test.YtpcglagnkenkaaaQx22
import Derived.Test.YtpcglagnkenkaaaQx31
namespace Go.Proofs.Ytpcglagnkenkaaa.Pure
open Go.RowKit Go.Proofs.Ytpcglagnkenkaaa.Q Go.Proofs.YtpcglagnkenkaaaW.PrintWords Go.Proofs.YtpcglagnkenkaaaW.PrintLast Go.Proofs.YtpcglagnkenkaaaW.PrintMore

def St (l : List Int) (p : Int) : Prop := 0 ≤ p ∧ p ≤ l.length ∧ l.length ≤ 2000
def Small (l : List Int) : Prop := ∀ v ∈ l, -1000 ≤ v ∧ v ≤ 1000
def Good (l : List Int) : Prop := ∀ v ∈ l, v = 1073741824 ∨ (-1000 ≤ v ∧ v ≤ 1000)
theorem w64 {n : Int} (h0 : -9223372036854775808 ≤ n) (h1 : n ≤ 9223372036854775807) : wrap64 n = n := by
  unfold wrap64
  omega
theorem Small.add {l : List Int} {v : Int} (h : Small l) (h0 : -1000 ≤ v) (h1 : v ≤ 1000) : Small (l ++ [v]) := by
  intro x hx
  rcases List.mem_append.1 hx with hx | hx
  · exact h x hx
  · obtain rfl := List.mem_singleton.1 hx
    exact ⟨h0, h1⟩

theorem new_ok (l : List Int) : ∃ m, shapesearchkeep_New.f l = some (m, 0) ∧ St m 0 := by
  unfold shapesearchkeep_New.f mn
  refine ⟨_, by rw [if_pos (by split <;> omega), if_pos (by split <;> omega)], ?_⟩
  unfold St
  rw [List.length_take]
  split <;> omega
theorem mod_ok (a n : Int) (h1 : 1 ≤ n) (h2 : n ≤ 4611686018427387904) : ∃ r, shapesearchkeep_Mod.f a n = some r ∧ 0 ≤ r ∧ r < n := by
  unfold shapesearchkeep_Mod.f
  rw [if_neg (by omega), if_neg (by omega)]
  have h3 := Int.tmod_lt_of_pos a (show 0 < n by omega)
  have h4 := Int.lt_tmod_of_pos a (show 0 < n by omega)
  by_cases h : Int.tmod a n < 0
  · rw [if_pos h]
    refine ⟨_, rfl, ?_⟩
    rw [w64 (by omega) (by omega)]
    omega
  · rw [if_neg h]
    exact ⟨_, rfl, by omega, h3⟩
theorem raw_ok (l : List Int) (p : Int) (h : St l p) : ∃ x q, shapesearchkeep_Src_Raw.f l p = some (x, q) ∧ St l q := by
  unfold St at h
  unfold shapesearchkeep_Src_Raw.f
  by_cases h0 : p ≥ (l.length : Int)
  · rw [if_pos h0]
    exact ⟨_, _, rfl, h⟩
  · rw [if_neg h0, w64 (n := p + 1) (by omega) (by omega), w64 (n := p + 1 - 1) (by omega) (by omega), if_pos (by omega), if_pos (by omega)]
    exact ⟨_, _, rfl, by unfold St; omega⟩
theorem n_ok (l : List Int) (p n : Int) (h : St l p) (h1 : 1 ≤ n) (h2 : n ≤ 4611686018427387904) : ∃ x q, shapesearchkeep_Src_N.f l p n = some (x, q) ∧ 0 ≤ x ∧ x < n ∧ St l q := by
  obtain ⟨a, q, e, hq⟩ := raw_ok l p h
  obtain ⟨r, e2, h3, h4⟩ := mod_ok a n h1 h2
  refine ⟨r, q, ?_, h3, h4, hq⟩
  unfold shapesearchkeep_Src_N.f
  rw [e]
  simp only [Option.bind_some]
  rw [e2]
  rfl
theorem pick_ok (l : List Int) (p : Int) (c : List Int) (h : St l p) (h1 : 1 ≤ c.length) (h2 : c.length ≤ 1000) : ∃ x q, shapesearchkeep_Src_Pick.f l p c = some (x, q) ∧ x ∈ c ∧ St l q := by
  obtain ⟨a, q, e, h3, h4, hq⟩ := n_ok l p (c.length : Int) h (by omega) (by omega)
  refine ⟨_, q, by unfold shapesearchkeep_Src_Pick.f; rw [e]; simp only [Option.bind_some]; rw [if_pos h3, if_pos h4], ?_, hq⟩
  unfold rd
  have : a.toNat < c.length := by omega
  rw [List.getD_eq_getElem?_getD, List.getElem?_eq_getElem this]
  exact List.getElem_mem this
theorem range_ok (l : List Int) (p lo hi : Int) (h : St l p) (h0 : -1000000 ≤ lo) (h1 : lo ≤ hi) (h2 : hi ≤ 1000000) : ∃ x q, shapesearchkeep_Src_Range.f l p lo hi = some (x, q) ∧ lo ≤ x ∧ x ≤ hi ∧ St l q := by
  obtain ⟨a, q, e, h3, h4, hq⟩ := n_ok l p (hi - lo + 1) h (by omega) (by omega)
  refine ⟨lo + a, q, ?_, by omega, by omega, hq⟩
  unfold shapesearchkeep_Src_Range.f
  rw [w64 (n := hi - lo) (by omega) (by omega), w64 (n := hi - lo + 1) (by omega) (by omega), e]
  simp only [Option.bind_some]
  rw [w64 (by omega) (by omega)]
theorem clip_ok (x : Int) : ∃ y, shapesearchkeep_clip.f x = some y ∧ -1000 ≤ y ∧ y ≤ 1000 := by
  refine ⟨_, rfl, ?_⟩
  unfold mn mx
  split <;> split <;> omega
theorem list_loop (l : List Int) (n kind size : Int) (hn : n ≤ 1000) (hs : 1 ≤ size) (hs' : size ≤ 1000) : ∀ (d k : Nat) (x i p : Int) (out : List Int), n - i = d → 0 ≤ i → 3 * d < k → -1000 ≤ x → x ≤ 1000 → Small out → (out.length : Int) = i → St l p →
    ∃ o q, shapesearchkeep_Src_List.l0 k n kind size x out i l p = some (o, q) ∧ Small o ∧ (o.length : Int) = n ∧ St l q := by
  intro d
  induction d with
  | zero =>
    intro k x i p out hd hi hk hx hx' ho hl hp
    obtain ⟨k, rfl⟩ : ∃ m, k = m + 1 := ⟨k - 1, by omega⟩
    exact ⟨out, p, by simp only [shapesearchkeep_Src_List.l0]; rw [if_neg (by omega)], ho, by omega, hp⟩
  | succ d ih =>
    intro k x i p out hd hi hk hx hx' ho hl hp
    obtain ⟨k, rfl⟩ : ∃ m, k = m + 3 := ⟨k - 3, by omega⟩
    have hol : out.length < 17592186044416 := by omega
    have hw : wrap64 (-size) = -size := w64 (by omega) (by omega)
    have step : ∀ k' x' v q, k ≤ k' → -1000 ≤ x' → x' ≤ 1000 → -1000 ≤ v → v ≤ 1000 → St l q → ∃ o q', shapesearchkeep_Src_List.l0 k' n kind size x' (out ++ [v]) (wrap64 (i + 1)) l q = some (o, q') ∧ Small o ∧ (o.length : Int) = n ∧ St l q' := by
      intro k' x' v q hk' h1 h2 h3 h4 hq
      rw [w64 (by omega) (by omega)]
      exact ih k' x' (i + 1) q _ (by omega) (by omega) (by omega) h1 h2 (ho.add h3 h4) (by rw [List.length_append, List.length_singleton]; omega) hq
    have hj3 : ∀ b, ∃ o q', shapesearchkeep_Src_List.j3 (k + 1) n kind size x out i kind b l p = some (o, q') ∧ Small o ∧ (o.length : Int) = n ∧ St l q' := by
      intro b
      simp only [shapesearchkeep_Src_List.j3]
      cases b with
      | true =>
        rw [if_pos rfl, hw]
        obtain ⟨a, q, e, h1, h2, hq⟩ := range_ok l p (-size) size hp (by omega) (by omega) (by omega)
        rw [e]
        simp only [Option.bind_some]
        obtain ⟨y, e2, h3, h4⟩ := clip_ok (wrap64 (x + a))
        rw [e2]
        simp only [Option.bind_some]
        rw [if_pos hol]
        exact step _ _ _ _ (by omega) h3 h4 h3 h4 hq
      | false =>
        rw [if_neg (by decide)]
        by_cases h4 : kind = 4
        · rw [if_pos h4]
          obtain ⟨a, q, e, h1, h2, hq⟩ := n_ok l p 4 hp (by omega) (by omega)
          rw [e]
          simp only [Option.bind_some]
          by_cases ha : a = 0
          · rw [if_pos ha, hw]
            obtain ⟨a, q, e, h1, h2, hq⟩ := range_ok l q (-size) size hq (by omega) (by omega) (by omega)
            rw [e]
            simp only [Option.bind_some]
            rw [if_pos hol]
            exact step _ _ _ _ (by omega) (by omega) (by omega) (by omega) (by omega) hq
          · rw [if_neg ha, if_pos hol]
            exact step _ _ _ _ (by omega) hx hx' hx hx' hq
        · rw [if_neg h4]
          obtain ⟨a, q, e, h1, hq⟩ := pick_ok l p [-1000, 1000, 1000, 0] hp (by decide) (by decide)
          rw [e]
          simp only [Option.bind_some]
          rw [if_pos hol]
          have h5 : -1000 ≤ a ∧ a ≤ 1000 := by
            simp only [List.mem_cons, List.not_mem_nil, or_false] at h1
            omega
          exact step _ _ _ _ (by omega) hx hx' h5.1 h5.2 hq
    have hj2 : ∀ b, ∃ o q', shapesearchkeep_Src_List.j2 (k + 2) n kind size x out i kind b l p = some (o, q') ∧ Small o ∧ (o.length : Int) = n ∧ St l q' := by
      intro b
      simp only [shapesearchkeep_Src_List.j2]
      cases b with
      | true =>
        rw [if_pos rfl, hw]
        obtain ⟨a, q, e, h1, h2, hq⟩ := range_ok l p (-size) size hp (by omega) (by omega) (by omega)
        rw [e]
        simp only [Option.bind_some]
        rw [if_pos hol]
        exact step _ _ _ _ (by omega) hx hx' (by omega) (by omega) hq
      | false =>
        rw [if_neg (by decide)]
        split <;> exact hj3 _
    simp only [shapesearchkeep_Src_List.l0]
    rw [if_pos (by omega)]
    split <;> exact hj2 _
theorem list_ok (l : List Int) (p n : Int) (k : Nat) (h : St l p) (h0 : 0 ≤ n) (h1 : n ≤ 1000) (hk : 3 * n.toNat + 2 ≤ k) : ∃ o q, shapesearchkeep_Src_List.f k l p n = some (o, q) ∧ Small o ∧ (o.length : Int) = n ∧ St l q := by
  obtain ⟨k, rfl⟩ : ∃ m, k = m + 1 := ⟨k - 1, by omega⟩
  have hj : ∀ kind size x q, 1 ≤ size → size ≤ 1000 → -1000 ≤ x → x ≤ 1000 → St l q → ∃ o q', shapesearchkeep_Src_List.j0 (k + 1) n kind size x l q = some (o, q') ∧ Small o ∧ (o.length : Int) = n ∧ St l q' := by
    intro kind size x q h2 h3 h4 h5 hq
    simp only [shapesearchkeep_Src_List.j0]
    exact list_loop l n kind size h1 h2 h3 n.toNat k x 0 q [] (by omega) (by omega) (by omega) h4 h5 (fun v hv => by cases hv) rfl hq
  unfold shapesearchkeep_Src_List.f
  obtain ⟨kind, q, e, _, _, hq⟩ := n_ok l p 6 h (by omega) (by omega)
  rw [e]
  simp only [Option.bind_some]
  obtain ⟨size, q, e, hs, hq⟩ := pick_ok l q [1, 3, 10, 100, 1000] hq (by decide) (by decide)
  rw [e]
  simp only [Option.bind_some]
  have hs' : 1 ≤ size ∧ size ≤ 1000 := by
    simp only [List.mem_cons, List.not_mem_nil, or_false] at hs
    omega
  obtain ⟨z, q, e, _, _, hq⟩ := n_ok l q 3 hq (by omega) (by omega)
  rw [e]
  simp only [Option.bind_some]
  split
  · obtain ⟨x, q, e, h3, h4, hq⟩ := range_ok l q (-1000) 1000 hq (by omega) (by omega) (by omega)
    rw [e]
    simp only [Option.bind_some]
    exact hj _ _ _ _ hs'.1 hs'.2 h3 h4 hq
  · exact hj _ _ _ _ hs'.1 hs'.2 (by omega) (by omega) hq
theorem Good.set {l : List Int} (h : Good l) (i : Nat) : Good (l.set i 1073741824) := by
  intro v hv
  rcases List.mem_or_eq_of_mem_set hv with hv | rfl
  · exact h v hv
  · exact .inl rfl
theorem series_loop (l : List Int) (holes n st step : Int) (hn : n ≤ 1000) (hh : holes ≤ 1000) : ∀ (d k : Nat) (i p : Int) (v : List Int), n - i = d → 0 ≤ i → d < k → Good v → (v.length : Int) = n → St l p →
    ∃ o q, shapesearchkeep_Src_Series.l0 k holes n i l p st step v = some (st, step, o, q) ∧ Good o ∧ (o.length : Int) = n ∧ St l q := by
  intro d
  induction d with
  | zero =>
    intro k i p v hd hi hk hv hl hp
    obtain ⟨k, rfl⟩ : ∃ m, k = m + 1 := ⟨k - 1, by omega⟩
    exact ⟨v, p, by simp only [shapesearchkeep_Src_Series.l0]; rw [if_neg (by omega)], hv, hl, hp⟩
  | succ d ih =>
    intro k i p v hd hi hk hv hl hp
    obtain ⟨k, rfl⟩ : ∃ m, k = m + 1 := ⟨k - 1, by omega⟩
    simp only [shapesearchkeep_Src_Series.l0]
    rw [if_pos (by omega), w64 (n := i + 1) (by omega) (by omega)]
    split
    · obtain ⟨a, q, e, _, _, hq⟩ := n_ok l p holes hp (by omega) (by omega)
      rw [e]
      simp only [Option.bind_some]
      split
      · rw [if_pos (by omega)]
        exact ih k (i + 1) q _ (by omega) (by omega) (by omega) (hv.set _) (by rw [List.length_set]; exact hl) hq
      · exact ih k (i + 1) q _ (by omega) (by omega) (by omega) hv hl hq
    · exact ih k (i + 1) p _ (by omega) (by omega) (by omega) hv hl hp
theorem series_ok (l : List Int) (p n : Int) (k : Nat) (h : St l p) (h0 : 0 ≤ n) (h1 : n ≤ 500) (hk : 3 * n.toNat + 2 ≤ k) : ∃ st step o q, shapesearchkeep_Src_Series.f k l p n = some (st, step, o, q) ∧ 0 ≤ st ∧ st ≤ 1000 ∧ 1 ≤ step ∧ step ≤ 20 ∧ Good o ∧ (o.length : Int) ≤ n ∧ St l q := by
  unfold shapesearchkeep_Src_Series.f
  obtain ⟨st, q, e, hs, hq⟩ := pick_ok l p [0, 5, 1000] h (by decide) (by decide)
  rw [e]
  simp only [Option.bind_some]
  obtain ⟨step, q, e, h2, h3, hq⟩ := range_ok l q 1 20 hq (by omega) (by omega) (by omega)
  rw [e]
  simp only [Option.bind_some]
  rw [w64 (n := n + 1) (by omega) (by omega)]
  obtain ⟨m, q, e, h4, h5, hq⟩ := n_ok l q (n + 1) hq (by omega) (by omega)
  rw [e]
  simp only [Option.bind_some]
  obtain ⟨v, q, e, hv, hl, hq⟩ := list_ok l q m k hq h4 (by omega) (by omega)
  rw [e]
  simp only [Option.bind_some]
  obtain ⟨holes, q, e, hh, hq⟩ := pick_ok l q [0, 0, 2, 5, 12] hq (by decide) (by decide)
  rw [e]
  simp only [Option.bind_some]
  have hh' : holes ≤ 1000 := by
    simp only [List.mem_cons, List.not_mem_nil, or_false] at hh
    omega
  obtain ⟨o, q, e, ho, hol, hq⟩ := series_loop l holes (v.length : Int) st step (by omega) hh' v.length k 0 q v (by omega) (by omega) (by omega) (fun z hz => .inr (hv z hz)) rfl hq
  refine ⟨st, step, o, q, e, ?_, ?_, h2, h3, ho, by omega, hq⟩ <;>
  · simp only [List.mem_cons, List.not_mem_nil, or_false] at hs
    omega
theorem mul_bd {a b A B : Int} (h0 : 0 ≤ a) (h1 : a ≤ A) (h2 : 0 ≤ b) (h3 : b ≤ B) : 0 ≤ a * b ∧ a * b ≤ A * B :=
  ⟨Int.mul_nonneg h0 h2, Int.mul_le_mul h1 h3 h2 (by omega)⟩
theorem rd_mem {l : List Int} {i : Int} (h0 : 0 ≤ i) (h1 : i < l.length) : rd l i ∈ l := by
  unfold rd
  have : i.toNat < l.length := by omega
  rw [List.getD_eq_getElem?_getD, List.getElem?_eq_getElem this]
  exact List.getElem_mem this
theorem valid_loop (l : List Int) (st step : Int) (hg : Good l) (hn : l.length ≤ 2000) (h0 : 0 ≤ st) (h1 : st ≤ 1099511627776) (h2 : 1 ≤ step) (h3 : step ≤ 1099511627776) (he : st + step * l.length ≤ 2199023255552) :
    ∀ (d k : Nat) (i : Int), (l.length : Int) - i = d → 0 ≤ i → d < k → series_Valid.l0 k l (l.length : Int) i st step l = some true := by
  intro d
  induction d with
  | zero =>
    intro k i hd hi hk
    obtain ⟨k, rfl⟩ : ∃ m, k = m + 1 := ⟨k - 1, by omega⟩
    simp only [series_Valid.l0]
    rw [if_neg (by omega)]
    have hm := mul_bd (show 0 ≤ step by omega) h3 (show (0 : Int) ≤ l.length by omega) (show (l.length : Int) ≤ 2000 by omega)
    unfold series_end.f
    simp only [Option.bind_some]
    generalize step * (l.length : Int) = q at *
    rw [w64 (n := q) (by omega) (by omega), w64 (by omega) (by omega)]
    rw [decide_eq_true he]
  | succ d ih =>
    intro k i hd hi hk
    obtain ⟨k, rfl⟩ : ∃ m, k = m + 1 := ⟨k - 1, by omega⟩
    have hr := hg _ (rd_mem hi (show i < (l.length : Int) by omega))
    have hih := ih k (i + 1) (by omega) (by omega) (by omega)
    simp only [series_Valid.l0]
    have hlt : i < (l.length : Int) := by omega
    simp only [hlt, hi, if_true]
    rw [w64 (n := i + 1) (by omega) (by omega)]
    by_cases hm : rd l i = 1073741824
    · rw [if_pos hm]
      exact hih
    · rw [if_neg hm, if_neg (by omega), if_neg (by omega)]
      exact hih
theorem valid_ok (l : List Int) (st step : Int) (k : Nat) (hg : Good l) (hn : l.length ≤ 2000) (h0 : 0 ≤ st) (h1 : st ≤ 1099511627776) (h2 : 1 ≤ step) (h3 : step ≤ 1099511627776) (he : st + step * l.length ≤ 2199023255552) (hk : l.length + 2 ≤ k) :
    series_Valid.f k st step l = some true := by
  obtain ⟨k, rfl⟩ : ∃ m, k = m + 1 := ⟨k - 1, by omega⟩
  unfold series_Valid.f
  rw [if_neg (by omega), if_neg (by omega), if_neg (by omega), if_neg (by omega), decide_eq_false (by omega)]
  simp only [series_Valid.j0]
  rw [if_neg (by decide)]
  exact valid_loop l st step hg hn h0 h1 h2 h3 he l.length k 0 (by omega) (by omega) (by omega)
theorem Good.app {a b : List Int} (ha : Good a) (hb : Good b) : Good (a ++ b) := fun v hv => (List.mem_append.1 hv).elim (ha v) (hb v)
theorem Good.rep (n : Nat) : Good (List.replicate n 1073741824) := fun _ hv => .inl (List.eq_of_mem_replicate hv)
theorem join_ok (a b : List Int) (sa step sb : Int) (g : Nat) (k : Nat) (ha : Good a) (hb : Good b) (h0 : 0 ≤ sa) (h1 : sa ≤ 1000000000) (h2 : 1 ≤ step) (h3 : step ≤ 1000)
    (hl : a.length + g + b.length ≤ 2000) (hs : sb = sa + step * ((a.length : Int) + g)) (hk : 2010 ≤ k) :
    series_Join.f k sa step a sb step b = some (sa, step, a ++ (List.replicate g 1073741824 ++ b), 0) := by
  obtain ⟨k, rfl⟩ : ∃ m, k = m + 3 := ⟨k - 3, by omega⟩
  have m1 := mul_bd (show 0 ≤ step by omega) h3 (show (0 : Int) ≤ a.length by omega) (show (a.length : Int) ≤ 2000 by omega)
  have m2 := mul_bd (show 0 ≤ step by omega) h3 (show (0 : Int) ≤ g by omega) (show (g : Int) ≤ 2000 by omega)
  have m3 := mul_bd (show 0 ≤ step by omega) h3 (show (0 : Int) ≤ b.length by omega) (show (b.length : Int) ≤ 2000 by omega)
  rw [Int.mul_add] at hs
  have hv : Good (a ++ (List.replicate g 1073741824 ++ b)) := ha.app ((Good.rep g).app hb)
  have hlen : (a ++ (List.replicate g 1073741824 ++ b)).length = a.length + g + b.length := by
    rw [List.length_append, List.length_append, List.length_replicate]
    omega
  have hq : step * (((a ++ (List.replicate g 1073741824 ++ b)).length : Nat) : Int) = step * a.length + step * g + step * b.length := by
    rw [hlen, Int.natCast_add, Int.natCast_add, Int.mul_add, Int.mul_add]
  have v1 := fun k hk => valid_ok a sa step k ha (by omega) h0 (by omega) h2 (by omega) (by omega) hk
  have v2 := fun k hk => valid_ok b sb step k hb (by omega) (by omega) (by omega) h2 (by omega) (by omega) hk
  have v3 := fun k hk => valid_ok (a ++ (List.replicate g 1073741824 ++ b)) sa step k hv (by omega) h0 (by omega) h2 (by omega) (by rw [hq]; omega) hk
  unfold series_Join.f
  rw [v1 _ (by omega)]
  simp only [Option.bind_some, if_true]
  rw [v2 _ (by omega)]
  simp only [Option.bind_some, series_Join.j0, series_end.f, Bool.not_true, if_true]
  rw [if_neg (by decide), w64 (n := step * a.length) (by omega) (by omega), w64 (n := sa + step * a.length) (by omega) (by omega), show sb - (sa + step * (a.length : Int)) = step * g by omega, w64 (n := step * g) (by omega) (by omega)]
  rw [if_neg (by omega), if_neg (by omega), Int.mul_tmod_right]
  simp only [series_Join.j1]
  rw [if_neg (by decide), if_neg (by omega), Int.mul_tdiv_cancel_left _ (by omega), w64 (n := (g : Int)) (by omega) (by omega), if_neg (by omega), w64 (n := (a.length : Int) + g) (by omega) (by omega), w64 (by omega) (by omega), decide_eq_false (by omega)]
  simp only [series_Join.j2]
  rw [if_neg (by decide)]
  have hr : slices_Repeat_int_int.f [1073741824] (g : Int) = some (List.replicate g 1073741824) := by
    unfold slices_Repeat_int_int.f
    rw [if_pos ⟨rfl, by omega, by omega⟩]
    rfl
  rw [hr]
  simp only [Option.bind_some]
  have hc : slices_Concat_int_int.f [a, List.replicate g 1073741824, b] = some (a ++ (List.replicate g 1073741824 ++ b)) := by
    unfold slices_Concat_int_int.f
    have e : [a, List.replicate g 1073741824, b].flatten = a ++ (List.replicate g 1073741824 ++ b) := by simp
    rw [e, if_pos (by omega)]
  rw [hc]
  simp only [Option.bind_some]
  rw [v3 _ (by omega)]
  rfl
theorem same_loop (l : List Int) (st step : Int) (hn : l.length ≤ 5000) : ∀ (d k : Nat) (i : Int), (l.length : Int) - i = d → 0 ≤ i → d < k → shapesearchref09_Same.l0 k (l.length : Int) i st step l st step l = some true := by
  intro d
  induction d with
  | zero =>
    intro k i hd hi hk
    obtain ⟨k, rfl⟩ : ∃ m, k = m + 1 := ⟨k - 1, by omega⟩
    simp only [shapesearchref09_Same.l0]
    rw [if_neg (by omega)]
  | succ d ih =>
    intro k i hd hi hk
    obtain ⟨k, rfl⟩ : ∃ m, k = m + 1 := ⟨k - 1, by omega⟩
    have hih := ih k (i + 1) (by omega) (by omega) (by omega)
    have hlt : i < (l.length : Int) := by omega
    simp only [shapesearchref09_Same.l0]
    simp only [hlt, hi, if_true]
    rw [w64 (n := i + 1) (by omega) (by omega)]
    exact hih
theorem same_ok (l : List Int) (st step : Int) (k : Nat) (hn : l.length ≤ 5000) (hk : l.length + 2 ≤ k) : shapesearchref09_Same.f k st step l st step l = some true := by
  obtain ⟨k, rfl⟩ : ∃ m, k = m + 1 := ⟨k - 1, by omega⟩
  unfold shapesearchref09_Same.f
  rw [if_pos rfl, if_pos rfl]
  simp only [shapesearchref09_Same.j0, bne_self_eq_false]
  rw [if_neg (by decide)]
  exact same_loop l st step hn l.length k 0 (by omega) (by omega) (by omega)
theorem awake_ok (k : Nat) (hk : 30 ≤ k) : shapesearchlaw09_awake.f k = some true := by
  refine at_rounds (fun k => shapesearchlaw09_awake.mono k) hk ?_
  decide +kernel
theorem u8_bd {a : Int} (h : (Lit.int .u8 a).wf = true) : 0 ≤ a ∧ a ≤ 255 := by
  simp [Lit.wf, IntKind.min, IntKind.max, IntKind.bits, IntKind.signed] at h
  omega
theorem Good.take {l : List Int} (h : Good l) (n : Nat) : Good (l.take n) := fun v hv => h v (List.mem_of_mem_take hv)
theorem Good.drop {l : List Int} (h : Good l) (n : Nat) : Good (l.drop n) := fun v hv => h v (List.mem_of_mem_drop hv)
theorem cut_ok (l : List Int) (st step : Int) (i n : Nat) (k : Nat) (hg : Good l) (hn : l.length ≤ 2000) (h0 : 0 ≤ st) (h1 : st ≤ 1000000000) (h2 : 1 ≤ step) (h3 : step ≤ 1000) (hi : i + n ≤ l.length) (hk : 2010 ≤ k) :
    series_Cut.f k st step l i n = some (st + step * i, step, (l.take (i + n)).drop i, 0) := by
  have m1 := mul_bd (show 0 ≤ step by omega) h3 (show (0 : Int) ≤ l.length by omega) (show (l.length : Int) ≤ 2000 by omega)
  have m2 := mul_bd (show 0 ≤ step by omega) h3 (show (0 : Int) ≤ i by omega) (show (i : Int) ≤ 2000 by omega)
  unfold series_Cut.f
  rw [valid_ok l st step k hg hn h0 (by omega) h2 (by omega) (by omega) (by omega)]
  simp only [Option.bind_some, if_true, series_inside.f]
  rw [if_pos (by omega), if_pos (by omega), if_pos (by omega), w64 (n := (l.length : Int) - i) (by omega) (by omega), decide_eq_true (by omega)]
  simp only [Option.bind_some, if_true]
  rw [Int.mul_comm (i : Int) step, w64 (n := step * i) (by omega) (by omega), w64 (n := st + step * i) (by omega) (by omega), if_neg (by omega), if_pos (by omega), w64 (n := (i : Int) + n) (by omega) (by omega), if_pos (by omega), if_pos (by omega)]
  have e : ((i : Int) + n).toNat = i + n := by omega
  rw [e, Int.toNat_natCast]
  unfold slices_Clone_int_int.f
  rw [if_pos (by rw [List.length_drop, List.length_take]; omega)]
  rfl
def cnt (l : List Int) : Nat := (l.filter (fun v => v ≠ 1073741824)).length
theorem cnt_app (a b : List Int) : cnt (a ++ b) = cnt a + cnt b := by
  unfold cnt
  rw [List.filter_append, List.length_append]
theorem cnt_rep (n : Nat) : cnt (List.replicate n 1073741824) = 0 := by
  unfold cnt
  induction n with
  | zero => rfl
  | succ n ih => rw [List.replicate_succ, List.filter_cons_of_neg (by decide)]; exact ih
theorem one_len (fr i : Nat) (h : fr < i) (hi : i ≤ 5000) : (series_Starts.one 1 ((fr : Int), (i : Int) - (fr : Int))).length = i - fr := by
  unfold series_Starts.one series_Starts.upto
  rw [List.length_map, List.length_range]
  simp only
  rw [w64 (n := (i : Int) - fr - 1) (by omega) (by omega), w64 (by omega) (by omega)]
  omega
theorem part_len (fr i : Nat) (h : fr ≤ i) (hi : i ≤ 5000) : (series_Starts.all 1 (if fr < i then [((fr : Int), (i : Int) - (fr : Int))] else [])).length = i - fr := by
  unfold series_Starts.all
  by_cases h1 : fr < i
  · rw [if_pos h1, List.flatMap_cons, List.flatMap_nil, List.append_nil, one_len fr i h1 hi]
  · rw [if_neg h1, List.flatMap_nil, List.length_nil]
    omega
theorem rg_len (l : List Int) (hl : l.length ≤ 4000) : ∀ (d fr i : Nat), i + d = l.length → fr ≤ i → (series_Starts.all 1 (series_Starts.rg l (d + 1) fr i)).length = (i - fr) + cnt (l.drop i) := by
  intro d
  induction d with
  | zero =>
    intro fr i hd hf
    simp only [series_Starts.rg]
    rw [if_neg (by omega), List.append_nil, part_len fr i hf (by omega), List.drop_eq_nil_of_le (by omega)]
    rfl
  | succ d ih =>
    intro fr i hd hf
    have hlt : i < l.length := by omega
    have hdrop : l.drop i = l.getD i 0 :: l.drop (i + 1) := by
      rw [List.getD_eq_getElem?_getD, List.getElem?_eq_getElem hlt]
      exact List.drop_eq_getElem_cons hlt
    rw [series_Starts.rg, hdrop]
    by_cases hm : l.getD i 0 = 1073741824
    · rw [if_neg (fun h => h.2 hm)]
      unfold series_Starts.all at *
      rw [List.flatMap_append, List.length_append]
      have hp := part_len fr i hf (by omega)
      unfold series_Starts.all at hp
      rw [hp, ih (i + 1) (i + 1) (by omega) (by omega)]
      unfold cnt
      rw [List.filter_cons_of_neg (by rw [hm]; decide)]
      omega
    · rw [if_pos ⟨hlt, hm⟩, ih fr (i + 1) (by omega) (by omega)]
      unfold cnt
      rw [List.filter_cons_of_pos (by simpa using hm), List.length_cons]
      omega
theorem starts_ok (l : List Int) (st step : Int) (k : Nat) (hg : Good l) (hn : l.length ≤ 2000) (h0 : 0 ≤ st) (h1 : st ≤ 1000000000) (h2 : 1 ≤ step) (h3 : step ≤ 1000) (hk : 2010 ≤ k) :
    ∃ r, series_Starts.f k st step l 1 = some r ∧ r.length = cnt l := by
  have m1 := mul_bd (show 0 ≤ step by omega) h3 (show (0 : Int) ≤ l.length by omega) (show (l.length : Int) ≤ 2000 by omega)
  refine ⟨series_Starts.all 1 (series_Starts.rg l (l.length + 1) 0 0), ?_, ?_⟩
  · unfold series_Starts.f
    rw [valid_ok l st step k hg hn h0 (by omega) h2 (by omega) (by omega) (by omega)]
    simp only [Option.bind_some]
    rw [if_neg (by decide), if_neg (by decide), if_pos ⟨hn, by decide⟩]
  · rw [rg_len l (by omega) l.length 0 0 (by omega) (by omega)]
    simp
theorem SeriesParts : shapesearchlaw09_SeriesParts.Pure := by
  intro l0 a1 a2 a3 _ _ _ hw1 hw2 hw3
  obtain ⟨K, hK⟩ : ∃ K : Nat, 5000 ≤ K := ⟨5000, Nat.le_refl _⟩
  refine ⟨K + 2, ?_⟩
  obtain ⟨p0, p1⟩ := u8_bd hw1
  obtain ⟨q0, q1⟩ := u8_bd hw2
  obtain ⟨g0, g1⟩ := u8_bd hw3
  obtain ⟨g, rfl⟩ := Int.eq_ofNat_of_zero_le g0
  obtain ⟨m, em, hm⟩ := new_ok l0
  obtain ⟨st, step, l, q, ea, ha0, ha1, ha2, ha3, gl, ll, hq⟩ := series_ok m 0 40 (K + 2) hm (by omega) (by omega) (by omega)
  unfold shapesearchlaw09_SeriesParts.f
  rw [em, Option.bind_some]
  try dsimp only
  rw [ea, Option.bind_some]
  try dsimp only
  rw [w64 (n := a1) (by omega) (by omega), w64 (n := a2) (by omega) (by omega), w64 (n := (l.length : Int) + 1) (by omega) (by omega)]
  obtain ⟨i, ei, i0, i1⟩ := mod_ok a1 ((l.length : Int) + 1) (by omega) (by omega)
  obtain ⟨i, rfl⟩ := Int.eq_ofNat_of_zero_le i0
  rw [ei, Option.bind_some]
  try dsimp only
  rw [w64 (n := (l.length : Int) - i) (by omega) (by omega), w64 (n := (l.length : Int) - i + 1) (by omega) (by omega)]
  obtain ⟨n, en, n0, n1⟩ := mod_ok a2 ((l.length : Int) - i + 1) (by omega) (by omega)
  obtain ⟨n, rfl⟩ := Int.eq_ofNat_of_zero_le n0
  rw [en, Option.bind_some]
  try dsimp only
  have c1 := cut_ok l st step 0 i (K + 2) gl (by omega) ha0 (by omega) ha2 (by omega) (by omega) (by omega)
  have c2 := cut_ok l st step i n (K + 2) gl (by omega) ha0 (by omega) ha2 (by omega) (by omega) (by omega)
  have c3 := cut_ok l st step 0 (i + n) (K + 2) gl (by omega) ha0 (by omega) ha2 (by omega) (by omega) (by omega)
  simp only [Nat.zero_add, List.drop_zero, Int.natCast_zero, Int.mul_zero, Int.add_zero] at c1 c3
  rw [c1, Option.bind_some]
  try dsimp only
  rw [c2, Option.bind_some]
  try dsimp only
  have ha : Good (l.take i) := gl.take _
  have hb : Good ((l.take (i + n)).drop i) := (gl.take _).drop _
  have la : (l.take i).length = i := by rw [List.length_take]; omega
  have lb : ((l.take (i + n)).drop i).length = n := by rw [List.length_drop, List.length_take]; omega
  have eab : l.take i ++ (l.take (i + n)).drop i = l.take (i + n) := by
    have : l.take i = (l.take (i + n)).take i := by rw [List.take_take, Nat.min_eq_left (by omega)]
    rw [this, List.take_append_drop]
  generalize l.take i = a at *
  generalize (l.take (i + n)).drop i = b at *
  have m1 := mul_bd (show 0 ≤ step by omega) ha3 (show (0 : Int) ≤ i by omega) (show (i : Int) ≤ 40 by omega)
  have m2 := mul_bd (show 0 ≤ step by omega) ha3 (show (0 : Int) ≤ g by omega) (show (g : Int) ≤ 255 by omega)
  rw [join_ok a b st step _ 0 (K + 2) ha hb ha0 (by omega) ha2 (by omega) (by omega) (by rw [la]; simp) (by omega), Option.bind_some]
  try dsimp only
  rw [w64 (n := (i : Int) + n) (by omega) (by omega), ← Int.natCast_add, c3, Option.bind_some]
  try dsimp only
  rw [if_pos rfl, if_pos rfl, if_pos rfl, if_pos rfl, List.replicate_zero, List.nil_append, eab, same_ok _ _ _ (K + 2) (by rw [List.length_take]; omega) (by rw [List.length_take]; omega), Option.bind_some]
  rw [show (!true) = false from rfl, shapesearchlaw09_SeriesParts.j0]
  rw [if_neg (by decide), w64 (n := (g : Int)) (by omega) (by omega), w64 (n := step * g) (by omega) (by omega), w64 (n := st + step * i + step * g) (by omega) (by omega)]
  have e1 : st + step * i + step * g = st + step * ((a.length : Int) + g) := by rw [la, Int.mul_add]; omega
  rw [e1, join_ok a b st step _ g (K + 1) ha hb ha0 (by omega) ha2 (by omega) (by omega) rfl (by omega), Option.bind_some]
  try dsimp only
  rw [if_pos rfl]
  have lj : (a ++ (List.replicate g 1073741824 ++ b)).length = i + g + n := by
    rw [List.length_append, List.length_append, List.length_replicate]
    omega
  have hj : Good (a ++ (List.replicate g 1073741824 ++ b)) := ha.app ((Good.rep g).app hb)
  rw [lj, w64 (n := (i : Int) + g) (by omega) (by omega), w64 (by omega) (by omega)]
  have e2 : (((i + g + n : Nat) : Int) != (i : Int) + g + n) = false := by
    rw [bne_eq_false_iff_eq]
    omega
  rw [e2]
  rw [shapesearchlaw09_SeriesParts.j1]
  rw [if_neg (by decide), w64 (n := (g : Int)) (by omega) (by omega), w64 (n := (i : Int) + g) (by omega) (by omega), ← Int.natCast_add]
  rw [cut_ok _ st step (i + g) n K hj (by omega) ha0 (by omega) ha2 (by omega) (by omega) (by omega), Option.bind_some]
  try dsimp only
  rw [if_pos rfl]
  have e3 : ((a ++ (List.replicate g 1073741824 ++ b)).take (i + g + n)).drop (i + g) = b := by
    rw [List.take_of_length_le (by omega), ← List.append_assoc]
    have : i + g = (a ++ List.replicate g 1073741824).length := by rw [List.length_append, List.length_replicate, la]
    rw [this, List.drop_left]
  have e4 : st + step * (((i + g : Nat)) : Int) = st + step * ((a.length : Int) + g) := by rw [la, Int.natCast_add]
  rw [e3, e4, same_ok _ _ _ K (by omega) (by omega), Option.bind_some, if_pos rfl]
  obtain ⟨r1, er1, lr1⟩ := starts_ok _ st step K hj (by omega) ha0 (by omega) ha2 (by omega) (by omega)
  obtain ⟨r2, er2, lr2⟩ := starts_ok a st step K ha (by omega) ha0 (by omega) ha2 (by omega) (by omega)
  obtain ⟨r3, er3, lr3⟩ := starts_ok b (st + step * ((a.length : Int) + g)) step K hb (by omega) (by rw [← e1]; omega) (by rw [← e1]; omega) ha2 (by omega) (by omega)
  rw [er1, Option.bind_some]
  try dsimp only
  rw [er2, Option.bind_some]
  try dsimp only
  rw [er3, Option.bind_some]
  try dsimp only
  rw [lr1, lr2, lr3, cnt_app, cnt_app, cnt_rep]
  have k1 : cnt a ≤ i := by unfold cnt; rw [← la]; exact List.length_filter_le _ _
  have k2 : cnt b ≤ n := by unfold cnt; rw [← lb]; exact List.length_filter_le _ _
  rw [w64 (by omega) (by omega), if_pos (by omega), awake_ok K (by omega)]
  rfl
end Go.Proofs.Ytpcglagnkenkaaa.Pure
