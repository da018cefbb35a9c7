-- written by a program of this session (wip/tool/p2.py over the kit's print)
import Derived.Test.YtpcglagnkenkaaaQx0
import Derived.Test.YtpcglagnkenkaaaQx2
import Derived.Test.YtpcglagnkenkaaaQx3
import Derived.Test.YtpcglagnkenkaaaQx10
import Derived.Test.YtpcglagnkenkaaaQx15
import Derived.Test.YtpcglagnkenkaaaQx22
import Derived.Test.YtpcglagnkenkaaaQx23
import Derived.Test.YtpcglagnkenkaaaQx25
import Derived.Test.YtpcglagnkenkaaaQx31
namespace Go.Proofs.Ytpcglagnkenkaaa.Q
open Go.RowKit Go.Proofs.YtpcglagnkenkaaaW.PrintWords Go.Proofs.YtpcglagnkenkaaaW.PrintLast Go.Proofs.YtpcglagnkenkaaaW.PrintMore
attribute [local go_sem] max2_int min2_int max_two min_two max_three min_three max_four min_four   -- for this text's walks alone
set_option linter.unusedVariables false
set_option linter.unusedSimpArgs false

/-! ### shapesearchlaw09_SeriesParts: function 3 -/
mutual
def shapesearchlaw09_SeriesParts.j0 : Nat → Int → Int → Int → Bool → Int → Int → List Int → Int → Int → List Int → Int → Int → List Int → Option (Bool)
  | 0, _, _, _, _, _, _, _, _, _, _, _, _, _ => none
  | k + 1, x3, x10, x11, x90, x277000, x277001, x277002, x286000, x286001, x286002, x293000, x293001, x293002 => if x90 = true then (some false) else ((series_Join.f k x286000 x286001 x286002 (wrap64 (x293000 + (wrap64 (x277001 * (wrap64 (x3)))))) x293001 x293002).bind fun bt309 => (if bt309.2.2.2 = 0 then (shapesearchlaw09_SeriesParts.j1 k x3 x10 x11 ((bt309.2.2.1.length : Int) != (wrap64 ((wrap64 (x10 + (wrap64 (x3)))) + x11))) x286000 x286001 x286002 (wrap64 (x293000 + (wrap64 (x277001 * (wrap64 (x3)))))) x293001 x293002 bt309.1 bt309.2.1 bt309.2.2.1) else (shapesearchlaw09_SeriesParts.j1 k x3 x10 x11 true x286000 x286001 x286002 (wrap64 (x293000 + (wrap64 (x277001 * (wrap64 (x3)))))) x293001 x293002 bt309.1 bt309.2.1 bt309.2.2.1)))
def shapesearchlaw09_SeriesParts.j1 : Nat → Int → Int → Int → Bool → Int → Int → List Int → Int → Int → List Int → Int → Int → List Int → Option (Bool)
  | 0, _, _, _, _, _, _, _, _, _, _, _, _, _ => none
  | k + 1, x3, x10, x11, x120, x286000, x286001, x286002, x309000, x309001, x309002, x316000, x316001, x316002 => if x120 = true then (some false) else ((series_Cut.f k x316000 x316001 x316002 (wrap64 (x10 + (wrap64 (x3)))) x11).bind fun bt316 => (if bt316.2.2.2 = 0 then ((shapesearchref09_Same.f k bt316.1 bt316.2.1 bt316.2.2.1 x309000 x309001 x309002).bind fun t323 => (if t323 = true then ((series_Starts.f k x316000 x316001 x316002 1).bind fun t324 => ((series_Starts.f k x286000 x286001 x286002 1).bind fun t327 => ((series_Starts.f k x309000 x309001 x309002 1).bind fun t330 => (if (t324.length : Int) = (wrap64 ((t327.length : Int) + (t330.length : Int))) then ((shapesearchlaw09_awake.f k).bind fun t333 => (some t333)) else (some false))))) else (some false))) else (some false)))
end
def shapesearchlaw09_SeriesParts.f (k : Nat) (l0 : List Int) (a1 : Int) (a2 : Int) (a3 : Int) : Option (Bool) := (shapesearchkeep_New.f l0).bind fun bt267 => ((shapesearchkeep_Src_Series.f k bt267.1 bt267.2 40).bind fun bt270 => ((shapesearchkeep_Mod.f (wrap64 (a1)) (wrap64 ((bt270.2.2.1.length : Int) + 1))).bind fun t277 => ((shapesearchkeep_Mod.f (wrap64 (a2)) (wrap64 ((wrap64 ((bt270.2.2.1.length : Int) - t277)) + 1))).bind fun t278 => ((series_Cut.f k bt270.1 bt270.2.1 bt270.2.2.1 0 t277).bind fun bt279 => ((series_Cut.f k bt270.1 bt270.2.1 bt270.2.2.1 t277 t278).bind fun bt286 => ((series_Join.f k bt279.1 bt279.2.1 bt279.2.2.1 bt286.1 bt286.2.1 bt286.2.2.1).bind fun bt293 => ((series_Cut.f k bt270.1 bt270.2.1 bt270.2.2.1 0 (wrap64 (t277 + t278))).bind fun bt300 => (if bt279.2.2.2 = 0 then (if bt286.2.2.2 = 0 then (if bt293.2.2.2 = 0 then (if bt300.2.2.2 = 0 then ((shapesearchref09_Same.f k bt293.1 bt293.2.1 bt293.2.2.1 bt300.1 bt300.2.1 bt300.2.2.1).bind fun t307 => (shapesearchlaw09_SeriesParts.j0 k a3 t277 t278 (!t307) bt270.1 bt270.2.1 bt270.2.2.1 bt279.1 bt279.2.1 bt279.2.2.1 bt286.1 bt286.2.1 bt286.2.2.1)) else (shapesearchlaw09_SeriesParts.j0 k a3 t277 t278 true bt270.1 bt270.2.1 bt270.2.2.1 bt279.1 bt279.2.1 bt279.2.2.1 bt286.1 bt286.2.1 bt286.2.2.1)) else (shapesearchlaw09_SeriesParts.j0 k a3 t277 t278 true bt270.1 bt270.2.1 bt270.2.2.1 bt279.1 bt279.2.1 bt279.2.2.1 bt286.1 bt286.2.1 bt286.2.2.1)) else (shapesearchlaw09_SeriesParts.j0 k a3 t277 t278 true bt270.1 bt270.2.1 bt270.2.2.1 bt279.1 bt279.2.1 bt279.2.2.1 bt286.1 bt286.2.1 bt286.2.2.1)) else (shapesearchlaw09_SeriesParts.j0 k a3 t277 t278 true bt270.1 bt270.2.1 bt270.2.2.1 bt279.1 bt279.2.1 bt279.2.2.1 bt286.1 bt286.2.1 bt286.2.2.1)))))))))
theorem shapesearchlaw09_SeriesParts.mono_l : ∀ k, (∀ y0 y1 y2 y3 y4 y5 y6 y7 y8 y9 y10 y11 y12, LeO (shapesearchlaw09_SeriesParts.j0 k y0 y1 y2 y3 y4 y5 y6 y7 y8 y9 y10 y11 y12) (shapesearchlaw09_SeriesParts.j0 (k + 1) y0 y1 y2 y3 y4 y5 y6 y7 y8 y9 y10 y11 y12)) ∧ (∀ y0 y1 y2 y3 y4 y5 y6 y7 y8 y9 y10 y11 y12, LeO (shapesearchlaw09_SeriesParts.j1 k y0 y1 y2 y3 y4 y5 y6 y7 y8 y9 y10 y11 y12) (shapesearchlaw09_SeriesParts.j1 (k + 1) y0 y1 y2 y3 y4 y5 y6 y7 y8 y9 y10 y11 y12))
  | 0 => ⟨fun _ _ _ _ _ _ _ _ _ _ _ _ _ r h => by simp [shapesearchlaw09_SeriesParts.j0] at h, fun _ _ _ _ _ _ _ _ _ _ _ _ _ r h => by simp [shapesearchlaw09_SeriesParts.j1] at h⟩
  | k + 1 => by
    obtain ⟨ih0, ih1⟩ := shapesearchlaw09_SeriesParts.mono_l k
    refine ⟨?_, ?_⟩
    · intro y0 y1 y2 y3 y4 y5 y6 y7 y8 y9 y10 y11 y12
      unfold shapesearchlaw09_SeriesParts.j0
      repeat' first
      | (with_reducible exact ih0 _ _ _ _ _ _ _ _ _ _ _ _ _)
      | (with_reducible exact ih1 _ _ _ _ _ _ _ _ _ _ _ _ _)
      | (with_reducible exact series_Cut.mono _ _ _ _ _ _)
      | (with_reducible exact series_Join.mono _ _ _ _ _ _ _)
      | (with_reducible exact series_Starts.mono _ _ _ _ _)
      | (with_reducible exact shapesearchkeep_Src_Series.mono _ _ _ _)
      | (with_reducible exact shapesearchlaw09_awake.mono _)
      | (with_reducible exact shapesearchref09_Same.mono _ _ _ _ _ _ _)
      | (with_reducible exact LeO.refl _)
      | (with_reducible exact LeO.none _)
      | (with_reducible refine LeO.ite ?_ ?_)
      | (with_reducible refine LeO.bind ?_ (fun _ => ?_))
      | exact ih0 _ _ _ _ _ _ _ _ _ _ _ _ _
      | exact ih1 _ _ _ _ _ _ _ _ _ _ _ _ _
      | exact series_Cut.mono _ _ _ _ _ _
      | exact series_Join.mono _ _ _ _ _ _ _
      | exact series_Starts.mono _ _ _ _ _
      | exact shapesearchkeep_Src_Series.mono _ _ _ _
      | exact shapesearchlaw09_awake.mono _
      | exact shapesearchref09_Same.mono _ _ _ _ _ _ _
      | exact LeO.none _
      | refine LeO.ite ?_ ?_
      | refine LeO.bind ?_ (fun _ => ?_)
    · intro y0 y1 y2 y3 y4 y5 y6 y7 y8 y9 y10 y11 y12
      unfold shapesearchlaw09_SeriesParts.j1
      repeat' first
      | (with_reducible exact ih0 _ _ _ _ _ _ _ _ _ _ _ _ _)
      | (with_reducible exact ih1 _ _ _ _ _ _ _ _ _ _ _ _ _)
      | (with_reducible exact series_Cut.mono _ _ _ _ _ _)
      | (with_reducible exact series_Join.mono _ _ _ _ _ _ _)
      | (with_reducible exact series_Starts.mono _ _ _ _ _)
      | (with_reducible exact shapesearchkeep_Src_Series.mono _ _ _ _)
      | (with_reducible exact shapesearchlaw09_awake.mono _)
      | (with_reducible exact shapesearchref09_Same.mono _ _ _ _ _ _ _)
      | (with_reducible exact LeO.refl _)
      | (with_reducible exact LeO.none _)
      | (with_reducible refine LeO.ite ?_ ?_)
      | (with_reducible refine LeO.bind ?_ (fun _ => ?_))
      | exact ih0 _ _ _ _ _ _ _ _ _ _ _ _ _
      | exact ih1 _ _ _ _ _ _ _ _ _ _ _ _ _
      | exact series_Cut.mono _ _ _ _ _ _
      | exact series_Join.mono _ _ _ _ _ _ _
      | exact series_Starts.mono _ _ _ _ _
      | exact shapesearchkeep_Src_Series.mono _ _ _ _
      | exact shapesearchlaw09_awake.mono _
      | exact shapesearchref09_Same.mono _ _ _ _ _ _ _
      | exact LeO.none _
      | refine LeO.ite ?_ ?_
      | refine LeO.bind ?_ (fun _ => ?_)
theorem shapesearchlaw09_SeriesParts.mono : ∀ a0 a1 a2 a3 k, LeO (shapesearchlaw09_SeriesParts.f k a0 a1 a2 a3) (shapesearchlaw09_SeriesParts.f (k + 1) a0 a1 a2 a3) := by
  intro a0 a1 a2 a3 k
  obtain ⟨ih0, ih1⟩ := shapesearchlaw09_SeriesParts.mono_l k
  unfold shapesearchlaw09_SeriesParts.f
  repeat' first
      | (with_reducible exact ih0 _ _ _ _ _ _ _ _ _ _ _ _ _)
      | (with_reducible exact ih1 _ _ _ _ _ _ _ _ _ _ _ _ _)
      | (with_reducible exact series_Cut.mono _ _ _ _ _ _)
      | (with_reducible exact series_Join.mono _ _ _ _ _ _ _)
      | (with_reducible exact series_Starts.mono _ _ _ _ _)
      | (with_reducible exact shapesearchkeep_Src_Series.mono _ _ _ _)
      | (with_reducible exact shapesearchlaw09_awake.mono _)
      | (with_reducible exact shapesearchref09_Same.mono _ _ _ _ _ _ _)
      | (with_reducible exact LeO.refl _)
      | (with_reducible exact LeO.none _)
      | (with_reducible refine LeO.ite ?_ ?_)
      | (with_reducible refine LeO.bind ?_ (fun _ => ?_))
      | exact ih0 _ _ _ _ _ _ _ _ _ _ _ _ _
      | exact ih1 _ _ _ _ _ _ _ _ _ _ _ _ _
      | exact series_Cut.mono _ _ _ _ _ _
      | exact series_Join.mono _ _ _ _ _ _ _
      | exact series_Starts.mono _ _ _ _ _
      | exact shapesearchkeep_Src_Series.mono _ _ _ _
      | exact shapesearchlaw09_awake.mono _
      | exact shapesearchref09_Same.mono _ _ _ _ _ _ _
      | exact LeO.none _
      | refine LeO.ite ?_ ?_
      | refine LeO.bind ?_ (fun _ => ?_)
def shapesearchlaw09_SeriesParts.T16 : Bool × List (List Nat × List Nat) := (true, [([], []), ([0], [0]), ([1], [1]), ([2], [2]), ([2], [2]), ([3, 4, 2, 2], [2, 3, 4]), ([2, 5], [2, 5]), ([6, 5], [6]), ([7], [7]), ([8, 7, 7], [7, 8]), ([9, 7], [7, 9]), ([7], [7]), ([11, 9, 7], [7, 11]), ([12, 7], [7, 12]), ([7], [7]), ([14, 12, 7], [7, 14]), ([15, 7], [7, 15]), ([13, 16, 7], [7, 13, 16]), ([10, 17, 7], [7, 10, 17]), ([7, 18], [7, 18]), ([19, 15], [19]), ([20, 20], [20]), ([20, 21], [20, 21]), ([22, 21, 0, 1, 2, 3, 4, 5, 6, 7, 8, 9, 10, 11, 12, 13, 14, 15, 16, 17, 18, 19, 20, 21, 22], [22])])
def shapesearchlaw09_SeriesParts.B16 : List Nat := [0, 1, 3, 7, 7, 31, 63, 127, 255, 511, 1023, 255, 3071, 7167, 255, 23551, 56319, 130047, 262143, 524287, 1048575, 2097151, 4194303, 8388607]
theorem shapesearchlaw09_SeriesParts.tab16 : rtab .any (opsOf Try.f3 16) = shapesearchlaw09_SeriesParts.T16 := by kernel_rfl
theorem shapesearchlaw09_SeriesParts.bits16 : waitsOk shapesearchlaw09_SeriesParts.T16.2 shapesearchlaw09_SeriesParts.B16 = true := by kernel_rfl
theorem shapesearchlaw09_SeriesParts.not_no {a : Int} {x y : Option Bool} (hy : y ≠ some true) (h : (if a = 0 then x else y) = some true) : a = 0 ∧ x = some true := by
  by_cases h0 : a = 0
  · rw [if_pos h0] at h
    exact ⟨h0, h⟩
  · rw [if_neg h0] at h
    exact absurd h hy
theorem shapesearchlaw09_SeriesParts.j0_not : ∀ (k : Nat) y0 y1 y2 y4 y5 y6 y7 y8 y9 y10 y11 y12, shapesearchlaw09_SeriesParts.j0 k y0 y1 y2 true y4 y5 y6 y7 y8 y9 y10 y11 y12 ≠ some true := by
  intro k y0 y1 y2 y4 y5 y6 y7 y8 y9 y10 y11 y12
  cases k <;> simp [shapesearchlaw09_SeriesParts.j0]
theorem shapesearchlaw09_SeriesParts.j1_not : ∀ (k : Nat) y0 y1 y2 y4 y5 y6 y7 y8 y9 y10 y11 y12, shapesearchlaw09_SeriesParts.j1 k y0 y1 y2 true y4 y5 y6 y7 y8 y9 y10 y11 y12 ≠ some true := by
  intro k y0 y1 y2 y4 y5 y6 y7 y8 y9 y10 y11 y12
  cases k <;> simp [shapesearchlaw09_SeriesParts.j1]
set_option maxHeartbeats 8000000 in
set_option maxRecDepth 100000 in
theorem shapesearchlaw09_SeriesParts.calls (k : Nat) (A0 : Option Addr) (c0 : Nat) (l0 : List Int) (a1 : Int) (a2 : Int) (a3 : Int) (r : Bool) (w : World) (hr0 : Kd.C (Kd.int .i64) w A0 l0.length l0) (hc0 : l0.length ≤ c0) (h : shapesearchlaw09_SeriesParts.f k l0 a1 a2 a3 = some r) (hT : Aside0 (r = true)) :
    Calls Try.prog 3 #[.slice A0 l0.length c0, .int .u8 a1, .int .u8 a2, .int .u8 a3] w fun e w' => e = .returned (.bool r) ∧ Below w.heap.size w w' := by
  have hu24 := Try.underlying24
  have HR0 := Aside0.mk hr0
  have HC0 := Aside0.mk hc0
  clear hr0 hc0
  have HB := Aside0.mk (Below.refl w.heap.size w)
  have H : ((shapesearchkeep_New.f l0).bind fun bt267 => ((shapesearchkeep_Src_Series.f k bt267.1 bt267.2 40).bind fun bt270 => ((shapesearchkeep_Mod.f (wrap64 (a1)) (wrap64 ((bt270.2.2.1.length : Int) + 1))).bind fun t277 => ((shapesearchkeep_Mod.f (wrap64 (a2)) (wrap64 ((wrap64 ((bt270.2.2.1.length : Int) - t277)) + 1))).bind fun t278 => ((series_Cut.f k bt270.1 bt270.2.1 bt270.2.2.1 0 t277).bind fun bt279 => ((series_Cut.f k bt270.1 bt270.2.1 bt270.2.2.1 t277 t278).bind fun bt286 => ((series_Join.f k bt279.1 bt279.2.1 bt279.2.2.1 bt286.1 bt286.2.1 bt286.2.2.1).bind fun bt293 => ((series_Cut.f k bt270.1 bt270.2.1 bt270.2.2.1 0 (wrap64 (t277 + t278))).bind fun bt300 => (if bt279.2.2.2 = 0 then (if bt286.2.2.2 = 0 then (if bt293.2.2.2 = 0 then (if bt300.2.2.2 = 0 then ((shapesearchref09_Same.f k bt293.1 bt293.2.1 bt293.2.2.1 bt300.1 bt300.2.1 bt300.2.2.1).bind fun t307 => (shapesearchlaw09_SeriesParts.j0 k a3 t277 t278 (!t307) bt270.1 bt270.2.1 bt270.2.2.1 bt279.1 bt279.2.1 bt279.2.2.1 bt286.1 bt286.2.1 bt286.2.2.1)) else (shapesearchlaw09_SeriesParts.j0 k a3 t277 t278 true bt270.1 bt270.2.1 bt270.2.2.1 bt279.1 bt279.2.1 bt279.2.2.1 bt286.1 bt286.2.1 bt286.2.2.1)) else (shapesearchlaw09_SeriesParts.j0 k a3 t277 t278 true bt270.1 bt270.2.1 bt270.2.2.1 bt279.1 bt279.2.1 bt279.2.2.1 bt286.1 bt286.2.1 bt286.2.2.1)) else (shapesearchlaw09_SeriesParts.j0 k a3 t277 t278 true bt270.1 bt270.2.1 bt270.2.2.1 bt279.1 bt279.2.1 bt279.2.2.1 bt286.1 bt286.2.1 bt286.2.2.1)) else (shapesearchlaw09_SeriesParts.j0 k a3 t277 t278 true bt270.1 bt270.2.1 bt270.2.2.1 bt279.1 bt279.2.1 bt279.2.2.1 bt286.1 bt286.2.1 bt286.2.2.1)))))))))) = some r := h
  clear h
  replace H := Option.bind_eq_some_iff.mp H
  obtain ⟨⟨t267, t268⟩, A50, H⟩ := H
  replace H : ((shapesearchkeep_Src_Series.f k t267 t268 40).bind fun bt270 => ((shapesearchkeep_Mod.f (wrap64 (a1)) (wrap64 ((bt270.2.2.1.length : Int) + 1))).bind fun t277 => ((shapesearchkeep_Mod.f (wrap64 (a2)) (wrap64 ((wrap64 ((bt270.2.2.1.length : Int) - t277)) + 1))).bind fun t278 => ((series_Cut.f k bt270.1 bt270.2.1 bt270.2.2.1 0 t277).bind fun bt279 => ((series_Cut.f k bt270.1 bt270.2.1 bt270.2.2.1 t277 t278).bind fun bt286 => ((series_Join.f k bt279.1 bt279.2.1 bt279.2.2.1 bt286.1 bt286.2.1 bt286.2.2.1).bind fun bt293 => ((series_Cut.f k bt270.1 bt270.2.1 bt270.2.2.1 0 (wrap64 (t277 + t278))).bind fun bt300 => (if bt279.2.2.2 = 0 then (if bt286.2.2.2 = 0 then (if bt293.2.2.2 = 0 then (if bt300.2.2.2 = 0 then ((shapesearchref09_Same.f k bt293.1 bt293.2.1 bt293.2.2.1 bt300.1 bt300.2.1 bt300.2.2.1).bind fun t307 => (shapesearchlaw09_SeriesParts.j0 k a3 t277 t278 (!t307) bt270.1 bt270.2.1 bt270.2.2.1 bt279.1 bt279.2.1 bt279.2.2.1 bt286.1 bt286.2.1 bt286.2.2.1)) else (shapesearchlaw09_SeriesParts.j0 k a3 t277 t278 true bt270.1 bt270.2.1 bt270.2.2.1 bt279.1 bt279.2.1 bt279.2.2.1 bt286.1 bt286.2.1 bt286.2.2.1)) else (shapesearchlaw09_SeriesParts.j0 k a3 t277 t278 true bt270.1 bt270.2.1 bt270.2.2.1 bt279.1 bt279.2.1 bt279.2.2.1 bt286.1 bt286.2.1 bt286.2.2.1)) else (shapesearchlaw09_SeriesParts.j0 k a3 t277 t278 true bt270.1 bt270.2.1 bt270.2.2.1 bt279.1 bt279.2.1 bt279.2.2.1 bt286.1 bt286.2.1 bt286.2.2.1)) else (shapesearchlaw09_SeriesParts.j0 k a3 t277 t278 true bt270.1 bt270.2.1 bt270.2.2.1 bt279.1 bt279.2.1 bt279.2.2.1 bt286.1 bt286.2.1 bt286.2.2.1))))))))) = some r := H
  have A5 := Aside0.mk A50
  clear A50
  replace H := Option.bind_eq_some_iff.mp H
  obtain ⟨⟨t270, t271, t272, t275⟩, A60, H⟩ := H
  replace H : ((shapesearchkeep_Mod.f (wrap64 (a1)) (wrap64 ((t272.length : Int) + 1))).bind fun t277 => ((shapesearchkeep_Mod.f (wrap64 (a2)) (wrap64 ((wrap64 ((t272.length : Int) - t277)) + 1))).bind fun t278 => ((series_Cut.f k t270 t271 t272 0 t277).bind fun bt279 => ((series_Cut.f k t270 t271 t272 t277 t278).bind fun bt286 => ((series_Join.f k bt279.1 bt279.2.1 bt279.2.2.1 bt286.1 bt286.2.1 bt286.2.2.1).bind fun bt293 => ((series_Cut.f k t270 t271 t272 0 (wrap64 (t277 + t278))).bind fun bt300 => (if bt279.2.2.2 = 0 then (if bt286.2.2.2 = 0 then (if bt293.2.2.2 = 0 then (if bt300.2.2.2 = 0 then ((shapesearchref09_Same.f k bt293.1 bt293.2.1 bt293.2.2.1 bt300.1 bt300.2.1 bt300.2.2.1).bind fun t307 => (shapesearchlaw09_SeriesParts.j0 k a3 t277 t278 (!t307) t270 t271 t272 bt279.1 bt279.2.1 bt279.2.2.1 bt286.1 bt286.2.1 bt286.2.2.1)) else (shapesearchlaw09_SeriesParts.j0 k a3 t277 t278 true t270 t271 t272 bt279.1 bt279.2.1 bt279.2.2.1 bt286.1 bt286.2.1 bt286.2.2.1)) else (shapesearchlaw09_SeriesParts.j0 k a3 t277 t278 true t270 t271 t272 bt279.1 bt279.2.1 bt279.2.2.1 bt286.1 bt286.2.1 bt286.2.2.1)) else (shapesearchlaw09_SeriesParts.j0 k a3 t277 t278 true t270 t271 t272 bt279.1 bt279.2.1 bt279.2.2.1 bt286.1 bt286.2.1 bt286.2.2.1)) else (shapesearchlaw09_SeriesParts.j0 k a3 t277 t278 true t270 t271 t272 bt279.1 bt279.2.1 bt279.2.2.1 bt286.1 bt286.2.1 bt286.2.2.1)))))))) = some r := H
  have A6 := Aside0.mk A60
  clear A60
  replace H := Option.bind_eq_some_iff.mp H
  obtain ⟨t277, A70, H⟩ := H
  replace H : ((shapesearchkeep_Mod.f (wrap64 (a2)) (wrap64 ((wrap64 ((t272.length : Int) - t277)) + 1))).bind fun t278 => ((series_Cut.f k t270 t271 t272 0 t277).bind fun bt279 => ((series_Cut.f k t270 t271 t272 t277 t278).bind fun bt286 => ((series_Join.f k bt279.1 bt279.2.1 bt279.2.2.1 bt286.1 bt286.2.1 bt286.2.2.1).bind fun bt293 => ((series_Cut.f k t270 t271 t272 0 (wrap64 (t277 + t278))).bind fun bt300 => (if bt279.2.2.2 = 0 then (if bt286.2.2.2 = 0 then (if bt293.2.2.2 = 0 then (if bt300.2.2.2 = 0 then ((shapesearchref09_Same.f k bt293.1 bt293.2.1 bt293.2.2.1 bt300.1 bt300.2.1 bt300.2.2.1).bind fun t307 => (shapesearchlaw09_SeriesParts.j0 k a3 t277 t278 (!t307) t270 t271 t272 bt279.1 bt279.2.1 bt279.2.2.1 bt286.1 bt286.2.1 bt286.2.2.1)) else (shapesearchlaw09_SeriesParts.j0 k a3 t277 t278 true t270 t271 t272 bt279.1 bt279.2.1 bt279.2.2.1 bt286.1 bt286.2.1 bt286.2.2.1)) else (shapesearchlaw09_SeriesParts.j0 k a3 t277 t278 true t270 t271 t272 bt279.1 bt279.2.1 bt279.2.2.1 bt286.1 bt286.2.1 bt286.2.2.1)) else (shapesearchlaw09_SeriesParts.j0 k a3 t277 t278 true t270 t271 t272 bt279.1 bt279.2.1 bt279.2.2.1 bt286.1 bt286.2.1 bt286.2.2.1)) else (shapesearchlaw09_SeriesParts.j0 k a3 t277 t278 true t270 t271 t272 bt279.1 bt279.2.1 bt279.2.2.1 bt286.1 bt286.2.1 bt286.2.2.1))))))) = some r := H
  have A7 := Aside0.mk A70
  clear A70
  replace H := Option.bind_eq_some_iff.mp H
  obtain ⟨t278, A80, H⟩ := H
  replace H : ((series_Cut.f k t270 t271 t272 0 t277).bind fun bt279 => ((series_Cut.f k t270 t271 t272 t277 t278).bind fun bt286 => ((series_Join.f k bt279.1 bt279.2.1 bt279.2.2.1 bt286.1 bt286.2.1 bt286.2.2.1).bind fun bt293 => ((series_Cut.f k t270 t271 t272 0 (wrap64 (t277 + t278))).bind fun bt300 => (if bt279.2.2.2 = 0 then (if bt286.2.2.2 = 0 then (if bt293.2.2.2 = 0 then (if bt300.2.2.2 = 0 then ((shapesearchref09_Same.f k bt293.1 bt293.2.1 bt293.2.2.1 bt300.1 bt300.2.1 bt300.2.2.1).bind fun t307 => (shapesearchlaw09_SeriesParts.j0 k a3 t277 t278 (!t307) t270 t271 t272 bt279.1 bt279.2.1 bt279.2.2.1 bt286.1 bt286.2.1 bt286.2.2.1)) else (shapesearchlaw09_SeriesParts.j0 k a3 t277 t278 true t270 t271 t272 bt279.1 bt279.2.1 bt279.2.2.1 bt286.1 bt286.2.1 bt286.2.2.1)) else (shapesearchlaw09_SeriesParts.j0 k a3 t277 t278 true t270 t271 t272 bt279.1 bt279.2.1 bt279.2.2.1 bt286.1 bt286.2.1 bt286.2.2.1)) else (shapesearchlaw09_SeriesParts.j0 k a3 t277 t278 true t270 t271 t272 bt279.1 bt279.2.1 bt279.2.2.1 bt286.1 bt286.2.1 bt286.2.2.1)) else (shapesearchlaw09_SeriesParts.j0 k a3 t277 t278 true t270 t271 t272 bt279.1 bt279.2.1 bt279.2.2.1 bt286.1 bt286.2.1 bt286.2.2.1)))))) = some r := H
  have A8 := Aside0.mk A80
  clear A80
  replace H := Option.bind_eq_some_iff.mp H
  obtain ⟨⟨t279, t280, t281, t284⟩, A90, H⟩ := H
  replace H : ((series_Cut.f k t270 t271 t272 t277 t278).bind fun bt286 => ((series_Join.f k t279 t280 t281 bt286.1 bt286.2.1 bt286.2.2.1).bind fun bt293 => ((series_Cut.f k t270 t271 t272 0 (wrap64 (t277 + t278))).bind fun bt300 => (if t284 = 0 then (if bt286.2.2.2 = 0 then (if bt293.2.2.2 = 0 then (if bt300.2.2.2 = 0 then ((shapesearchref09_Same.f k bt293.1 bt293.2.1 bt293.2.2.1 bt300.1 bt300.2.1 bt300.2.2.1).bind fun t307 => (shapesearchlaw09_SeriesParts.j0 k a3 t277 t278 (!t307) t270 t271 t272 t279 t280 t281 bt286.1 bt286.2.1 bt286.2.2.1)) else (shapesearchlaw09_SeriesParts.j0 k a3 t277 t278 true t270 t271 t272 t279 t280 t281 bt286.1 bt286.2.1 bt286.2.2.1)) else (shapesearchlaw09_SeriesParts.j0 k a3 t277 t278 true t270 t271 t272 t279 t280 t281 bt286.1 bt286.2.1 bt286.2.2.1)) else (shapesearchlaw09_SeriesParts.j0 k a3 t277 t278 true t270 t271 t272 t279 t280 t281 bt286.1 bt286.2.1 bt286.2.2.1)) else (shapesearchlaw09_SeriesParts.j0 k a3 t277 t278 true t270 t271 t272 t279 t280 t281 bt286.1 bt286.2.1 bt286.2.2.1))))) = some r := H
  have A9 := Aside0.mk A90
  clear A90
  replace H := Option.bind_eq_some_iff.mp H
  obtain ⟨⟨t286, t287, t288, t291⟩, A100, H⟩ := H
  replace H : ((series_Join.f k t279 t280 t281 t286 t287 t288).bind fun bt293 => ((series_Cut.f k t270 t271 t272 0 (wrap64 (t277 + t278))).bind fun bt300 => (if t284 = 0 then (if t291 = 0 then (if bt293.2.2.2 = 0 then (if bt300.2.2.2 = 0 then ((shapesearchref09_Same.f k bt293.1 bt293.2.1 bt293.2.2.1 bt300.1 bt300.2.1 bt300.2.2.1).bind fun t307 => (shapesearchlaw09_SeriesParts.j0 k a3 t277 t278 (!t307) t270 t271 t272 t279 t280 t281 t286 t287 t288)) else (shapesearchlaw09_SeriesParts.j0 k a3 t277 t278 true t270 t271 t272 t279 t280 t281 t286 t287 t288)) else (shapesearchlaw09_SeriesParts.j0 k a3 t277 t278 true t270 t271 t272 t279 t280 t281 t286 t287 t288)) else (shapesearchlaw09_SeriesParts.j0 k a3 t277 t278 true t270 t271 t272 t279 t280 t281 t286 t287 t288)) else (shapesearchlaw09_SeriesParts.j0 k a3 t277 t278 true t270 t271 t272 t279 t280 t281 t286 t287 t288)))) = some r := H
  have A10 := Aside0.mk A100
  clear A100
  replace H := Option.bind_eq_some_iff.mp H
  obtain ⟨⟨t293, t294, t295, t298⟩, A110, H⟩ := H
  replace H : ((series_Cut.f k t270 t271 t272 0 (wrap64 (t277 + t278))).bind fun bt300 => (if t284 = 0 then (if t291 = 0 then (if t298 = 0 then (if bt300.2.2.2 = 0 then ((shapesearchref09_Same.f k t293 t294 t295 bt300.1 bt300.2.1 bt300.2.2.1).bind fun t307 => (shapesearchlaw09_SeriesParts.j0 k a3 t277 t278 (!t307) t270 t271 t272 t279 t280 t281 t286 t287 t288)) else (shapesearchlaw09_SeriesParts.j0 k a3 t277 t278 true t270 t271 t272 t279 t280 t281 t286 t287 t288)) else (shapesearchlaw09_SeriesParts.j0 k a3 t277 t278 true t270 t271 t272 t279 t280 t281 t286 t287 t288)) else (shapesearchlaw09_SeriesParts.j0 k a3 t277 t278 true t270 t271 t272 t279 t280 t281 t286 t287 t288)) else (shapesearchlaw09_SeriesParts.j0 k a3 t277 t278 true t270 t271 t272 t279 t280 t281 t286 t287 t288))) = some r := H
  have A11 := Aside0.mk A110
  clear A110
  replace H := Option.bind_eq_some_iff.mp H
  obtain ⟨⟨t300, t301, t302, t305⟩, A120, H⟩ := H
  replace H : (if t284 = 0 then (if t291 = 0 then (if t298 = 0 then (if t305 = 0 then ((shapesearchref09_Same.f k t293 t294 t295 t300 t301 t302).bind fun t307 => (shapesearchlaw09_SeriesParts.j0 k a3 t277 t278 (!t307) t270 t271 t272 t279 t280 t281 t286 t287 t288)) else (shapesearchlaw09_SeriesParts.j0 k a3 t277 t278 true t270 t271 t272 t279 t280 t281 t286 t287 t288)) else (shapesearchlaw09_SeriesParts.j0 k a3 t277 t278 true t270 t271 t272 t279 t280 t281 t286 t287 t288)) else (shapesearchlaw09_SeriesParts.j0 k a3 t277 t278 true t270 t271 t272 t279 t280 t281 t286 t287 t288)) else (shapesearchlaw09_SeriesParts.j0 k a3 t277 t278 true t270 t271 t272 t279 t280 t281 t286 t287 t288)) = some r := H
  have HT176 := H.trans (congrArg some hT.out)
  replace HT176 := shapesearchlaw09_SeriesParts.not_no (shapesearchlaw09_SeriesParts.j0_not _ _ _ _ _ _ _ _ _ _ _ _ _) HT176
  have K176_0 := Aside0.mk HT176.1
  replace HT176 := HT176.2
  replace HT176 := shapesearchlaw09_SeriesParts.not_no (shapesearchlaw09_SeriesParts.j0_not _ _ _ _ _ _ _ _ _ _ _ _ _) HT176
  have K176_1 := Aside0.mk HT176.1
  replace HT176 := HT176.2
  replace HT176 := shapesearchlaw09_SeriesParts.not_no (shapesearchlaw09_SeriesParts.j0_not _ _ _ _ _ _ _ _ _ _ _ _ _) HT176
  have K176_2 := Aside0.mk HT176.1
  replace HT176 := HT176.2
  replace HT176 := shapesearchlaw09_SeriesParts.not_no (shapesearchlaw09_SeriesParts.j0_not _ _ _ _ _ _ _ _ _ _ _ _ _) HT176
  have K176_3 := Aside0.mk HT176.1
  replace HT176 := HT176.2
  clear HT176
  have A12 := Aside0.mk A120
  clear A120
  have HC13 := Aside0.mk H
  clear H
  go_enter Try.func3, Try.ntmps3
  go_upto_region 8 with (first | ((with_reducible refine gate_callee (f := 6) rfl ?_); refine goesL_ (some 26) rfl rfl Try.func6 (by kernel_rfl) rfl #[.slice A0 l0.length c0] rfl (by (try simp only [List.map_toArray, List.map_cons, List.map_nil]); first | done | rfl | (simp only [List.length_drop, List.length_take]; rfl)) ?_; (with_reducible refine (shapesearchkeep_New.calls _ _ l0 t267 t268 w _ ?side1 ?side2 ?side3 A5.out).mono ?_); (case side1 => repeat (first | (with_reducible first | exact HB.out | apply below_alloc | apply pw_below_drewN | apply below_drew1) | exact HB.out)); (case side2 => exact HR0.out); (case side3 => exact HC0.out); rintro e w14 ⟨g269, rfl, hi, hb, hb2⟩; refine ⟨_, rfl, ?_⟩; have n0_ := Aside0.mk (hb); have n1_ := Aside0.mk (hi); clear HB; have HB := n0_; have HI269 := n1_; clear n0_ n1_; (try clear hb); (try clear hb2); (try clear hk); (try clear hi)) | ((with_reducible refine gate_callee (f := 7) rfl ?_); refine goesL_ (some 27) rfl rfl Try.func7 (by kernel_rfl) rfl #[.pointer (some ⟨g269, 0, none⟩), .int .i64 40] rfl (by (try simp only [List.map_toArray, List.map_cons, List.map_nil]); first | done | rfl | (simp only [List.length_drop, List.length_take]; rfl)) ?_; (with_reducible refine (shapesearchkeep_Src_Series.calls k g269 t267 t268 40 t270 t271 t272 t275 w _ ?side1 ?side2 A6.out).mono ?_); (case side1 => repeat (first | (with_reducible first | exact HI269.out | apply IsS52.alloc | apply IsS52.drewN | apply IsS52.drew | apply IsS52.set_1) | exact HI269.out)); (case side2 => repeat (first | (with_reducible first | exact HB.out | apply below_alloc | apply pw_below_drewN | apply below_drew1 | refine below_set ?_ (IsS52.ge HI269.out)) | exact HB.out)); rintro e w15 ⟨v273, rfl, ho0, hi, hb, hk⟩; refine ⟨_, rfl, ?_⟩; have n0_ := Aside0.mk (Kd.R_lower ho0 (below_size (by repeat (first | (with_reducible first | exact HB.out | apply below_alloc | apply pw_below_drewN | apply below_drew1 | refine below_set ?_ (IsS52.ge HI269.out)) | exact HB.out)))); have n1_ := Aside0.mk (hb); have n2_ := Aside0.mk (hi); clear HB; clear HI269; have HO274 := n0_; have HB := n1_; have HI269 := n2_; clear n0_ n1_ n2_; (try clear hb); (try clear hb2); (try clear hk); (try clear hi); (try clear ho0)) | ((with_reducible refine gate_dst (N := 9) rfl ?_); (try (refine gate_guard (by rfl) ?_; dsimp only)); refine box_event ?hg (N := 9) ?hd (cs := #[.int .i64 0, .int .i64 0, .slice none 0 0]) (t := 24) ?hr ?_; (case hd => rfl); (case hg => rfl); (case hr => first | (go_simp; done) | (go_simp; rfl)); intro gb276 hg w16 hbox hb; have n0_ := Aside0.mk (Kd.R_below (by (with_reducible repeat (first | apply Kd.R_alloc | apply Kd.R_drewN | apply Kd.R_drew)); exact HO274.out) hb); have n1_ := Aside0.mk (IsS52.below (by repeat (first | (with_reducible first | exact HI269.out | apply IsS52.alloc | apply IsS52.drewN | apply IsS52.drew | apply IsS52.set_1) | exact HI269.out)) hb); have n2_ := Aside0.mk (below_step (by repeat (first | (with_reducible first | exact HB.out | apply below_alloc | apply pw_below_drewN | apply below_drew1 | refine below_set ?_ (IsS52.ge HI269.out)) | exact HB.out)) hb); have n3_ := Aside0.mk (hbox); have n4_ := Aside0.mk ((by rw [hg]; exact (below_size (by repeat (first | (with_reducible first | exact HB.out | apply below_alloc | apply pw_below_drewN | apply below_drew1 | refine below_set ?_ (IsS52.ge HI269.out)) | exact HB.out))) : w.heap.size ≤ gb276)); have n5_ := Aside0.mk ((by rw [hg]; exact (below_size (by repeat (first | (with_reducible first | exact HB.out | apply below_alloc | apply pw_below_drewN | apply below_drew1 | refine below_set ?_ (IsS52.ge HI269.out)) | exact HB.out))) : w.heap.size ≤ gb276)); have n6_ := Aside0.mk ((by rw [hg]; exact Nat.ne_of_lt (IsS52.lt (show IsS52 w _ g269 t267 t275 from by repeat (first | (with_reducible first | exact HI269.out | apply IsS52.alloc | apply IsS52.drewN | apply IsS52.drew | apply IsS52.set_1) | exact HI269.out))) : g269 ≠ gb276)); have n7_ := Aside0.mk ((by rw [hg]; exact Nat.ne_of_gt (IsS52.lt (show IsS52 w _ g269 t267 t275 from by repeat (first | (with_reducible first | exact HI269.out | apply IsS52.alloc | apply IsS52.drewN | apply IsS52.drew | apply IsS52.set_1) | exact HI269.out))) : gb276 ≠ g269)); clear HO274; clear HI269; clear HB; have HO274 := n0_; have HI269 := n1_; have HB := n2_; have BK276 := n3_; have GW276 := n4_; have GE276 := n5_; have NB269_276 := n6_; have NB276_269 := n7_; clear n0_ n1_ n2_ n3_ n4_ n5_ n6_ n7_; clear hb hbox hg; have hnb17 := NB276_269.out; have hnc17 := NB269_276.out; have hcz18_0 : w16.cell? ⟨gb276, 0, none⟩ = some (.int .i64 0) := (blk_cell BK276.out 0).trans rfl; have hcz18_1 : w16.cell? ⟨gb276, 1, none⟩ = some (.int .i64 0) := (blk_cell BK276.out 1).trans rfl; have hcz18_2 : w16.cell? ⟨gb276, 2, none⟩ = some (.slice none 0 0) := (blk_cell BK276.out 2).trans rfl; have hfz18_0 := blk_frozen BK276.out 0; have hfz18_1 := blk_frozen BK276.out 1; have hfz18_2 := blk_frozen BK276.out 2; obtain ⟨Ao19, co19, eo19⟩ := Kd.R_slice HO274.out; subst eo19) | ((with_reducible refine gate_callee (f := 8) rfl ?_); refine goesL_ (some 34) rfl rfl Try.func8 (by kernel_rfl) rfl #[.int .i64 (wrap64 (a1)), .int .i64 (wrap64 ((t272.length : Int) + 1))] rfl (by (try simp only [List.map_toArray, List.map_cons, List.map_nil]); first | done | rfl | (simp only [List.length_drop, List.length_take]; rfl)) ?_; (with_reducible refine (shapesearchkeep_Mod.calls (wrap64 (a1)) (wrap64 ((t272.length : Int) + 1)) t277 _ A7.out).mono ?_); rintro e w' ⟨rfl, ⟨nd, rfl⟩⟩; refine ⟨_, rfl, ?_⟩) | ((with_reducible refine gate_callee (f := 8) rfl ?_); refine goesL_ (some 43) rfl rfl Try.func8 (by kernel_rfl) rfl #[.int .i64 (wrap64 (a2)), .int .i64 (wrap64 ((wrap64 ((t272.length : Int) - t277)) + 1))] rfl (by (try simp only [List.map_toArray, List.map_cons, List.map_nil]); first | done | rfl | (simp only [List.length_drop, List.length_take]; rfl)) ?_; (with_reducible refine (shapesearchkeep_Mod.calls (wrap64 (a2)) (wrap64 ((wrap64 ((t272.length : Int) - t277)) + 1)) t278 _ A8.out).mono ?_); rintro e w' ⟨rfl, ⟨nd, rfl⟩⟩; refine ⟨_, rfl, ?_⟩) | ((with_reducible refine gate_callee (f := 9) rfl ?_); refine goesL_ (some 47) rfl rfl Try.func9 (by kernel_rfl) rfl #[.agg #[.int .i64 t270, .int .i64 t271, .slice Ao19 t272.length co19], .int .i64 0, .int .i64 t277] rfl (by (try simp only [List.map_toArray, List.map_cons, List.map_nil]); first | done | rfl | (simp only [List.length_drop, List.length_take]; rfl)) ?_; (with_reducible refine (series_Cut.calls k t270 t271 _ _ t272 0 t277 t279 t280 t281 t284 _ ?side1 ?side2 A9.out).mono ?_); (case side1 => refine (Kd.R_reads' (e := 3) (base := w.heap.size) (ok := fun k_ => True) (n := t272.length) (c := co19) ?_).2.2; exact (by (with_reducible repeat (first | apply Kd.R_alloc | apply Kd.R_drewN | apply Kd.R_drew)); exact (Kd.R_mono (Kd.R_far (p := ⟨gb276, 2, none⟩) (Kd.R_far (p := ⟨gb276, 1, none⟩) (Kd.R_far (p := ⟨gb276, 0, none⟩) (Kd.R_types HO274.out BK276.out (by decide)) (fun _ hk => hk.2) (.int .i64 t270)) (fun _ hk => hk.2) (.int .i64 t271)) (fun _ hk => hk.2) (.slice Ao19 t272.length co19)) (fun _ h_ => h_.1)))); (case side2 => exact (Kd.R_reads' HO274.out).2.1); rintro e w20 ⟨v282, rfl, ho0, hb⟩; refine ⟨_, rfl, ?_⟩; have n0_ := Aside0.mk (Kd.R_elder' (by (with_reducible repeat (first | apply Kd.R_alloc | apply Kd.R_drewN | apply Kd.R_drew)); exact (Kd.R_mono (Kd.R_far (p := ⟨gb276, 2, none⟩) (Kd.R_far (p := ⟨gb276, 1, none⟩) (Kd.R_far (p := ⟨gb276, 0, none⟩) (Kd.R_types HO274.out BK276.out (by decide)) (fun _ hk => hk.2) (.int .i64 t270)) (fun _ hk => hk.2) (.int .i64 t271)) (fun _ hk => hk.2) (.slice Ao19 t272.length co19)) (fun _ h_ => h_.1))) (Kd.R_base ho0) hb); have n1_ := Aside0.mk (Kd.R_lower (Kd.R_new' ho0 (Kd.R_lt (by (with_reducible repeat (first | apply Kd.R_alloc | apply Kd.R_drewN | apply Kd.R_drew)); exact (Kd.R_mono (Kd.R_far (p := ⟨gb276, 2, none⟩) (Kd.R_far (p := ⟨gb276, 1, none⟩) (Kd.R_far (p := ⟨gb276, 0, none⟩) (Kd.R_types HO274.out BK276.out (by decide)) (fun _ hk => hk.2) (.int .i64 t270)) (fun _ hk => hk.2) (.int .i64 t271)) (fun _ hk => hk.2) (.slice Ao19 t272.length co19)) (fun _ h_ => h_.1))))) (below_size (by repeat (first | (with_reducible first | exact HB.out | apply below_alloc | apply pw_below_drewN | apply below_drew1 | refine below_set ?_ (IsS52.ge HI269.out) | refine below_set ?_ GE276.out) | exact HB.out)))); have n2_ := Aside0.mk (IsS52.below (show IsS52 w _ g269 t267 t275 from by repeat (first | (with_reducible first | exact HI269.out | apply IsS52.alloc | apply IsS52.drewN | apply IsS52.drew | apply IsS52.set_1 | refine IsS52.far ?_ NB269_276.out _) | exact HI269.out)) hb); have n3_ := Aside0.mk (blk_below (g := gb276) (o := .cells #[.int .i64 t270, .int .i64 t271, .slice Ao19 t272.length co19] 24 (0, 0)) (by (with_reducible repeat (first | refine blk_drewN ?_ _ | refine blk_drew ?_ | refine blk_alloc ?_ _)); refine blk_put (cs := #[.int .i64 t270, .int .i64 t271, .slice none 0 0]) ?_ 2 _ rfl; (with_reducible repeat (first | refine blk_drewN ?_ _ | refine blk_drew ?_ | refine blk_alloc ?_ _)); refine blk_put (cs := #[.int .i64 t270, .int .i64 0, .slice none 0 0]) ?_ 1 _ rfl; (with_reducible repeat (first | refine blk_drewN ?_ _ | refine blk_drew ?_ | refine blk_alloc ?_ _)); refine blk_put (cs := #[.int .i64 0, .int .i64 0, .slice none 0 0]) ?_ 0 _ rfl; (with_reducible repeat (first | refine blk_drewN ?_ _ | refine blk_drew ?_ | refine blk_alloc ?_ _)); exact BK276.out) hb); have n4_ := Aside0.mk (below_step (by repeat (first | (with_reducible first | exact HB.out | apply below_alloc | apply pw_below_drewN | apply below_drew1 | refine below_set ?_ (IsS52.ge HI269.out) | refine below_set ?_ GE276.out) | exact HB.out)) hb); clear HO274; clear HI269; clear BK276; clear HB; have HO274 := n0_; have HO283 := n1_; have HI269 := n2_; have BK276 := n3_; have HB := n4_; clear n0_ n1_ n2_ n3_ n4_; (try clear hb); (try clear hb2); (try clear hk); (try clear hi); (try clear ho0)) | ((with_reducible refine gate_dst (N := 12) rfl ?_); (try (refine gate_guard (by rfl) ?_; dsimp only)); refine box_event ?hg (N := 12) ?hd (cs := #[.int .i64 0, .int .i64 0, .slice none 0 0]) (t := 24) ?hr ?_; (case hd => rfl); (case hg => rfl); (case hr => first | (go_simp; done) | (go_simp; rfl)); intro gb285 hg w21 hbox hb; have n0_ := Aside0.mk (Kd.R_below (by (with_reducible repeat (first | apply Kd.R_alloc | apply Kd.R_drewN | apply Kd.R_drew)); exact HO274.out) hb); have n1_ := Aside0.mk (Kd.R_below (by (with_reducible repeat (first | apply Kd.R_alloc | apply Kd.R_drewN | apply Kd.R_drew)); exact HO283.out) hb); have n2_ := Aside0.mk (IsS52.below (by repeat (first | (with_reducible first | exact HI269.out | apply IsS52.alloc | apply IsS52.drewN | apply IsS52.drew | apply IsS52.set_1 | refine IsS52.far ?_ NB269_276.out _) | exact HI269.out)) hb); have n3_ := Aside0.mk (blk_below (g := gb276) (o := .cells #[.int .i64 t270, .int .i64 t271, .slice Ao19 t272.length co19] 24 (0, 0)) (by (with_reducible repeat (first | refine blk_drewN ?_ _ | refine blk_drew ?_ | refine blk_alloc ?_ _)); exact BK276.out) hb); have n4_ := Aside0.mk (below_step (by repeat (first | (with_reducible first | exact HB.out | apply below_alloc | apply pw_below_drewN | apply below_drew1 | refine below_set ?_ (IsS52.ge HI269.out) | refine below_set ?_ GE276.out) | exact HB.out)) hb); have n5_ := Aside0.mk (hbox); have n6_ := Aside0.mk ((by rw [hg]; exact (below_size (by repeat (first | (with_reducible first | exact HB.out | apply below_alloc | apply pw_below_drewN | apply below_drew1 | refine below_set ?_ (IsS52.ge HI269.out) | refine below_set ?_ GE276.out) | exact HB.out))) : w.heap.size ≤ gb285)); have n7_ := Aside0.mk ((by rw [hg]; exact (below_size (by repeat (first | (with_reducible first | exact HB.out | apply below_alloc | apply pw_below_drewN | apply below_drew1 | refine below_set ?_ (IsS52.ge HI269.out) | refine below_set ?_ GE276.out) | exact HB.out))) : w.heap.size ≤ gb285)); have n8_ := Aside0.mk ((by rw [hg]; exact Nat.ne_of_lt (blk_lt (g := gb276) (o := .cells #[.int .i64 t270, .int .i64 t271, .slice Ao19 t272.length co19] 24 (0, 0)) (by (with_reducible repeat (first | refine blk_drewN ?_ _ | refine blk_drew ?_ | refine blk_alloc ?_ _)); exact BK276.out)) : gb276 ≠ gb285)); have n9_ := Aside0.mk ((by rw [hg]; exact Nat.ne_of_gt (blk_lt (g := gb276) (o := .cells #[.int .i64 t270, .int .i64 t271, .slice Ao19 t272.length co19] 24 (0, 0)) (by (with_reducible repeat (first | refine blk_drewN ?_ _ | refine blk_drew ?_ | refine blk_alloc ?_ _)); exact BK276.out)) : gb285 ≠ gb276)); have n10_ := Aside0.mk ((by rw [hg]; exact Nat.ne_of_lt (IsS52.lt (show IsS52 w _ g269 t267 t275 from by repeat (first | (with_reducible first | exact HI269.out | apply IsS52.alloc | apply IsS52.drewN | apply IsS52.drew | apply IsS52.set_1 | refine IsS52.far ?_ NB269_276.out _) | exact HI269.out))) : g269 ≠ gb285)); have n11_ := Aside0.mk ((by rw [hg]; exact Nat.ne_of_gt (IsS52.lt (show IsS52 w _ g269 t267 t275 from by repeat (first | (with_reducible first | exact HI269.out | apply IsS52.alloc | apply IsS52.drewN | apply IsS52.drew | apply IsS52.set_1 | refine IsS52.far ?_ NB269_276.out _) | exact HI269.out))) : gb285 ≠ g269)); clear HO274; clear HO283; clear HI269; clear BK276; clear HB; have HO274 := n0_; have HO283 := n1_; have HI269 := n2_; have BK276 := n3_; have HB := n4_; have BK285 := n5_; have GW285 := n6_; have GE285 := n7_; have NB276_285 := n8_; have NB285_276 := n9_; have NB269_285 := n10_; have NB285_269 := n11_; clear n0_ n1_ n2_ n3_ n4_ n5_ n6_ n7_ n8_ n9_ n10_ n11_; clear hb hbox hg; have hnb22 := NB285_276.out; have hnc22 := NB276_285.out; have hnb23 := NB285_269.out; have hnc23 := NB269_285.out; have hcz24_0 : w21.cell? ⟨gb285, 0, none⟩ = some (.int .i64 0) := (blk_cell BK285.out 0).trans rfl; have hcz24_1 : w21.cell? ⟨gb285, 1, none⟩ = some (.int .i64 0) := (blk_cell BK285.out 1).trans rfl; have hcz24_2 : w21.cell? ⟨gb285, 2, none⟩ = some (.slice none 0 0) := (blk_cell BK285.out 2).trans rfl; have hfz24_0 := blk_frozen BK285.out 0; have hfz24_1 := blk_frozen BK285.out 1; have hfz24_2 := blk_frozen BK285.out 2; obtain ⟨Ao25, co25, eo25⟩ := Kd.R_slice HO283.out; subst eo25; have hcz26_0 : w21.cell? ⟨gb276, 0, none⟩ = some (.int .i64 t270) := (blk_cell BK276.out 0).trans rfl; have hcz26_1 : w21.cell? ⟨gb276, 1, none⟩ = some (.int .i64 t271) := (blk_cell BK276.out 1).trans rfl; have hcz26_2 : w21.cell? ⟨gb276, 2, none⟩ = some (.slice Ao19 t272.length co19) := (blk_cell BK276.out 2).trans rfl; have hfz26_0 := blk_frozen BK276.out 0; have hfz26_1 := blk_frozen BK276.out 1; have hfz26_2 := blk_frozen BK276.out 2) | ((with_reducible refine gate_callee (f := 9) rfl ?_); refine goesL_ (some 54) rfl rfl Try.func9 (by kernel_rfl) rfl #[.agg #[.int .i64 t270, .int .i64 t271, .slice Ao19 t272.length co19], .int .i64 t277, .int .i64 t278] rfl (by (try simp only [List.map_toArray, List.map_cons, List.map_nil]); first | done | rfl | (simp only [List.length_drop, List.length_take]; rfl)) ?_; (with_reducible refine (series_Cut.calls k t270 t271 _ _ t272 t277 t278 t286 t287 t288 t291 _ ?side1 ?side2 A10.out).mono ?_); (case side1 => refine (Kd.R_reads' (e := 3) (base := w.heap.size) (ok := fun k_ => (True ∧ some k_ ≠ (.slice Ao25 t281.length co25 : Value).ownBlock)) (n := t272.length) (c := co19) ?_).2.2; exact (by (with_reducible repeat (first | apply Kd.R_alloc | apply Kd.R_drewN | apply Kd.R_drew)); exact (Kd.R_mono (Kd.R_far (p := ⟨gb285, 2, none⟩) (Kd.R_far (p := ⟨gb285, 1, none⟩) (Kd.R_far (p := ⟨gb285, 0, none⟩) (Kd.R_types HO274.out BK285.out (by decide)) (fun _ hk => hk.2) (.int .i64 t279)) (fun _ hk => hk.2) (.int .i64 t280)) (fun _ hk => hk.2) (.slice Ao25 t281.length co25)) (fun _ h_ => h_.1)))); (case side2 => exact (Kd.R_reads' HO274.out).2.1); rintro e w27 ⟨v289, rfl, ho0, hb⟩; refine ⟨_, rfl, ?_⟩; have n0_ := Aside0.mk (Kd.R_elder' (by (with_reducible repeat (first | apply Kd.R_alloc | apply Kd.R_drewN | apply Kd.R_drew)); exact (Kd.R_mono (Kd.R_far (p := ⟨gb285, 2, none⟩) (Kd.R_far (p := ⟨gb285, 1, none⟩) (Kd.R_far (p := ⟨gb285, 0, none⟩) (Kd.R_types HO274.out BK285.out (by decide)) (fun _ hk => hk.2) (.int .i64 t279)) (fun _ hk => hk.2) (.int .i64 t280)) (fun _ hk => hk.2) (.slice Ao25 t281.length co25)) (fun _ h_ => h_.1))) (Kd.R_base ho0) hb); have n1_ := Aside0.mk (Kd.R_elder' (by (with_reducible repeat (first | apply Kd.R_alloc | apply Kd.R_drewN | apply Kd.R_drew)); exact (Kd.R_mono (Kd.R_far (p := ⟨gb285, 2, none⟩) (Kd.R_far (p := ⟨gb285, 1, none⟩) (Kd.R_far (p := ⟨gb285, 0, none⟩) (Kd.R_types HO283.out BK285.out (by decide)) (fun _ hk => hk.2) (.int .i64 t279)) (fun _ hk => hk.2) (.int .i64 t280)) (fun _ hk => hk.2) (.slice Ao25 t281.length co25)) (fun _ h_ => h_.1))) (Kd.R_base ho0) hb); have n2_ := Aside0.mk (Kd.R_lower (Kd.R_new' (Kd.R_new' ho0 (Kd.R_lt (by (with_reducible repeat (first | apply Kd.R_alloc | apply Kd.R_drewN | apply Kd.R_drew)); exact (Kd.R_mono (Kd.R_far (p := ⟨gb285, 2, none⟩) (Kd.R_far (p := ⟨gb285, 1, none⟩) (Kd.R_far (p := ⟨gb285, 0, none⟩) (Kd.R_types HO274.out BK285.out (by decide)) (fun _ hk => hk.2) (.int .i64 t279)) (fun _ hk => hk.2) (.int .i64 t280)) (fun _ hk => hk.2) (.slice Ao25 t281.length co25)) (fun _ h_ => h_.1))))) (Kd.R_lt (by (with_reducible repeat (first | apply Kd.R_alloc | apply Kd.R_drewN | apply Kd.R_drew)); exact (Kd.R_mono (Kd.R_far (p := ⟨gb285, 2, none⟩) (Kd.R_far (p := ⟨gb285, 1, none⟩) (Kd.R_far (p := ⟨gb285, 0, none⟩) (Kd.R_types HO283.out BK285.out (by decide)) (fun _ hk => hk.2) (.int .i64 t279)) (fun _ hk => hk.2) (.int .i64 t280)) (fun _ hk => hk.2) (.slice Ao25 t281.length co25)) (fun _ h_ => h_.1))))) (below_size (by repeat (first | (with_reducible first | exact HB.out | apply below_alloc | apply pw_below_drewN | apply below_drew1 | refine below_set ?_ (IsS52.ge HI269.out) | refine below_set ?_ GE276.out | refine below_set ?_ GE285.out) | exact HB.out)))); have n3_ := Aside0.mk (IsS52.below (show IsS52 w _ g269 t267 t275 from by repeat (first | (with_reducible first | exact HI269.out | apply IsS52.alloc | apply IsS52.drewN | apply IsS52.drew | apply IsS52.set_1 | refine IsS52.far ?_ NB269_276.out _ | refine IsS52.far ?_ NB269_285.out _) | exact HI269.out)) hb); have n4_ := Aside0.mk (blk_below (g := gb276) (o := .cells #[.int .i64 t270, .int .i64 t271, .slice Ao19 t272.length co19] 24 (0, 0)) (by (with_reducible repeat (first | refine blk_drewN ?_ _ | refine blk_drew ?_ | refine blk_alloc ?_ _)); refine blk_far ?_ NB276_285.out _; (with_reducible repeat (first | refine blk_drewN ?_ _ | refine blk_drew ?_ | refine blk_alloc ?_ _)); refine blk_far ?_ NB276_285.out _; (with_reducible repeat (first | refine blk_drewN ?_ _ | refine blk_drew ?_ | refine blk_alloc ?_ _)); refine blk_far ?_ NB276_285.out _; (with_reducible repeat (first | refine blk_drewN ?_ _ | refine blk_drew ?_ | refine blk_alloc ?_ _)); exact BK276.out) hb); have n5_ := Aside0.mk (blk_below (g := gb285) (o := .cells #[.int .i64 t279, .int .i64 t280, .slice Ao25 t281.length co25] 24 (0, 0)) (by (with_reducible repeat (first | refine blk_drewN ?_ _ | refine blk_drew ?_ | refine blk_alloc ?_ _)); refine blk_put (cs := #[.int .i64 t279, .int .i64 t280, .slice none 0 0]) ?_ 2 _ rfl; (with_reducible repeat (first | refine blk_drewN ?_ _ | refine blk_drew ?_ | refine blk_alloc ?_ _)); refine blk_put (cs := #[.int .i64 t279, .int .i64 0, .slice none 0 0]) ?_ 1 _ rfl; (with_reducible repeat (first | refine blk_drewN ?_ _ | refine blk_drew ?_ | refine blk_alloc ?_ _)); refine blk_put (cs := #[.int .i64 0, .int .i64 0, .slice none 0 0]) ?_ 0 _ rfl; (with_reducible repeat (first | refine blk_drewN ?_ _ | refine blk_drew ?_ | refine blk_alloc ?_ _)); exact BK285.out) hb); have n6_ := Aside0.mk (below_step (by repeat (first | (with_reducible first | exact HB.out | apply below_alloc | apply pw_below_drewN | apply below_drew1 | refine below_set ?_ (IsS52.ge HI269.out) | refine below_set ?_ GE276.out | refine below_set ?_ GE285.out) | exact HB.out)) hb); clear HO274; clear HO283; clear HI269; clear BK276; clear BK285; clear HB; have HO274 := n0_; have HO283 := n1_; have HO290 := n2_; have HI269 := n3_; have BK276 := n4_; have BK285 := n5_; have HB := n6_; clear n0_ n1_ n2_ n3_ n4_ n5_ n6_; (try clear hb); (try clear hb2); (try clear hk); (try clear hi); (try clear ho0)) | ((with_reducible refine gate_dst (N := 14) rfl ?_); (try (refine gate_guard (by rfl) ?_; dsimp only)); refine box_event ?hg (N := 14) ?hd (cs := #[.int .i64 0, .int .i64 0, .slice none 0 0]) (t := 24) ?hr ?_; (case hd => rfl); (case hg => rfl); (case hr => first | (go_simp; done) | (go_simp; rfl)); intro gb292 hg w28 hbox hb; have n0_ := Aside0.mk (Kd.R_below (by (with_reducible repeat (first | apply Kd.R_alloc | apply Kd.R_drewN | apply Kd.R_drew)); exact HO274.out) hb); have n1_ := Aside0.mk (Kd.R_below (by (with_reducible repeat (first | apply Kd.R_alloc | apply Kd.R_drewN | apply Kd.R_drew)); exact HO283.out) hb); have n2_ := Aside0.mk (Kd.R_below (by (with_reducible repeat (first | apply Kd.R_alloc | apply Kd.R_drewN | apply Kd.R_drew)); exact HO290.out) hb); have n3_ := Aside0.mk (IsS52.below (by repeat (first | (with_reducible first | exact HI269.out | apply IsS52.alloc | apply IsS52.drewN | apply IsS52.drew | apply IsS52.set_1 | refine IsS52.far ?_ NB269_276.out _ | refine IsS52.far ?_ NB269_285.out _) | exact HI269.out)) hb); have n4_ := Aside0.mk (blk_below (g := gb276) (o := .cells #[.int .i64 t270, .int .i64 t271, .slice Ao19 t272.length co19] 24 (0, 0)) (by (with_reducible repeat (first | refine blk_drewN ?_ _ | refine blk_drew ?_ | refine blk_alloc ?_ _)); exact BK276.out) hb); have n5_ := Aside0.mk (blk_below (g := gb285) (o := .cells #[.int .i64 t279, .int .i64 t280, .slice Ao25 t281.length co25] 24 (0, 0)) (by (with_reducible repeat (first | refine blk_drewN ?_ _ | refine blk_drew ?_ | refine blk_alloc ?_ _)); exact BK285.out) hb); have n6_ := Aside0.mk (below_step (by repeat (first | (with_reducible first | exact HB.out | apply below_alloc | apply pw_below_drewN | apply below_drew1 | refine below_set ?_ (IsS52.ge HI269.out) | refine below_set ?_ GE276.out | refine below_set ?_ GE285.out) | exact HB.out)) hb); have n7_ := Aside0.mk (hbox); have n8_ := Aside0.mk ((by rw [hg]; exact (below_size (by repeat (first | (with_reducible first | exact HB.out | apply below_alloc | apply pw_below_drewN | apply below_drew1 | refine below_set ?_ (IsS52.ge HI269.out) | refine below_set ?_ GE276.out | refine below_set ?_ GE285.out) | exact HB.out))) : w.heap.size ≤ gb292)); have n9_ := Aside0.mk ((by rw [hg]; exact (below_size (by repeat (first | (with_reducible first | exact HB.out | apply below_alloc | apply pw_below_drewN | apply below_drew1 | refine below_set ?_ (IsS52.ge HI269.out) | refine below_set ?_ GE276.out | refine below_set ?_ GE285.out) | exact HB.out))) : w.heap.size ≤ gb292)); have n10_ := Aside0.mk ((by rw [hg]; exact Nat.ne_of_lt (blk_lt (g := gb276) (o := .cells #[.int .i64 t270, .int .i64 t271, .slice Ao19 t272.length co19] 24 (0, 0)) (by (with_reducible repeat (first | refine blk_drewN ?_ _ | refine blk_drew ?_ | refine blk_alloc ?_ _)); exact BK276.out)) : gb276 ≠ gb292)); have n11_ := Aside0.mk ((by rw [hg]; exact Nat.ne_of_gt (blk_lt (g := gb276) (o := .cells #[.int .i64 t270, .int .i64 t271, .slice Ao19 t272.length co19] 24 (0, 0)) (by (with_reducible repeat (first | refine blk_drewN ?_ _ | refine blk_drew ?_ | refine blk_alloc ?_ _)); exact BK276.out)) : gb292 ≠ gb276)); have n12_ := Aside0.mk ((by rw [hg]; exact Nat.ne_of_lt (blk_lt (g := gb285) (o := .cells #[.int .i64 t279, .int .i64 t280, .slice Ao25 t281.length co25] 24 (0, 0)) (by (with_reducible repeat (first | refine blk_drewN ?_ _ | refine blk_drew ?_ | refine blk_alloc ?_ _)); exact BK285.out)) : gb285 ≠ gb292)); have n13_ := Aside0.mk ((by rw [hg]; exact Nat.ne_of_gt (blk_lt (g := gb285) (o := .cells #[.int .i64 t279, .int .i64 t280, .slice Ao25 t281.length co25] 24 (0, 0)) (by (with_reducible repeat (first | refine blk_drewN ?_ _ | refine blk_drew ?_ | refine blk_alloc ?_ _)); exact BK285.out)) : gb292 ≠ gb285)); have n14_ := Aside0.mk ((by rw [hg]; exact Nat.ne_of_lt (IsS52.lt (show IsS52 w _ g269 t267 t275 from by repeat (first | (with_reducible first | exact HI269.out | apply IsS52.alloc | apply IsS52.drewN | apply IsS52.drew | apply IsS52.set_1 | refine IsS52.far ?_ NB269_276.out _ | refine IsS52.far ?_ NB269_285.out _) | exact HI269.out))) : g269 ≠ gb292)); have n15_ := Aside0.mk ((by rw [hg]; exact Nat.ne_of_gt (IsS52.lt (show IsS52 w _ g269 t267 t275 from by repeat (first | (with_reducible first | exact HI269.out | apply IsS52.alloc | apply IsS52.drewN | apply IsS52.drew | apply IsS52.set_1 | refine IsS52.far ?_ NB269_276.out _ | refine IsS52.far ?_ NB269_285.out _) | exact HI269.out))) : gb292 ≠ g269)); clear HO274; clear HO283; clear HO290; clear HI269; clear BK276; clear BK285; clear HB; have HO274 := n0_; have HO283 := n1_; have HO290 := n2_; have HI269 := n3_; have BK276 := n4_; have BK285 := n5_; have HB := n6_; have BK292 := n7_; have GW292 := n8_; have GE292 := n9_; have NB276_292 := n10_; have NB292_276 := n11_; have NB285_292 := n12_; have NB292_285 := n13_; have NB269_292 := n14_; have NB292_269 := n15_; clear n0_ n1_ n2_ n3_ n4_ n5_ n6_ n7_ n8_ n9_ n10_ n11_ n12_ n13_ n14_ n15_; clear hb hbox hg; have hnb29 := NB292_276.out; have hnc29 := NB276_292.out; have hnb30 := NB292_285.out; have hnc30 := NB285_292.out; have hnb31 := NB292_269.out; have hnc31 := NB269_292.out; have hcz32_0 : w28.cell? ⟨gb292, 0, none⟩ = some (.int .i64 0) := (blk_cell BK292.out 0).trans rfl; have hcz32_1 : w28.cell? ⟨gb292, 1, none⟩ = some (.int .i64 0) := (blk_cell BK292.out 1).trans rfl; have hcz32_2 : w28.cell? ⟨gb292, 2, none⟩ = some (.slice none 0 0) := (blk_cell BK292.out 2).trans rfl; have hfz32_0 := blk_frozen BK292.out 0; have hfz32_1 := blk_frozen BK292.out 1; have hfz32_2 := blk_frozen BK292.out 2; obtain ⟨Ao33, co33, eo33⟩ := Kd.R_slice HO290.out; subst eo33) | ((with_reducible refine gate_store (t := 24) (p := 14) rfl ?_); refine store_event (t := 24) (p := 14) (v := ?vo_w34) (w1 := (((w28.setCell ⟨gb292, 0, none⟩ (.int .i64 t286)).setCell ⟨gb292, 1, none⟩ (.int .i64 t287)).setCell ⟨gb292, 2, none⟩ (.slice Ao33 t288.length co33))) ?hg ?ho ?hn ?hr ?_; (case ho => rfl); (case hg => rfl); (case hn => rfl); (case hr => first | (go_simp; done) | (go_simp; rfl)); intro w34 hw; have n0_ : Aside0 (Kd.R (Kd.int .i64) 3 w34 w.heap.size (fun k_ => some k_ ≠ (.slice Ao25 t281.length co25 : Value).ownBlock ∧ some k_ ≠ (.slice Ao33 t288.length co33 : Value).ownBlock) (.slice Ao19 t272.length co19) t272) := ⟨(by rw [hw]; exact (by (with_reducible repeat (first | apply Kd.R_alloc | apply Kd.R_drewN | apply Kd.R_drew)); exact Kd.R_mono (Kd.R_far (p := ⟨gb292, 2, none⟩) (Kd.R_far (p := ⟨gb292, 1, none⟩) (Kd.R_far (p := ⟨gb292, 0, none⟩) (Kd.R_types HO274.out BK292.out (by decide)) (fun _ hk => hk.2) (.int .i64 t286)) (fun _ hk => hk.2) (.int .i64 t287)) (fun _ hk => hk.2) (.slice Ao33 t288.length co33)) (fun _ hk => ⟨hk.1.1.2, hk.1.2⟩)))⟩; have n1_ : Aside0 (Kd.R (Kd.int .i64) 3 w34 w.heap.size (fun k_ => some k_ ≠ (.slice Ao19 t272.length co19 : Value).ownBlock ∧ some k_ ≠ (.slice Ao33 t288.length co33 : Value).ownBlock) (.slice Ao25 t281.length co25) t281) := ⟨(by rw [hw]; exact (by (with_reducible repeat (first | apply Kd.R_alloc | apply Kd.R_drewN | apply Kd.R_drew)); exact Kd.R_mono (Kd.R_far (p := ⟨gb292, 2, none⟩) (Kd.R_far (p := ⟨gb292, 1, none⟩) (Kd.R_far (p := ⟨gb292, 0, none⟩) (Kd.R_types HO283.out BK292.out (by decide)) (fun _ hk => hk.2) (.int .i64 t286)) (fun _ hk => hk.2) (.int .i64 t287)) (fun _ hk => hk.2) (.slice Ao33 t288.length co33)) (fun _ hk => ⟨hk.1.1.2, hk.1.2⟩)))⟩; have n2_ : Aside0 (Kd.R (Kd.int .i64) 3 w34 w.heap.size (fun k_ => some k_ ≠ (.slice Ao19 t272.length co19 : Value).ownBlock ∧ some k_ ≠ (.slice Ao25 t281.length co25 : Value).ownBlock) (.slice Ao33 t288.length co33) t288) := ⟨(by rw [hw]; exact (by (with_reducible repeat (first | apply Kd.R_alloc | apply Kd.R_drewN | apply Kd.R_drew)); exact Kd.R_mono (Kd.R_far (p := ⟨gb292, 2, none⟩) (Kd.R_far (p := ⟨gb292, 1, none⟩) (Kd.R_far (p := ⟨gb292, 0, none⟩) (Kd.R_types HO290.out BK292.out (by decide)) (fun _ hk => hk.2) (.int .i64 t286)) (fun _ hk => hk.2) (.int .i64 t287)) (fun _ hk => hk.2) (.slice Ao33 t288.length co33)) (fun _ hk => ⟨hk.1.1.2, hk.1.2⟩)))⟩; have n3_ : Aside0 (w34.heap[gb276]? = some (.cells #[.int .i64 t270, .int .i64 t271, .slice Ao19 t272.length co19] 24 (0, 0))) := ⟨(by rw [hw]; exact (by (with_reducible repeat (first | refine blk_drewN ?_ _ | refine blk_drew ?_ | refine blk_alloc ?_ _)); refine blk_far ?_ NB276_292.out _; (with_reducible repeat (first | refine blk_drewN ?_ _ | refine blk_drew ?_ | refine blk_alloc ?_ _)); refine blk_far ?_ NB276_292.out _; (with_reducible repeat (first | refine blk_drewN ?_ _ | refine blk_drew ?_ | refine blk_alloc ?_ _)); refine blk_far ?_ NB276_292.out _; (with_reducible repeat (first | refine blk_drewN ?_ _ | refine blk_drew ?_ | refine blk_alloc ?_ _)); exact BK276.out))⟩; have n4_ : Aside0 (w34.heap[gb285]? = some (.cells #[.int .i64 t279, .int .i64 t280, .slice Ao25 t281.length co25] 24 (0, 0))) := ⟨(by rw [hw]; exact (by (with_reducible repeat (first | refine blk_drewN ?_ _ | refine blk_drew ?_ | refine blk_alloc ?_ _)); refine blk_far ?_ NB285_292.out _; (with_reducible repeat (first | refine blk_drewN ?_ _ | refine blk_drew ?_ | refine blk_alloc ?_ _)); refine blk_far ?_ NB285_292.out _; (with_reducible repeat (first | refine blk_drewN ?_ _ | refine blk_drew ?_ | refine blk_alloc ?_ _)); refine blk_far ?_ NB285_292.out _; (with_reducible repeat (first | refine blk_drewN ?_ _ | refine blk_drew ?_ | refine blk_alloc ?_ _)); exact BK285.out))⟩; have n5_ : Aside0 (w34.heap[gb292]? = some (.cells #[.int .i64 t286, .int .i64 t287, .slice Ao33 t288.length co33] 24 (0, 0))) := ⟨(by rw [hw]; exact (by (with_reducible repeat (first | refine blk_drewN ?_ _ | refine blk_drew ?_ | refine blk_alloc ?_ _)); refine blk_put (cs := #[.int .i64 t286, .int .i64 t287, .slice none 0 0]) ?_ 2 _ rfl; (with_reducible repeat (first | refine blk_drewN ?_ _ | refine blk_drew ?_ | refine blk_alloc ?_ _)); refine blk_put (cs := #[.int .i64 t286, .int .i64 0, .slice none 0 0]) ?_ 1 _ rfl; (with_reducible repeat (first | refine blk_drewN ?_ _ | refine blk_drew ?_ | refine blk_alloc ?_ _)); refine blk_put (cs := #[.int .i64 0, .int .i64 0, .slice none 0 0]) ?_ 0 _ rfl; (with_reducible repeat (first | refine blk_drewN ?_ _ | refine blk_drew ?_ | refine blk_alloc ?_ _)); exact BK292.out))⟩; have n6_ : Aside0 (IsS52 w w34 g269 t267 t275) := ⟨(by rw [hw]; exact (by repeat (first | (with_reducible first | exact HI269.out | apply IsS52.alloc | apply IsS52.drewN | apply IsS52.drew | apply IsS52.set_1 | refine IsS52.far ?_ NB269_276.out _ | refine IsS52.far ?_ NB269_285.out _ | refine IsS52.far ?_ NB269_292.out _) | exact HI269.out)))⟩; have n7_ : Aside0 (Below w.heap.size w w34) := ⟨(by rw [hw]; exact (by repeat (first | (with_reducible first | exact HB.out | apply below_alloc | apply pw_below_drewN | apply below_drew1 | refine below_set ?_ (IsS52.ge HI269.out) | refine below_set ?_ GE276.out | refine below_set ?_ GE285.out | refine below_set ?_ GE292.out) | exact HB.out)))⟩; clear hw; clear HO274; clear HO283; clear HO290; clear BK276; clear BK285; clear BK292; clear HI269; clear HB; have HO274 := n0_; have HO283 := n1_; have HO290 := n2_; have BK276 := n3_; have BK285 := n4_; have BK292 := n5_; have HI269 := n6_; have HB := n7_; clear n0_ n1_ n2_ n3_ n4_ n5_ n6_ n7_; have hcz35_0 : w34.cell? ⟨gb285, 0, none⟩ = some (.int .i64 t279) := (blk_cell BK285.out 0).trans rfl; have hcz35_1 : w34.cell? ⟨gb285, 1, none⟩ = some (.int .i64 t280) := (blk_cell BK285.out 1).trans rfl; have hcz35_2 : w34.cell? ⟨gb285, 2, none⟩ = some (.slice Ao25 t281.length co25) := (blk_cell BK285.out 2).trans rfl; have hfz35_0 := blk_frozen BK285.out 0; have hfz35_1 := blk_frozen BK285.out 1; have hfz35_2 := blk_frozen BK285.out 2; have hcz36_0 : w34.cell? ⟨gb292, 0, none⟩ = some (.int .i64 t286) := (blk_cell BK292.out 0).trans rfl; have hcz36_1 : w34.cell? ⟨gb292, 1, none⟩ = some (.int .i64 t287) := (blk_cell BK292.out 1).trans rfl; have hcz36_2 : w34.cell? ⟨gb292, 2, none⟩ = some (.slice Ao33 t288.length co33) := (blk_cell BK292.out 2).trans rfl; have hfz36_0 := blk_frozen BK292.out 0; have hfz36_1 := blk_frozen BK292.out 1; have hfz36_2 := blk_frozen BK292.out 2) | ((with_reducible refine gate_callee (f := 10) rfl ?_); refine goesL_ (some 60) rfl rfl Try.func10 (by kernel_rfl) rfl #[.agg #[.int .i64 t279, .int .i64 t280, .slice Ao25 t281.length co25], .agg #[.int .i64 t286, .int .i64 t287, .slice Ao33 t288.length co33]] rfl (by (try simp only [List.map_toArray, List.map_cons, List.map_nil]); first | done | rfl | (simp only [List.length_drop, List.length_take]; rfl)) ?_; (with_reducible refine (series_Join.calls k t279 t280 (fun k_ => some k_ = (.slice Ao25 t281.length co25 : Value).ownBlock) _ _ t281 t286 t287 (fun k_ => some k_ = (.slice Ao33 t288.length co33 : Value).ownBlock) _ _ t288 t293 t294 t295 t298 _ ?side1 ?side2 A11.out ⟨K176_2.out⟩).mono ?_); (case side1 => exact Kd.R_V (Kd.R_tight rfl (IsS52.apart HI269.out (Kd.R_types (Kd.R_types (Kd.R_types (HO283.out) BK276.out (by decide)) BK285.out (by decide)) BK292.out (by decide)) (by decide)))); (case side2 => exact Kd.R_V (Kd.R_tight rfl (IsS52.apart HI269.out (Kd.R_types (Kd.R_types (Kd.R_types (HO290.out) BK276.out (by decide)) BK285.out (by decide)) BK292.out (by decide)) (by decide)))); rintro e w37 ⟨v296, rfl, ho0, hb⟩; refine ⟨_, rfl, ?_⟩; have n0_ := Aside0.mk (Kd.R_elder' (by (with_reducible repeat (first | apply Kd.R_alloc | apply Kd.R_drewN | apply Kd.R_drew)); exact HO274.out) (Kd.R_base ho0) hb); have n1_ := Aside0.mk (Kd.R_elder' (by (with_reducible repeat (first | apply Kd.R_alloc | apply Kd.R_drewN | apply Kd.R_drew)); exact HO283.out) (Kd.R_base ho0) hb); have n2_ := Aside0.mk (Kd.R_elder' (by (with_reducible repeat (first | apply Kd.R_alloc | apply Kd.R_drewN | apply Kd.R_drew)); exact HO290.out) (Kd.R_base ho0) hb); have n3_ := Aside0.mk (Kd.R_lower (Kd.R_new' (Kd.R_new' (Kd.R_new' (Kd.R_mono (ok' := fun k_ => True) ho0 (fun _ hk_ => trivial)) (Kd.R_lt (by (with_reducible repeat (first | apply Kd.R_alloc | apply Kd.R_drewN | apply Kd.R_drew)); exact HO274.out))) (Kd.R_lt (by (with_reducible repeat (first | apply Kd.R_alloc | apply Kd.R_drewN | apply Kd.R_drew)); exact HO283.out))) (Kd.R_lt (by (with_reducible repeat (first | apply Kd.R_alloc | apply Kd.R_drewN | apply Kd.R_drew)); exact HO290.out))) (below_size (by repeat (first | (with_reducible first | exact HB.out | apply below_alloc | apply pw_below_drewN | apply below_drew1 | refine below_set ?_ (IsS52.ge HI269.out) | refine below_set ?_ GE276.out | refine below_set ?_ GE285.out | refine below_set ?_ GE292.out) | exact HB.out)))); have n4_ := Aside0.mk (IsS52.below (by repeat (first | (with_reducible first | exact HI269.out | apply IsS52.alloc | apply IsS52.drewN | apply IsS52.drew | apply IsS52.set_1 | refine IsS52.far ?_ NB269_276.out _ | refine IsS52.far ?_ NB269_285.out _ | refine IsS52.far ?_ NB269_292.out _) | exact HI269.out)) hb); have n5_ := Aside0.mk (blk_below (g := gb276) (o := .cells #[.int .i64 t270, .int .i64 t271, .slice Ao19 t272.length co19] 24 (0, 0)) (by (with_reducible repeat (first | refine blk_drewN ?_ _ | refine blk_drew ?_ | refine blk_alloc ?_ _)); exact BK276.out) hb); have n6_ := Aside0.mk (blk_below (g := gb285) (o := .cells #[.int .i64 t279, .int .i64 t280, .slice Ao25 t281.length co25] 24 (0, 0)) (by (with_reducible repeat (first | refine blk_drewN ?_ _ | refine blk_drew ?_ | refine blk_alloc ?_ _)); exact BK285.out) hb); have n7_ := Aside0.mk (blk_below (g := gb292) (o := .cells #[.int .i64 t286, .int .i64 t287, .slice Ao33 t288.length co33] 24 (0, 0)) (by (with_reducible repeat (first | refine blk_drewN ?_ _ | refine blk_drew ?_ | refine blk_alloc ?_ _)); exact BK292.out) hb); have n8_ := Aside0.mk (below_step (by repeat (first | (with_reducible first | exact HB.out | apply below_alloc | apply pw_below_drewN | apply below_drew1 | refine below_set ?_ (IsS52.ge HI269.out) | refine below_set ?_ GE276.out | refine below_set ?_ GE285.out | refine below_set ?_ GE292.out) | exact HB.out)) hb); clear HO274; clear HO283; clear HO290; clear HI269; clear BK276; clear BK285; clear BK292; clear HB; have HO274 := n0_; have HO283 := n1_; have HO290 := n2_; have HO297 := n3_; have HI269 := n4_; have BK276 := n5_; have BK285 := n6_; have BK292 := n7_; have HB := n8_; clear n0_ n1_ n2_ n3_ n4_ n5_ n6_ n7_ n8_; (try clear hb); (try clear hb2); (try clear hk); (try clear hi); (try clear ho0)) | ((with_reducible refine gate_dst (N := 16) rfl ?_); (try (refine gate_guard (by rfl) ?_; dsimp only)); refine box_event ?hg (N := 16) ?hd (cs := #[.int .i64 0, .int .i64 0, .slice none 0 0]) (t := 24) ?hr ?_; (case hd => rfl); (case hg => rfl); (case hr => first | (go_simp; done) | (go_simp; rfl)); intro gb299 hg w38 hbox hb; have n0_ := Aside0.mk (Kd.R_below (by (with_reducible repeat (first | apply Kd.R_alloc | apply Kd.R_drewN | apply Kd.R_drew)); exact HO274.out) hb); have n1_ := Aside0.mk (Kd.R_below (by (with_reducible repeat (first | apply Kd.R_alloc | apply Kd.R_drewN | apply Kd.R_drew)); exact HO283.out) hb); have n2_ := Aside0.mk (Kd.R_below (by (with_reducible repeat (first | apply Kd.R_alloc | apply Kd.R_drewN | apply Kd.R_drew)); exact HO290.out) hb); have n3_ := Aside0.mk (Kd.R_below (by (with_reducible repeat (first | apply Kd.R_alloc | apply Kd.R_drewN | apply Kd.R_drew)); exact HO297.out) hb); have n4_ := Aside0.mk (IsS52.below (by repeat (first | (with_reducible first | exact HI269.out | apply IsS52.alloc | apply IsS52.drewN | apply IsS52.drew | apply IsS52.set_1 | refine IsS52.far ?_ NB269_276.out _ | refine IsS52.far ?_ NB269_285.out _ | refine IsS52.far ?_ NB269_292.out _) | exact HI269.out)) hb); have n5_ := Aside0.mk (blk_below (g := gb276) (o := .cells #[.int .i64 t270, .int .i64 t271, .slice Ao19 t272.length co19] 24 (0, 0)) (by (with_reducible repeat (first | refine blk_drewN ?_ _ | refine blk_drew ?_ | refine blk_alloc ?_ _)); exact BK276.out) hb); have n6_ := Aside0.mk (blk_below (g := gb285) (o := .cells #[.int .i64 t279, .int .i64 t280, .slice Ao25 t281.length co25] 24 (0, 0)) (by (with_reducible repeat (first | refine blk_drewN ?_ _ | refine blk_drew ?_ | refine blk_alloc ?_ _)); exact BK285.out) hb); have n7_ := Aside0.mk (blk_below (g := gb292) (o := .cells #[.int .i64 t286, .int .i64 t287, .slice Ao33 t288.length co33] 24 (0, 0)) (by (with_reducible repeat (first | refine blk_drewN ?_ _ | refine blk_drew ?_ | refine blk_alloc ?_ _)); exact BK292.out) hb); have n8_ := Aside0.mk (below_step (by repeat (first | (with_reducible first | exact HB.out | apply below_alloc | apply pw_below_drewN | apply below_drew1 | refine below_set ?_ (IsS52.ge HI269.out) | refine below_set ?_ GE276.out | refine below_set ?_ GE285.out | refine below_set ?_ GE292.out) | exact HB.out)) hb); have n9_ := Aside0.mk (hbox); have n10_ := Aside0.mk ((by rw [hg]; exact (below_size (by repeat (first | (with_reducible first | exact HB.out | apply below_alloc | apply pw_below_drewN | apply below_drew1 | refine below_set ?_ (IsS52.ge HI269.out) | refine below_set ?_ GE276.out | refine below_set ?_ GE285.out | refine below_set ?_ GE292.out) | exact HB.out))) : w.heap.size ≤ gb299)); have n11_ := Aside0.mk ((by rw [hg]; exact (below_size (by repeat (first | (with_reducible first | exact HB.out | apply below_alloc | apply pw_below_drewN | apply below_drew1 | refine below_set ?_ (IsS52.ge HI269.out) | refine below_set ?_ GE276.out | refine below_set ?_ GE285.out | refine below_set ?_ GE292.out) | exact HB.out))) : w.heap.size ≤ gb299)); have n12_ := Aside0.mk ((by rw [hg]; exact Nat.ne_of_lt (blk_lt (g := gb276) (o := .cells #[.int .i64 t270, .int .i64 t271, .slice Ao19 t272.length co19] 24 (0, 0)) (by (with_reducible repeat (first | refine blk_drewN ?_ _ | refine blk_drew ?_ | refine blk_alloc ?_ _)); exact BK276.out)) : gb276 ≠ gb299)); have n13_ := Aside0.mk ((by rw [hg]; exact Nat.ne_of_gt (blk_lt (g := gb276) (o := .cells #[.int .i64 t270, .int .i64 t271, .slice Ao19 t272.length co19] 24 (0, 0)) (by (with_reducible repeat (first | refine blk_drewN ?_ _ | refine blk_drew ?_ | refine blk_alloc ?_ _)); exact BK276.out)) : gb299 ≠ gb276)); have n14_ := Aside0.mk ((by rw [hg]; exact Nat.ne_of_lt (blk_lt (g := gb285) (o := .cells #[.int .i64 t279, .int .i64 t280, .slice Ao25 t281.length co25] 24 (0, 0)) (by (with_reducible repeat (first | refine blk_drewN ?_ _ | refine blk_drew ?_ | refine blk_alloc ?_ _)); exact BK285.out)) : gb285 ≠ gb299)); have n15_ := Aside0.mk ((by rw [hg]; exact Nat.ne_of_gt (blk_lt (g := gb285) (o := .cells #[.int .i64 t279, .int .i64 t280, .slice Ao25 t281.length co25] 24 (0, 0)) (by (with_reducible repeat (first | refine blk_drewN ?_ _ | refine blk_drew ?_ | refine blk_alloc ?_ _)); exact BK285.out)) : gb299 ≠ gb285)); have n16_ := Aside0.mk ((by rw [hg]; exact Nat.ne_of_lt (blk_lt (g := gb292) (o := .cells #[.int .i64 t286, .int .i64 t287, .slice Ao33 t288.length co33] 24 (0, 0)) (by (with_reducible repeat (first | refine blk_drewN ?_ _ | refine blk_drew ?_ | refine blk_alloc ?_ _)); exact BK292.out)) : gb292 ≠ gb299)); have n17_ := Aside0.mk ((by rw [hg]; exact Nat.ne_of_gt (blk_lt (g := gb292) (o := .cells #[.int .i64 t286, .int .i64 t287, .slice Ao33 t288.length co33] 24 (0, 0)) (by (with_reducible repeat (first | refine blk_drewN ?_ _ | refine blk_drew ?_ | refine blk_alloc ?_ _)); exact BK292.out)) : gb299 ≠ gb292)); have n18_ := Aside0.mk ((by rw [hg]; exact Nat.ne_of_lt (IsS52.lt (show IsS52 w _ g269 t267 t275 from by repeat (first | (with_reducible first | exact HI269.out | apply IsS52.alloc | apply IsS52.drewN | apply IsS52.drew | apply IsS52.set_1 | refine IsS52.far ?_ NB269_276.out _ | refine IsS52.far ?_ NB269_285.out _ | refine IsS52.far ?_ NB269_292.out _) | exact HI269.out))) : g269 ≠ gb299)); have n19_ := Aside0.mk ((by rw [hg]; exact Nat.ne_of_gt (IsS52.lt (show IsS52 w _ g269 t267 t275 from by repeat (first | (with_reducible first | exact HI269.out | apply IsS52.alloc | apply IsS52.drewN | apply IsS52.drew | apply IsS52.set_1 | refine IsS52.far ?_ NB269_276.out _ | refine IsS52.far ?_ NB269_285.out _ | refine IsS52.far ?_ NB269_292.out _) | exact HI269.out))) : gb299 ≠ g269)); clear HO274; clear HO283; clear HO290; clear HO297; clear HI269; clear BK276; clear BK285; clear BK292; clear HB; have HO274 := n0_; have HO283 := n1_; have HO290 := n2_; have HO297 := n3_; have HI269 := n4_; have BK276 := n5_; have BK285 := n6_; have BK292 := n7_; have HB := n8_; have BK299 := n9_; have GW299 := n10_; have GE299 := n11_; have NB276_299 := n12_; have NB299_276 := n13_; have NB285_299 := n14_; have NB299_285 := n15_; have NB292_299 := n16_; have NB299_292 := n17_; have NB269_299 := n18_; have NB299_269 := n19_; clear n0_ n1_ n2_ n3_ n4_ n5_ n6_ n7_ n8_ n9_ n10_ n11_ n12_ n13_ n14_ n15_ n16_ n17_ n18_ n19_; clear hb hbox hg; have hnb39 := NB299_276.out; have hnc39 := NB276_299.out; have hnb40 := NB299_285.out; have hnc40 := NB285_299.out; have hnb41 := NB299_292.out; have hnc41 := NB292_299.out; have hnb42 := NB299_269.out; have hnc42 := NB269_299.out; have hcz43_0 : w38.cell? ⟨gb299, 0, none⟩ = some (.int .i64 0) := (blk_cell BK299.out 0).trans rfl; have hcz43_1 : w38.cell? ⟨gb299, 1, none⟩ = some (.int .i64 0) := (blk_cell BK299.out 1).trans rfl; have hcz43_2 : w38.cell? ⟨gb299, 2, none⟩ = some (.slice none 0 0) := (blk_cell BK299.out 2).trans rfl; have hfz43_0 := blk_frozen BK299.out 0; have hfz43_1 := blk_frozen BK299.out 1; have hfz43_2 := blk_frozen BK299.out 2; obtain ⟨Ao44, co44, eo44⟩ := Kd.R_slice HO297.out; subst eo44; have hcz45_0 : w38.cell? ⟨gb276, 0, none⟩ = some (.int .i64 t270) := (blk_cell BK276.out 0).trans rfl; have hcz45_1 : w38.cell? ⟨gb276, 1, none⟩ = some (.int .i64 t271) := (blk_cell BK276.out 1).trans rfl; have hcz45_2 : w38.cell? ⟨gb276, 2, none⟩ = some (.slice Ao19 t272.length co19) := (blk_cell BK276.out 2).trans rfl; have hfz45_0 := blk_frozen BK276.out 0; have hfz45_1 := blk_frozen BK276.out 1; have hfz45_2 := blk_frozen BK276.out 2) | ((with_reducible refine gate_callee (f := 9) rfl ?_); refine goesL_ (some 68) rfl rfl Try.func9 (by kernel_rfl) rfl #[.agg #[.int .i64 t270, .int .i64 t271, .slice Ao19 t272.length co19], .int .i64 0, .int .i64 (wrap64 (t277 + t278))] rfl (by (try simp only [List.map_toArray, List.map_cons, List.map_nil]); first | done | rfl | (simp only [List.length_drop, List.length_take]; rfl)) ?_; (with_reducible refine (series_Cut.calls k t270 t271 _ _ t272 0 (wrap64 (t277 + t278)) t300 t301 t302 t305 _ ?side1 ?side2 A12.out).mono ?_); (case side1 => refine (Kd.R_reads' (e := 3) (base := w.heap.size) (ok := fun k_ => ((some k_ ≠ (.slice Ao25 t281.length co25 : Value).ownBlock ∧ some k_ ≠ (.slice Ao33 t288.length co33 : Value).ownBlock) ∧ some k_ ≠ (.slice Ao44 t295.length co44 : Value).ownBlock)) (n := t272.length) (c := co19) ?_).2.2; exact (by (with_reducible repeat (first | apply Kd.R_alloc | apply Kd.R_drewN | apply Kd.R_drew)); exact (Kd.R_mono (Kd.R_far (p := ⟨gb299, 2, none⟩) (Kd.R_far (p := ⟨gb299, 1, none⟩) (Kd.R_far (p := ⟨gb299, 0, none⟩) (Kd.R_types HO274.out BK299.out (by decide)) (fun _ hk => hk.2) (.int .i64 t293)) (fun _ hk => hk.2) (.int .i64 t294)) (fun _ hk => hk.2) (.slice Ao44 t295.length co44)) (fun _ h_ => h_.1)))); (case side2 => exact (Kd.R_reads' HO274.out).2.1); rintro e w46 ⟨v303, rfl, ho0, hb⟩; refine ⟨_, rfl, ?_⟩; have n0_ := Aside0.mk (Kd.R_elder' (by (with_reducible repeat (first | apply Kd.R_alloc | apply Kd.R_drewN | apply Kd.R_drew)); exact (Kd.R_mono (Kd.R_far (p := ⟨gb299, 2, none⟩) (Kd.R_far (p := ⟨gb299, 1, none⟩) (Kd.R_far (p := ⟨gb299, 0, none⟩) (Kd.R_types HO274.out BK299.out (by decide)) (fun _ hk => hk.2) (.int .i64 t293)) (fun _ hk => hk.2) (.int .i64 t294)) (fun _ hk => hk.2) (.slice Ao44 t295.length co44)) (fun _ h_ => h_.1))) (Kd.R_base ho0) hb); have n1_ := Aside0.mk (Kd.R_elder' (by (with_reducible repeat (first | apply Kd.R_alloc | apply Kd.R_drewN | apply Kd.R_drew)); exact (Kd.R_mono (Kd.R_far (p := ⟨gb299, 2, none⟩) (Kd.R_far (p := ⟨gb299, 1, none⟩) (Kd.R_far (p := ⟨gb299, 0, none⟩) (Kd.R_types HO283.out BK299.out (by decide)) (fun _ hk => hk.2) (.int .i64 t293)) (fun _ hk => hk.2) (.int .i64 t294)) (fun _ hk => hk.2) (.slice Ao44 t295.length co44)) (fun _ h_ => h_.1))) (Kd.R_base ho0) hb); have n2_ := Aside0.mk (Kd.R_elder' (by (with_reducible repeat (first | apply Kd.R_alloc | apply Kd.R_drewN | apply Kd.R_drew)); exact (Kd.R_mono (Kd.R_far (p := ⟨gb299, 2, none⟩) (Kd.R_far (p := ⟨gb299, 1, none⟩) (Kd.R_far (p := ⟨gb299, 0, none⟩) (Kd.R_types HO290.out BK299.out (by decide)) (fun _ hk => hk.2) (.int .i64 t293)) (fun _ hk => hk.2) (.int .i64 t294)) (fun _ hk => hk.2) (.slice Ao44 t295.length co44)) (fun _ h_ => h_.1))) (Kd.R_base ho0) hb); have n3_ := Aside0.mk (Kd.R_elder' (by (with_reducible repeat (first | apply Kd.R_alloc | apply Kd.R_drewN | apply Kd.R_drew)); exact (Kd.R_mono (Kd.R_far (p := ⟨gb299, 2, none⟩) (Kd.R_far (p := ⟨gb299, 1, none⟩) (Kd.R_far (p := ⟨gb299, 0, none⟩) (Kd.R_types HO297.out BK299.out (by decide)) (fun _ hk => hk.2) (.int .i64 t293)) (fun _ hk => hk.2) (.int .i64 t294)) (fun _ hk => hk.2) (.slice Ao44 t295.length co44)) (fun _ h_ => h_.1))) (Kd.R_base ho0) hb); have n4_ := Aside0.mk (Kd.R_lower (Kd.R_new' (Kd.R_new' (Kd.R_new' (Kd.R_new' ho0 (Kd.R_lt (by (with_reducible repeat (first | apply Kd.R_alloc | apply Kd.R_drewN | apply Kd.R_drew)); exact (Kd.R_mono (Kd.R_far (p := ⟨gb299, 2, none⟩) (Kd.R_far (p := ⟨gb299, 1, none⟩) (Kd.R_far (p := ⟨gb299, 0, none⟩) (Kd.R_types HO274.out BK299.out (by decide)) (fun _ hk => hk.2) (.int .i64 t293)) (fun _ hk => hk.2) (.int .i64 t294)) (fun _ hk => hk.2) (.slice Ao44 t295.length co44)) (fun _ h_ => h_.1))))) (Kd.R_lt (by (with_reducible repeat (first | apply Kd.R_alloc | apply Kd.R_drewN | apply Kd.R_drew)); exact (Kd.R_mono (Kd.R_far (p := ⟨gb299, 2, none⟩) (Kd.R_far (p := ⟨gb299, 1, none⟩) (Kd.R_far (p := ⟨gb299, 0, none⟩) (Kd.R_types HO283.out BK299.out (by decide)) (fun _ hk => hk.2) (.int .i64 t293)) (fun _ hk => hk.2) (.int .i64 t294)) (fun _ hk => hk.2) (.slice Ao44 t295.length co44)) (fun _ h_ => h_.1))))) (Kd.R_lt (by (with_reducible repeat (first | apply Kd.R_alloc | apply Kd.R_drewN | apply Kd.R_drew)); exact (Kd.R_mono (Kd.R_far (p := ⟨gb299, 2, none⟩) (Kd.R_far (p := ⟨gb299, 1, none⟩) (Kd.R_far (p := ⟨gb299, 0, none⟩) (Kd.R_types HO290.out BK299.out (by decide)) (fun _ hk => hk.2) (.int .i64 t293)) (fun _ hk => hk.2) (.int .i64 t294)) (fun _ hk => hk.2) (.slice Ao44 t295.length co44)) (fun _ h_ => h_.1))))) (Kd.R_lt (by (with_reducible repeat (first | apply Kd.R_alloc | apply Kd.R_drewN | apply Kd.R_drew)); exact (Kd.R_mono (Kd.R_far (p := ⟨gb299, 2, none⟩) (Kd.R_far (p := ⟨gb299, 1, none⟩) (Kd.R_far (p := ⟨gb299, 0, none⟩) (Kd.R_types HO297.out BK299.out (by decide)) (fun _ hk => hk.2) (.int .i64 t293)) (fun _ hk => hk.2) (.int .i64 t294)) (fun _ hk => hk.2) (.slice Ao44 t295.length co44)) (fun _ h_ => h_.1))))) (below_size (by repeat (first | (with_reducible first | exact HB.out | apply below_alloc | apply pw_below_drewN | apply below_drew1 | refine below_set ?_ (IsS52.ge HI269.out) | refine below_set ?_ GE276.out | refine below_set ?_ GE285.out | refine below_set ?_ GE292.out | refine below_set ?_ GE299.out) | exact HB.out)))); have n5_ := Aside0.mk (IsS52.below (show IsS52 w _ g269 t267 t275 from by repeat (first | (with_reducible first | exact HI269.out | apply IsS52.alloc | apply IsS52.drewN | apply IsS52.drew | apply IsS52.set_1 | refine IsS52.far ?_ NB269_276.out _ | refine IsS52.far ?_ NB269_285.out _ | refine IsS52.far ?_ NB269_292.out _ | refine IsS52.far ?_ NB269_299.out _) | exact HI269.out)) hb); have n6_ := Aside0.mk (blk_below (g := gb276) (o := .cells #[.int .i64 t270, .int .i64 t271, .slice Ao19 t272.length co19] 24 (0, 0)) (by (with_reducible repeat (first | refine blk_drewN ?_ _ | refine blk_drew ?_ | refine blk_alloc ?_ _)); refine blk_far ?_ NB276_299.out _; (with_reducible repeat (first | refine blk_drewN ?_ _ | refine blk_drew ?_ | refine blk_alloc ?_ _)); refine blk_far ?_ NB276_299.out _; (with_reducible repeat (first | refine blk_drewN ?_ _ | refine blk_drew ?_ | refine blk_alloc ?_ _)); refine blk_far ?_ NB276_299.out _; (with_reducible repeat (first | refine blk_drewN ?_ _ | refine blk_drew ?_ | refine blk_alloc ?_ _)); exact BK276.out) hb); have n7_ := Aside0.mk (blk_below (g := gb285) (o := .cells #[.int .i64 t279, .int .i64 t280, .slice Ao25 t281.length co25] 24 (0, 0)) (by (with_reducible repeat (first | refine blk_drewN ?_ _ | refine blk_drew ?_ | refine blk_alloc ?_ _)); refine blk_far ?_ NB285_299.out _; (with_reducible repeat (first | refine blk_drewN ?_ _ | refine blk_drew ?_ | refine blk_alloc ?_ _)); refine blk_far ?_ NB285_299.out _; (with_reducible repeat (first | refine blk_drewN ?_ _ | refine blk_drew ?_ | refine blk_alloc ?_ _)); refine blk_far ?_ NB285_299.out _; (with_reducible repeat (first | refine blk_drewN ?_ _ | refine blk_drew ?_ | refine blk_alloc ?_ _)); exact BK285.out) hb); have n8_ := Aside0.mk (blk_below (g := gb292) (o := .cells #[.int .i64 t286, .int .i64 t287, .slice Ao33 t288.length co33] 24 (0, 0)) (by (with_reducible repeat (first | refine blk_drewN ?_ _ | refine blk_drew ?_ | refine blk_alloc ?_ _)); refine blk_far ?_ NB292_299.out _; (with_reducible repeat (first | refine blk_drewN ?_ _ | refine blk_drew ?_ | refine blk_alloc ?_ _)); refine blk_far ?_ NB292_299.out _; (with_reducible repeat (first | refine blk_drewN ?_ _ | refine blk_drew ?_ | refine blk_alloc ?_ _)); refine blk_far ?_ NB292_299.out _; (with_reducible repeat (first | refine blk_drewN ?_ _ | refine blk_drew ?_ | refine blk_alloc ?_ _)); exact BK292.out) hb); have n9_ := Aside0.mk (blk_below (g := gb299) (o := .cells #[.int .i64 t293, .int .i64 t294, .slice Ao44 t295.length co44] 24 (0, 0)) (by (with_reducible repeat (first | refine blk_drewN ?_ _ | refine blk_drew ?_ | refine blk_alloc ?_ _)); refine blk_put (cs := #[.int .i64 t293, .int .i64 t294, .slice none 0 0]) ?_ 2 _ rfl; (with_reducible repeat (first | refine blk_drewN ?_ _ | refine blk_drew ?_ | refine blk_alloc ?_ _)); refine blk_put (cs := #[.int .i64 t293, .int .i64 0, .slice none 0 0]) ?_ 1 _ rfl; (with_reducible repeat (first | refine blk_drewN ?_ _ | refine blk_drew ?_ | refine blk_alloc ?_ _)); refine blk_put (cs := #[.int .i64 0, .int .i64 0, .slice none 0 0]) ?_ 0 _ rfl; (with_reducible repeat (first | refine blk_drewN ?_ _ | refine blk_drew ?_ | refine blk_alloc ?_ _)); exact BK299.out) hb); have n10_ := Aside0.mk (below_step (by repeat (first | (with_reducible first | exact HB.out | apply below_alloc | apply pw_below_drewN | apply below_drew1 | refine below_set ?_ (IsS52.ge HI269.out) | refine below_set ?_ GE276.out | refine below_set ?_ GE285.out | refine below_set ?_ GE292.out | refine below_set ?_ GE299.out) | exact HB.out)) hb); clear HO274; clear HO283; clear HO290; clear HO297; clear HI269; clear BK276; clear BK285; clear BK292; clear BK299; clear HB; have HO274 := n0_; have HO283 := n1_; have HO290 := n2_; have HO297 := n3_; have HO304 := n4_; have HI269 := n5_; have BK276 := n6_; have BK285 := n7_; have BK292 := n8_; have BK299 := n9_; have HB := n10_; clear n0_ n1_ n2_ n3_ n4_ n5_ n6_ n7_ n8_ n9_ n10_; (try clear hb); (try clear hb2); (try clear hk); (try clear hi); (try clear ho0)) | ((with_reducible refine gate_dst (N := 18) rfl ?_); (try (refine gate_guard (by rfl) ?_; dsimp only)); refine box_event ?hg (N := 18) ?hd (cs := #[.int .i64 0, .int .i64 0, .slice none 0 0]) (t := 24) ?hr ?_; (case hd => rfl); (case hg => rfl); (case hr => first | (go_simp; done) | (go_simp; rfl)); intro gb306 hg w47 hbox hb; have n0_ := Aside0.mk (Kd.R_below (by (with_reducible repeat (first | apply Kd.R_alloc | apply Kd.R_drewN | apply Kd.R_drew)); exact HO274.out) hb); have n1_ := Aside0.mk (Kd.R_below (by (with_reducible repeat (first | apply Kd.R_alloc | apply Kd.R_drewN | apply Kd.R_drew)); exact HO283.out) hb); have n2_ := Aside0.mk (Kd.R_below (by (with_reducible repeat (first | apply Kd.R_alloc | apply Kd.R_drewN | apply Kd.R_drew)); exact HO290.out) hb); have n3_ := Aside0.mk (Kd.R_below (by (with_reducible repeat (first | apply Kd.R_alloc | apply Kd.R_drewN | apply Kd.R_drew)); exact HO297.out) hb); have n4_ := Aside0.mk (Kd.R_below (by (with_reducible repeat (first | apply Kd.R_alloc | apply Kd.R_drewN | apply Kd.R_drew)); exact HO304.out) hb); have n5_ := Aside0.mk (IsS52.below (by repeat (first | (with_reducible first | exact HI269.out | apply IsS52.alloc | apply IsS52.drewN | apply IsS52.drew | apply IsS52.set_1 | refine IsS52.far ?_ NB269_276.out _ | refine IsS52.far ?_ NB269_285.out _ | refine IsS52.far ?_ NB269_292.out _ | refine IsS52.far ?_ NB269_299.out _) | exact HI269.out)) hb); have n6_ := Aside0.mk (blk_below (g := gb276) (o := .cells #[.int .i64 t270, .int .i64 t271, .slice Ao19 t272.length co19] 24 (0, 0)) (by (with_reducible repeat (first | refine blk_drewN ?_ _ | refine blk_drew ?_ | refine blk_alloc ?_ _)); exact BK276.out) hb); have n7_ := Aside0.mk (blk_below (g := gb285) (o := .cells #[.int .i64 t279, .int .i64 t280, .slice Ao25 t281.length co25] 24 (0, 0)) (by (with_reducible repeat (first | refine blk_drewN ?_ _ | refine blk_drew ?_ | refine blk_alloc ?_ _)); exact BK285.out) hb); have n8_ := Aside0.mk (blk_below (g := gb292) (o := .cells #[.int .i64 t286, .int .i64 t287, .slice Ao33 t288.length co33] 24 (0, 0)) (by (with_reducible repeat (first | refine blk_drewN ?_ _ | refine blk_drew ?_ | refine blk_alloc ?_ _)); exact BK292.out) hb); have n9_ := Aside0.mk (blk_below (g := gb299) (o := .cells #[.int .i64 t293, .int .i64 t294, .slice Ao44 t295.length co44] 24 (0, 0)) (by (with_reducible repeat (first | refine blk_drewN ?_ _ | refine blk_drew ?_ | refine blk_alloc ?_ _)); exact BK299.out) hb); have n10_ := Aside0.mk (below_step (by repeat (first | (with_reducible first | exact HB.out | apply below_alloc | apply pw_below_drewN | apply below_drew1 | refine below_set ?_ (IsS52.ge HI269.out) | refine below_set ?_ GE276.out | refine below_set ?_ GE285.out | refine below_set ?_ GE292.out | refine below_set ?_ GE299.out) | exact HB.out)) hb); have n11_ := Aside0.mk (hbox); have n12_ := Aside0.mk ((by rw [hg]; exact (below_size (by repeat (first | (with_reducible first | exact HB.out | apply below_alloc | apply pw_below_drewN | apply below_drew1 | refine below_set ?_ (IsS52.ge HI269.out) | refine below_set ?_ GE276.out | refine below_set ?_ GE285.out | refine below_set ?_ GE292.out | refine below_set ?_ GE299.out) | exact HB.out))) : w.heap.size ≤ gb306)); have n13_ := Aside0.mk ((by rw [hg]; exact (below_size (by repeat (first | (with_reducible first | exact HB.out | apply below_alloc | apply pw_below_drewN | apply below_drew1 | refine below_set ?_ (IsS52.ge HI269.out) | refine below_set ?_ GE276.out | refine below_set ?_ GE285.out | refine below_set ?_ GE292.out | refine below_set ?_ GE299.out) | exact HB.out))) : w.heap.size ≤ gb306)); have n14_ := Aside0.mk ((by rw [hg]; exact Nat.ne_of_lt (blk_lt (g := gb276) (o := .cells #[.int .i64 t270, .int .i64 t271, .slice Ao19 t272.length co19] 24 (0, 0)) (by (with_reducible repeat (first | refine blk_drewN ?_ _ | refine blk_drew ?_ | refine blk_alloc ?_ _)); exact BK276.out)) : gb276 ≠ gb306)); have n15_ := Aside0.mk ((by rw [hg]; exact Nat.ne_of_gt (blk_lt (g := gb276) (o := .cells #[.int .i64 t270, .int .i64 t271, .slice Ao19 t272.length co19] 24 (0, 0)) (by (with_reducible repeat (first | refine blk_drewN ?_ _ | refine blk_drew ?_ | refine blk_alloc ?_ _)); exact BK276.out)) : gb306 ≠ gb276)); have n16_ := Aside0.mk ((by rw [hg]; exact Nat.ne_of_lt (blk_lt (g := gb285) (o := .cells #[.int .i64 t279, .int .i64 t280, .slice Ao25 t281.length co25] 24 (0, 0)) (by (with_reducible repeat (first | refine blk_drewN ?_ _ | refine blk_drew ?_ | refine blk_alloc ?_ _)); exact BK285.out)) : gb285 ≠ gb306)); have n17_ := Aside0.mk ((by rw [hg]; exact Nat.ne_of_gt (blk_lt (g := gb285) (o := .cells #[.int .i64 t279, .int .i64 t280, .slice Ao25 t281.length co25] 24 (0, 0)) (by (with_reducible repeat (first | refine blk_drewN ?_ _ | refine blk_drew ?_ | refine blk_alloc ?_ _)); exact BK285.out)) : gb306 ≠ gb285)); have n18_ := Aside0.mk ((by rw [hg]; exact Nat.ne_of_lt (blk_lt (g := gb292) (o := .cells #[.int .i64 t286, .int .i64 t287, .slice Ao33 t288.length co33] 24 (0, 0)) (by (with_reducible repeat (first | refine blk_drewN ?_ _ | refine blk_drew ?_ | refine blk_alloc ?_ _)); exact BK292.out)) : gb292 ≠ gb306)); have n19_ := Aside0.mk ((by rw [hg]; exact Nat.ne_of_gt (blk_lt (g := gb292) (o := .cells #[.int .i64 t286, .int .i64 t287, .slice Ao33 t288.length co33] 24 (0, 0)) (by (with_reducible repeat (first | refine blk_drewN ?_ _ | refine blk_drew ?_ | refine blk_alloc ?_ _)); exact BK292.out)) : gb306 ≠ gb292)); have n20_ := Aside0.mk ((by rw [hg]; exact Nat.ne_of_lt (blk_lt (g := gb299) (o := .cells #[.int .i64 t293, .int .i64 t294, .slice Ao44 t295.length co44] 24 (0, 0)) (by (with_reducible repeat (first | refine blk_drewN ?_ _ | refine blk_drew ?_ | refine blk_alloc ?_ _)); exact BK299.out)) : gb299 ≠ gb306)); have n21_ := Aside0.mk ((by rw [hg]; exact Nat.ne_of_gt (blk_lt (g := gb299) (o := .cells #[.int .i64 t293, .int .i64 t294, .slice Ao44 t295.length co44] 24 (0, 0)) (by (with_reducible repeat (first | refine blk_drewN ?_ _ | refine blk_drew ?_ | refine blk_alloc ?_ _)); exact BK299.out)) : gb306 ≠ gb299)); have n22_ := Aside0.mk ((by rw [hg]; exact Nat.ne_of_lt (IsS52.lt (show IsS52 w _ g269 t267 t275 from by repeat (first | (with_reducible first | exact HI269.out | apply IsS52.alloc | apply IsS52.drewN | apply IsS52.drew | apply IsS52.set_1 | refine IsS52.far ?_ NB269_276.out _ | refine IsS52.far ?_ NB269_285.out _ | refine IsS52.far ?_ NB269_292.out _ | refine IsS52.far ?_ NB269_299.out _) | exact HI269.out))) : g269 ≠ gb306)); have n23_ := Aside0.mk ((by rw [hg]; exact Nat.ne_of_gt (IsS52.lt (show IsS52 w _ g269 t267 t275 from by repeat (first | (with_reducible first | exact HI269.out | apply IsS52.alloc | apply IsS52.drewN | apply IsS52.drew | apply IsS52.set_1 | refine IsS52.far ?_ NB269_276.out _ | refine IsS52.far ?_ NB269_285.out _ | refine IsS52.far ?_ NB269_292.out _ | refine IsS52.far ?_ NB269_299.out _) | exact HI269.out))) : gb306 ≠ g269)); clear HO274; clear HO283; clear HO290; clear HO297; clear HO304; clear HI269; clear BK276; clear BK285; clear BK292; clear BK299; clear HB; have HO274 := n0_; have HO283 := n1_; have HO290 := n2_; have HO297 := n3_; have HO304 := n4_; have HI269 := n5_; have BK276 := n6_; have BK285 := n7_; have BK292 := n8_; have BK299 := n9_; have HB := n10_; have BK306 := n11_; have GW306 := n12_; have GE306 := n13_; have NB276_306 := n14_; have NB306_276 := n15_; have NB285_306 := n16_; have NB306_285 := n17_; have NB292_306 := n18_; have NB306_292 := n19_; have NB299_306 := n20_; have NB306_299 := n21_; have NB269_306 := n22_; have NB306_269 := n23_; clear n0_ n1_ n2_ n3_ n4_ n5_ n6_ n7_ n8_ n9_ n10_ n11_ n12_ n13_ n14_ n15_ n16_ n17_ n18_ n19_ n20_ n21_ n22_ n23_; clear hb hbox hg; have hnb48 := NB306_276.out; have hnc48 := NB276_306.out; have hnb49 := NB306_285.out; have hnc49 := NB285_306.out; have hnb50 := NB306_292.out; have hnc50 := NB292_306.out; have hnb51 := NB306_299.out; have hnc51 := NB299_306.out; have hnb52 := NB306_269.out; have hnc52 := NB269_306.out; have hcz53_0 : w47.cell? ⟨gb306, 0, none⟩ = some (.int .i64 0) := (blk_cell BK306.out 0).trans rfl; have hcz53_1 : w47.cell? ⟨gb306, 1, none⟩ = some (.int .i64 0) := (blk_cell BK306.out 1).trans rfl; have hcz53_2 : w47.cell? ⟨gb306, 2, none⟩ = some (.slice none 0 0) := (blk_cell BK306.out 2).trans rfl; have hfz53_0 := blk_frozen BK306.out 0; have hfz53_1 := blk_frozen BK306.out 1; have hfz53_2 := blk_frozen BK306.out 2; obtain ⟨Ao54, co54, eo54⟩ := Kd.R_slice HO304.out; subst eo54))
  (try simp only [Act.put, List.setIfInBounds_toArray, List.set_cons_zero, List.set_cons_succ])
  go_cut [90] (fun v90 wc => ∃ (kq : Nat) (x90_12 : Bool), v90 = .bool x90_12 ∧ Aside0 (shapesearchlaw09_SeriesParts.j0 kq a3 t277 t278 x90_12 t270 t271 t272 t279 t280 t281 t286 t287 t288 = some r) ∧ Aside0 (kq ≤ k) ∧ Aside0 (Kd.R (Kd.int .i64) 3 wc w.heap.size (fun k_ => some k_ ≠ ((.slice Ao25 t281.length co25) : Value).ownBlock ∧ some k_ ≠ ((.slice Ao33 t288.length co33) : Value).ownBlock ∧ some k_ ≠ ((.slice Ao44 t295.length co44) : Value).ownBlock ∧ some k_ ≠ ((.slice Ao54 t302.length co54) : Value).ownBlock) (.slice Ao19 t272.length co19) t272) ∧ Aside0 (Kd.R (Kd.int .i64) 3 wc w.heap.size (fun k_ => some k_ ≠ ((.slice Ao19 t272.length co19) : Value).ownBlock ∧ some k_ ≠ ((.slice Ao33 t288.length co33) : Value).ownBlock ∧ some k_ ≠ ((.slice Ao44 t295.length co44) : Value).ownBlock ∧ some k_ ≠ ((.slice Ao54 t302.length co54) : Value).ownBlock) (.slice Ao25 t281.length co25) t281) ∧ Aside0 (Kd.R (Kd.int .i64) 3 wc w.heap.size (fun k_ => some k_ ≠ ((.slice Ao19 t272.length co19) : Value).ownBlock ∧ some k_ ≠ ((.slice Ao25 t281.length co25) : Value).ownBlock ∧ some k_ ≠ ((.slice Ao44 t295.length co44) : Value).ownBlock ∧ some k_ ≠ ((.slice Ao54 t302.length co54) : Value).ownBlock) (.slice Ao33 t288.length co33) t288) ∧ Aside0 (Kd.R (Kd.int .i64) 3 wc w.heap.size (fun k_ => some k_ ≠ ((.slice Ao19 t272.length co19) : Value).ownBlock ∧ some k_ ≠ ((.slice Ao25 t281.length co25) : Value).ownBlock ∧ some k_ ≠ ((.slice Ao33 t288.length co33) : Value).ownBlock ∧ some k_ ≠ ((.slice Ao54 t302.length co54) : Value).ownBlock) (.slice Ao44 t295.length co44) t295) ∧ Aside0 (Kd.R (Kd.int .i64) 3 wc w.heap.size (fun k_ => some k_ ≠ ((.slice Ao19 t272.length co19) : Value).ownBlock ∧ some k_ ≠ ((.slice Ao25 t281.length co25) : Value).ownBlock ∧ some k_ ≠ ((.slice Ao33 t288.length co33) : Value).ownBlock ∧ some k_ ≠ ((.slice Ao44 t295.length co44) : Value).ownBlock) (.slice Ao54 t302.length co54) t302) ∧ Aside0 (wc.heap[gb276]? = some (.cells #[.int .i64 t270, .int .i64 t271, (.slice Ao19 t272.length co19)] 24 (0, 0))) ∧ Aside0 (wc.heap[gb285]? = some (.cells #[.int .i64 t279, .int .i64 t280, (.slice Ao25 t281.length co25)] 24 (0, 0))) ∧ Aside0 (wc.heap[gb292]? = some (.cells #[.int .i64 t286, .int .i64 t287, (.slice Ao33 t288.length co33)] 24 (0, 0))) ∧ Aside0 (wc.heap[gb299]? = some (.cells #[.int .i64 t293, .int .i64 t294, (.slice Ao44 t295.length co44)] 24 (0, 0))) ∧ Aside0 (wc.heap[gb306]? = some (.cells #[.int .i64 t300, .int .i64 t301, (.slice Ao54 t302.length co54)] 24 (0, 0))) ∧ Aside0 (Below w.heap.size w wc))
  case first =>
    have H := HC13.out
    clear HC13
    by_cases c55 : t284 = 0
    · rw [if_pos c55] at H
      have c55b0 : (t284 == 0) = true := beq_iff_eq.mpr c55
      have c55b1 : (t284 != 0) = false := bne_eq_false_iff_eq.mpr c55
      clear c55
      (first | rw [c55b0] | (simp only [i64_w, i32_w]; rw [c55b0]) | skip)
      by_cases c56 : t291 = 0
      · rw [if_pos c56] at H
        have c56b0 : (t291 == 0) = true := beq_iff_eq.mpr c56
        have c56b1 : (t291 != 0) = false := bne_eq_false_iff_eq.mpr c56
        clear c56
        by_cases c57 : t298 = 0
        · rw [if_pos c57] at H
          have c57b0 : (t298 == 0) = true := beq_iff_eq.mpr c57
          have c57b1 : (t298 != 0) = false := bne_eq_false_iff_eq.mpr c57
          clear c57
          by_cases c58 : t305 = 0
          · rw [if_pos c58] at H
            have c58b0 : (t305 == 0) = true := beq_iff_eq.mpr c58
            have c58b1 : (t305 != 0) = false := bne_eq_false_iff_eq.mpr c58
            clear c58
            replace H := Option.bind_eq_some_iff.mp H
            obtain ⟨t307, A590, H⟩ := H
            replace H : (shapesearchlaw09_SeriesParts.j0 k a3 t277 t278 (!t307) t270 t271 t272 t279 t280 t281 t286 t287 t288) = some r := H
            have A59 := Aside0.mk A590
            clear A590
            have H' := Aside0.mk H
            clear H
            have hnb60 := NB299_276.out
            have hnc60 := NB276_299.out
            have hnb61 := NB299_285.out
            have hnc61 := NB285_299.out
            have hnb62 := NB299_292.out
            have hnc62 := NB292_299.out
            have hnb63 := NB299_306.out
            have hnc63 := NB306_299.out
            have hnb64 := NB299_269.out
            have hnc64 := NB269_299.out
            have hcz65_0 : w47.cell? ⟨gb299, 0, none⟩ = some (.int .i64 t293) := (blk_cell BK299.out 0).trans rfl
            have hcz65_1 : w47.cell? ⟨gb299, 1, none⟩ = some (.int .i64 t294) := (blk_cell BK299.out 1).trans rfl
            have hcz65_2 : w47.cell? ⟨gb299, 2, none⟩ = some (.slice Ao44 t295.length co44) := (blk_cell BK299.out 2).trans rfl
            have hfz65_0 := blk_frozen BK299.out 0
            have hfz65_1 := blk_frozen BK299.out 1
            have hfz65_2 := blk_frozen BK299.out 2
            have hnb66 := NB306_276.out
            have hnc66 := NB276_306.out
            have hnb67 := NB306_285.out
            have hnc67 := NB285_306.out
            have hnb68 := NB306_292.out
            have hnc68 := NB292_306.out
            have hnb69 := NB306_269.out
            have hnc69 := NB269_306.out
            have hcz70_0 : w47.cell? ⟨gb306, 0, none⟩ = some (.int .i64 0) := (blk_cell BK306.out 0).trans rfl
            have hcz70_1 : w47.cell? ⟨gb306, 1, none⟩ = some (.int .i64 0) := (blk_cell BK306.out 1).trans rfl
            have hcz70_2 : w47.cell? ⟨gb306, 2, none⟩ = some (.slice none 0 0) := (blk_cell BK306.out 2).trans rfl
            have hfz70_0 := blk_frozen BK306.out 0
            have hfz70_1 := blk_frozen BK306.out 1
            have hfz70_2 := blk_frozen BK306.out 2
            go_wp2_with (first | (go_at_call 11; (with_reducible refine (shapesearchref09_Same.calls k t293 t294 _ _ t295 t300 t301 _ _ t302 t307 _ ?side1 ?side2 ?side3 ?side4 A59.out).mono ?_); (case side1 => refine (Kd.R_reads' (e := 3) (base := w.heap.size) (ok := fun k_ => ((((True ∧ some k_ ≠ (.slice Ao19 t272.length co19 : Value).ownBlock) ∧ some k_ ≠ (.slice Ao25 t281.length co25 : Value).ownBlock) ∧ some k_ ≠ (.slice Ao33 t288.length co33 : Value).ownBlock) ∧ some k_ ≠ (.slice Ao54 t302.length co54 : Value).ownBlock)) (n := t295.length) (c := co44) ?_).2.2; exact (by (with_reducible repeat (first | apply Kd.R_alloc | apply Kd.R_drewN | apply Kd.R_drew)); exact (Kd.R_mono (Kd.R_far (p := ⟨gb306, 2, none⟩) (Kd.R_far (p := ⟨gb306, 1, none⟩) (Kd.R_far (p := ⟨gb306, 0, none⟩) (Kd.R_types HO297.out BK306.out (by decide)) (fun _ hk => hk.2) (.int .i64 t300)) (fun _ hk => hk.2) (.int .i64 t301)) (fun _ hk => hk.2) (.slice Ao54 t302.length co54)) (fun _ h_ => h_.1)))); (case side2 => exact (Kd.R_reads' HO297.out).2.1); (case side3 => refine (Kd.R_reads' (e := 3) (base := w.heap.size) (ok := fun k_ => ((((True ∧ some k_ ≠ (.slice Ao19 t272.length co19 : Value).ownBlock) ∧ some k_ ≠ (.slice Ao25 t281.length co25 : Value).ownBlock) ∧ some k_ ≠ (.slice Ao33 t288.length co33 : Value).ownBlock) ∧ some k_ ≠ (.slice Ao44 t295.length co44 : Value).ownBlock)) (n := t302.length) (c := co54) ?_).2.2; exact (by (with_reducible repeat (first | apply Kd.R_alloc | apply Kd.R_drewN | apply Kd.R_drew)); exact (Kd.R_mono (Kd.R_far (p := ⟨gb306, 2, none⟩) (Kd.R_far (p := ⟨gb306, 1, none⟩) (Kd.R_far (p := ⟨gb306, 0, none⟩) (Kd.R_types HO304.out BK306.out (by decide)) (fun _ hk => hk.2) (.int .i64 t300)) (fun _ hk => hk.2) (.int .i64 t301)) (fun _ hk => hk.2) (.slice Ao54 t302.length co54)) (fun _ h_ => h_.1)))); (case side4 => exact (Kd.R_reads' HO304.out).2.1); rintro e w71 ⟨rfl, hb⟩; have n0_ := Aside0.mk (Kd.R_below (by (with_reducible repeat (first | apply Kd.R_alloc | apply Kd.R_drewN | apply Kd.R_drew)); exact (Kd.R_mono (Kd.R_far (p := ⟨gb306, 2, none⟩) (Kd.R_far (p := ⟨gb306, 1, none⟩) (Kd.R_far (p := ⟨gb306, 0, none⟩) (Kd.R_types HO274.out BK306.out (by decide)) (fun _ hk => hk.2) (.int .i64 t300)) (fun _ hk => hk.2) (.int .i64 t301)) (fun _ hk => hk.2) (.slice Ao54 t302.length co54)) (fun _ h_ => h_.1))) hb); have n1_ := Aside0.mk (Kd.R_below (by (with_reducible repeat (first | apply Kd.R_alloc | apply Kd.R_drewN | apply Kd.R_drew)); exact (Kd.R_mono (Kd.R_far (p := ⟨gb306, 2, none⟩) (Kd.R_far (p := ⟨gb306, 1, none⟩) (Kd.R_far (p := ⟨gb306, 0, none⟩) (Kd.R_types HO283.out BK306.out (by decide)) (fun _ hk => hk.2) (.int .i64 t300)) (fun _ hk => hk.2) (.int .i64 t301)) (fun _ hk => hk.2) (.slice Ao54 t302.length co54)) (fun _ h_ => h_.1))) hb); have n2_ := Aside0.mk (Kd.R_below (by (with_reducible repeat (first | apply Kd.R_alloc | apply Kd.R_drewN | apply Kd.R_drew)); exact (Kd.R_mono (Kd.R_far (p := ⟨gb306, 2, none⟩) (Kd.R_far (p := ⟨gb306, 1, none⟩) (Kd.R_far (p := ⟨gb306, 0, none⟩) (Kd.R_types HO290.out BK306.out (by decide)) (fun _ hk => hk.2) (.int .i64 t300)) (fun _ hk => hk.2) (.int .i64 t301)) (fun _ hk => hk.2) (.slice Ao54 t302.length co54)) (fun _ h_ => h_.1))) hb); have n3_ := Aside0.mk (Kd.R_below (by (with_reducible repeat (first | apply Kd.R_alloc | apply Kd.R_drewN | apply Kd.R_drew)); exact (Kd.R_mono (Kd.R_far (p := ⟨gb306, 2, none⟩) (Kd.R_far (p := ⟨gb306, 1, none⟩) (Kd.R_far (p := ⟨gb306, 0, none⟩) (Kd.R_types HO297.out BK306.out (by decide)) (fun _ hk => hk.2) (.int .i64 t300)) (fun _ hk => hk.2) (.int .i64 t301)) (fun _ hk => hk.2) (.slice Ao54 t302.length co54)) (fun _ h_ => h_.1))) hb); have n4_ := Aside0.mk (Kd.R_below (by (with_reducible repeat (first | apply Kd.R_alloc | apply Kd.R_drewN | apply Kd.R_drew)); exact (Kd.R_mono (Kd.R_far (p := ⟨gb306, 2, none⟩) (Kd.R_far (p := ⟨gb306, 1, none⟩) (Kd.R_far (p := ⟨gb306, 0, none⟩) (Kd.R_types HO304.out BK306.out (by decide)) (fun _ hk => hk.2) (.int .i64 t300)) (fun _ hk => hk.2) (.int .i64 t301)) (fun _ hk => hk.2) (.slice Ao54 t302.length co54)) (fun _ h_ => h_.1))) hb); have n5_ := Aside0.mk (IsS52.below (show IsS52 w _ g269 t267 t275 from by repeat (first | (with_reducible first | exact HI269.out | apply IsS52.alloc | apply IsS52.drewN | apply IsS52.drew | apply IsS52.set_1 | refine IsS52.far ?_ NB269_276.out _ | refine IsS52.far ?_ NB269_285.out _ | refine IsS52.far ?_ NB269_292.out _ | refine IsS52.far ?_ NB269_299.out _ | refine IsS52.far ?_ NB269_306.out _) | exact HI269.out)) hb); have n6_ := Aside0.mk (blk_below (g := gb276) (o := .cells #[.int .i64 t270, .int .i64 t271, .slice Ao19 t272.length co19] 24 (0, 0)) (by (with_reducible repeat (first | refine blk_drewN ?_ _ | refine blk_drew ?_ | refine blk_alloc ?_ _)); refine blk_far ?_ NB276_306.out _; (with_reducible repeat (first | refine blk_drewN ?_ _ | refine blk_drew ?_ | refine blk_alloc ?_ _)); refine blk_far ?_ NB276_306.out _; (with_reducible repeat (first | refine blk_drewN ?_ _ | refine blk_drew ?_ | refine blk_alloc ?_ _)); refine blk_far ?_ NB276_306.out _; (with_reducible repeat (first | refine blk_drewN ?_ _ | refine blk_drew ?_ | refine blk_alloc ?_ _)); exact BK276.out) hb); have n7_ := Aside0.mk (blk_below (g := gb285) (o := .cells #[.int .i64 t279, .int .i64 t280, .slice Ao25 t281.length co25] 24 (0, 0)) (by (with_reducible repeat (first | refine blk_drewN ?_ _ | refine blk_drew ?_ | refine blk_alloc ?_ _)); refine blk_far ?_ NB285_306.out _; (with_reducible repeat (first | refine blk_drewN ?_ _ | refine blk_drew ?_ | refine blk_alloc ?_ _)); refine blk_far ?_ NB285_306.out _; (with_reducible repeat (first | refine blk_drewN ?_ _ | refine blk_drew ?_ | refine blk_alloc ?_ _)); refine blk_far ?_ NB285_306.out _; (with_reducible repeat (first | refine blk_drewN ?_ _ | refine blk_drew ?_ | refine blk_alloc ?_ _)); exact BK285.out) hb); have n8_ := Aside0.mk (blk_below (g := gb292) (o := .cells #[.int .i64 t286, .int .i64 t287, .slice Ao33 t288.length co33] 24 (0, 0)) (by (with_reducible repeat (first | refine blk_drewN ?_ _ | refine blk_drew ?_ | refine blk_alloc ?_ _)); refine blk_far ?_ NB292_306.out _; (with_reducible repeat (first | refine blk_drewN ?_ _ | refine blk_drew ?_ | refine blk_alloc ?_ _)); refine blk_far ?_ NB292_306.out _; (with_reducible repeat (first | refine blk_drewN ?_ _ | refine blk_drew ?_ | refine blk_alloc ?_ _)); refine blk_far ?_ NB292_306.out _; (with_reducible repeat (first | refine blk_drewN ?_ _ | refine blk_drew ?_ | refine blk_alloc ?_ _)); exact BK292.out) hb); have n9_ := Aside0.mk (blk_below (g := gb299) (o := .cells #[.int .i64 t293, .int .i64 t294, .slice Ao44 t295.length co44] 24 (0, 0)) (by (with_reducible repeat (first | refine blk_drewN ?_ _ | refine blk_drew ?_ | refine blk_alloc ?_ _)); refine blk_far ?_ NB299_306.out _; (with_reducible repeat (first | refine blk_drewN ?_ _ | refine blk_drew ?_ | refine blk_alloc ?_ _)); refine blk_far ?_ NB299_306.out _; (with_reducible repeat (first | refine blk_drewN ?_ _ | refine blk_drew ?_ | refine blk_alloc ?_ _)); refine blk_far ?_ NB299_306.out _; (with_reducible repeat (first | refine blk_drewN ?_ _ | refine blk_drew ?_ | refine blk_alloc ?_ _)); exact BK299.out) hb); have n10_ := Aside0.mk (blk_below (g := gb306) (o := .cells #[.int .i64 t300, .int .i64 t301, .slice Ao54 t302.length co54] 24 (0, 0)) (by (with_reducible repeat (first | refine blk_drewN ?_ _ | refine blk_drew ?_ | refine blk_alloc ?_ _)); refine blk_put (cs := #[.int .i64 t300, .int .i64 t301, .slice none 0 0]) ?_ 2 _ rfl; (with_reducible repeat (first | refine blk_drewN ?_ _ | refine blk_drew ?_ | refine blk_alloc ?_ _)); refine blk_put (cs := #[.int .i64 t300, .int .i64 0, .slice none 0 0]) ?_ 1 _ rfl; (with_reducible repeat (first | refine blk_drewN ?_ _ | refine blk_drew ?_ | refine blk_alloc ?_ _)); refine blk_put (cs := #[.int .i64 0, .int .i64 0, .slice none 0 0]) ?_ 0 _ rfl; (with_reducible repeat (first | refine blk_drewN ?_ _ | refine blk_drew ?_ | refine blk_alloc ?_ _)); exact BK306.out) hb); have n11_ := Aside0.mk (below_step (by repeat (first | (with_reducible first | exact HB.out | apply below_alloc | apply pw_below_drewN | apply below_drew1 | refine below_set ?_ (IsS52.ge HI269.out) | refine below_set ?_ GE276.out | refine below_set ?_ GE285.out | refine below_set ?_ GE292.out | refine below_set ?_ GE299.out | refine below_set ?_ GE306.out) | exact HB.out)) hb); clear HO274; clear HO283; clear HO290; clear HO297; clear HO304; clear HI269; clear BK276; clear BK285; clear BK292; clear BK299; clear BK306; clear HB; have HO274 := n0_; have HO283 := n1_; have HO290 := n2_; have HO297 := n3_; have HO304 := n4_; have HI269 := n5_; have BK276 := n6_; have BK285 := n7_; have BK292 := n8_; have BK299 := n9_; have BK306 := n10_; have HB := n11_; clear n0_ n1_ n2_ n3_ n4_ n5_ n6_ n7_ n8_ n9_ n10_ n11_; (try clear hb); (try clear hb2); (try clear hk); (try clear hi)))
            go_meet
            case rel => exact ⟨_, (!t307), (by first | rfl | (simp; done) | (simp [*]; done)), H', ⟨by first | omega | exact Nat.le_refl _⟩, ⟨by (with_reducible repeat (first | apply Kd.R_alloc | apply Kd.R_drewN | apply Kd.R_drew)); exact Kd.R_mono HO274.out (fun _ hk => ⟨hk.1.1.1, ⟨hk.1.1.2, ⟨hk.1.2, hk.2⟩⟩⟩)⟩, ⟨by (with_reducible repeat (first | apply Kd.R_alloc | apply Kd.R_drewN | apply Kd.R_drew)); exact Kd.R_mono HO283.out (fun _ hk => ⟨hk.1.1.1, ⟨hk.1.1.2, ⟨hk.1.2, hk.2⟩⟩⟩)⟩, ⟨by (with_reducible repeat (first | apply Kd.R_alloc | apply Kd.R_drewN | apply Kd.R_drew)); exact Kd.R_mono HO290.out (fun _ hk => ⟨hk.1.1.1, ⟨hk.1.1.2, ⟨hk.1.2, hk.2⟩⟩⟩)⟩, ⟨by (with_reducible repeat (first | apply Kd.R_alloc | apply Kd.R_drewN | apply Kd.R_drew)); exact Kd.R_mono HO297.out (fun _ hk => ⟨hk.1.1.1.2, ⟨hk.1.1.2, ⟨hk.1.2, hk.2⟩⟩⟩)⟩, ⟨by (with_reducible repeat (first | apply Kd.R_alloc | apply Kd.R_drewN | apply Kd.R_drew)); exact Kd.R_mono HO304.out (fun _ hk => ⟨hk.1.1.1.2, ⟨hk.1.1.2, ⟨hk.1.2, hk.2⟩⟩⟩)⟩, ⟨by (with_reducible repeat (first | refine blk_drewN ?_ _ | refine blk_drew ?_ | refine blk_alloc ?_ _)); exact BK276.out⟩, ⟨by (with_reducible repeat (first | refine blk_drewN ?_ _ | refine blk_drew ?_ | refine blk_alloc ?_ _)); exact BK285.out⟩, ⟨by (with_reducible repeat (first | refine blk_drewN ?_ _ | refine blk_drew ?_ | refine blk_alloc ?_ _)); exact BK292.out⟩, ⟨by (with_reducible repeat (first | refine blk_drewN ?_ _ | refine blk_drew ?_ | refine blk_alloc ?_ _)); exact BK299.out⟩, ⟨by (with_reducible repeat (first | refine blk_drewN ?_ _ | refine blk_drew ?_ | refine blk_alloc ?_ _)); exact BK306.out⟩, ⟨by repeat (first | (with_reducible first | exact HB.out | apply below_alloc | apply pw_below_drewN | apply below_drew1 | refine below_set ?_ (IsS52.ge HI269.out) | refine below_set ?_ GE276.out | refine below_set ?_ GE285.out | refine below_set ?_ GE292.out | refine below_set ?_ GE299.out | refine below_set ?_ GE306.out) | exact HB.out)⟩⟩
          · exact absurd K176_3.out c58
        · exact absurd K176_2.out c57
      · exact absurd K176_1.out c56
    · exact absurd K176_0.out c55
  case rest =>
    clear HC13
    try clear c1
    try clear c2
    try clear p2
    try clear c3
    try clear c4
    try clear c5
    try clear c6
    try clear p6
    try clear c7
    try clear c8
    try clear c9
    try clear c10
    try clear c17
    try clear c22
    try clear c23
    try clear c29
    try clear c30
    try clear c31
    try clear c39
    try clear c40
    try clear c41
    try clear c42
    try clear c48
    try clear c49
    try clear c50
    try clear c51
    try clear c52
    try clear c55
    try clear c55b0
    try clear c55b1
    try clear c56
    try clear c56b0
    try clear c56b1
    try clear c57
    try clear c57b0
    try clear c57b1
    try clear c58
    try clear c58b0
    try clear c58b1
    try clear c60
    try clear c61
    try clear c62
    try clear c63
    try clear c64
    try clear p64
    try clear c66
    try clear c67
    try clear c68
    try clear c69
    try clear hcz18_0
    try clear hcz18_1
    try clear hcz18_2
    try clear hcz24_0
    try clear hcz24_1
    try clear hcz24_2
    try clear hcz26_0
    try clear hcz26_1
    try clear hcz26_2
    try clear hcz32_0
    try clear hcz32_1
    try clear hcz32_2
    try clear hcz35_0
    try clear hcz35_1
    try clear hcz35_2
    try clear hcz36_0
    try clear hcz36_1
    try clear hcz36_2
    try clear hcz43_0
    try clear hcz43_1
    try clear hcz43_2
    try clear hcz45_0
    try clear hcz45_1
    try clear hcz45_2
    try clear hcz53_0
    try clear hcz53_1
    try clear hcz53_2
    try clear hcz65_0
    try clear hcz65_1
    try clear hcz65_2
    try clear hcz70_0
    try clear hcz70_1
    try clear hcz70_2
    try clear hfz18_0
    try clear hfz18_1
    try clear hfz18_2
    try clear hfz24_0
    try clear hfz24_1
    try clear hfz24_2
    try clear hfz26_0
    try clear hfz26_1
    try clear hfz26_2
    try clear hfz32_0
    try clear hfz32_1
    try clear hfz32_2
    try clear hfz35_0
    try clear hfz35_1
    try clear hfz35_2
    try clear hfz36_0
    try clear hfz36_1
    try clear hfz36_2
    try clear hfz43_0
    try clear hfz43_1
    try clear hfz43_2
    try clear hfz45_0
    try clear hfz45_1
    try clear hfz45_2
    try clear hfz53_0
    try clear hfz53_1
    try clear hfz53_2
    try clear hfz65_0
    try clear hfz65_1
    try clear hfz65_2
    try clear hfz70_0
    try clear hfz70_1
    try clear hfz70_2
    obtain ⟨kq, x90_12, rfl, HA, HJ12, HO_277002, HO_286002, HO_293002, HO_300002, HO_307002, BK276, BK285, BK292, BK299, BK306, HB⟩ := hcut
    cases kq with
    | zero => exact absurd HA.out (by simp [shapesearchlaw09_SeriesParts.j0])
    | succ kj12 =>
      have H := HA.out
      clear HA
      simp only [shapesearchlaw09_SeriesParts.j0] at H
      by_cases c72 : x90_12 = true
      · subst c72
        have H1 : (some false) = some r := by rw [if_pos rfl] at H; exact H
        exact absurd ((Option.some.inj H1).trans hT.out) (by decide)
      · replace c72 := Bool.eq_false_iff.mpr c72
        subst c72
        have H1 : ((series_Join.f kj12 t279 t280 t281 (wrap64 (t286 + (wrap64 (t271 * (wrap64 (a3)))))) t287 t288).bind fun bt309 => (if bt309.2.2.2 = 0 then (shapesearchlaw09_SeriesParts.j1 kj12 a3 t277 t278 ((bt309.2.2.1.length : Int) != (wrap64 ((wrap64 (t277 + (wrap64 (a3)))) + t278))) t279 t280 t281 (wrap64 (t286 + (wrap64 (t271 * (wrap64 (a3)))))) t287 t288 bt309.1 bt309.2.1 bt309.2.2.1) else (shapesearchlaw09_SeriesParts.j1 kj12 a3 t277 t278 true t279 t280 t281 (wrap64 (t286 + (wrap64 (t271 * (wrap64 (a3)))))) t287 t288 bt309.1 bt309.2.1 bt309.2.2.1))) = some r := by rw [if_neg (show ¬ (false = true) by decide)] at H; exact H
        clear H
        have H := H1
        clear H1
        replace H := Option.bind_eq_some_iff.mp H
        obtain ⟨⟨t309, t310, t311, t314⟩, A730, H⟩ := H
        replace H : (if t314 = 0 then (shapesearchlaw09_SeriesParts.j1 kj12 a3 t277 t278 ((t311.length : Int) != (wrap64 ((wrap64 (t277 + (wrap64 (a3)))) + t278))) t279 t280 t281 (wrap64 (t286 + (wrap64 (t271 * (wrap64 (a3)))))) t287 t288 t309 t310 t311) else (shapesearchlaw09_SeriesParts.j1 kj12 a3 t277 t278 true t279 t280 t281 (wrap64 (t286 + (wrap64 (t271 * (wrap64 (a3)))))) t287 t288 t309 t310 t311)) = some r := H
        have HT403 := H.trans (congrArg some hT.out)
        replace HT403 := shapesearchlaw09_SeriesParts.not_no (shapesearchlaw09_SeriesParts.j1_not _ _ _ _ _ _ _ _ _ _ _ _ _) HT403
        have K403_0 := Aside0.mk HT403.1
        replace HT403 := HT403.2
        clear HT403
        have A73 := Aside0.mk A730
        clear A730
        have HC74 := Aside0.mk H
        clear H
        have hnb75 := NB292_276.out
        have hnc75 := NB276_292.out
        have hnb76 := NB292_285.out
        have hnc76 := NB285_292.out
        have hnb77 := NB292_299.out
        have hnc77 := NB299_292.out
        have hnb78 := NB292_306.out
        have hnc78 := NB306_292.out
        have hcz79_0 : wc.cell? ⟨gb292, 0, none⟩ = some (.int .i64 t286) := (blk_cell BK292.out 0).trans rfl
        have hcz79_1 : wc.cell? ⟨gb292, 1, none⟩ = some (.int .i64 t287) := (blk_cell BK292.out 1).trans rfl
        have hcz79_2 : wc.cell? ⟨gb292, 2, none⟩ = some (.slice Ao33 t288.length co33) := (blk_cell BK292.out 2).trans rfl
        have hfz79_0 := blk_frozen BK292.out 0
        have hfz79_1 := blk_frozen BK292.out 1
        have hfz79_2 := blk_frozen BK292.out 2
        go_upto_region 13 with (first | ((with_reducible refine gate_dst (N := 20) rfl ?_); (try (refine gate_guard (by rfl) ?_; dsimp only)); refine box_event ?hg (N := 20) ?hd (cs := #[.int .i64 0, .int .i64 0, .slice none 0 0]) (t := 24) ?hr ?_; (case hd => rfl); (case hg => rfl); (case hr => first | (go_simp; done) | (go_simp; rfl)); intro gb308 hg w80 hbox hb; have n0_ := Aside0.mk (Kd.R_below (by (with_reducible repeat (first | apply Kd.R_alloc | apply Kd.R_drewN | apply Kd.R_drew)); exact HO_277002.out) hb); have n1_ := Aside0.mk (Kd.R_below (by (with_reducible repeat (first | apply Kd.R_alloc | apply Kd.R_drewN | apply Kd.R_drew)); exact HO_286002.out) hb); have n2_ := Aside0.mk (Kd.R_below (by (with_reducible repeat (first | apply Kd.R_alloc | apply Kd.R_drewN | apply Kd.R_drew)); exact HO_293002.out) hb); have n3_ := Aside0.mk (Kd.R_below (by (with_reducible repeat (first | apply Kd.R_alloc | apply Kd.R_drewN | apply Kd.R_drew)); exact HO_300002.out) hb); have n4_ := Aside0.mk (Kd.R_below (by (with_reducible repeat (first | apply Kd.R_alloc | apply Kd.R_drewN | apply Kd.R_drew)); exact HO_307002.out) hb); have n5_ := Aside0.mk (blk_below (g := gb276) (o := .cells #[.int .i64 t270, .int .i64 t271, .slice Ao19 t272.length co19] 24 (0, 0)) (by (with_reducible repeat (first | refine blk_drewN ?_ _ | refine blk_drew ?_ | refine blk_alloc ?_ _)); exact BK276.out) hb); have n6_ := Aside0.mk (blk_below (g := gb285) (o := .cells #[.int .i64 t279, .int .i64 t280, .slice Ao25 t281.length co25] 24 (0, 0)) (by (with_reducible repeat (first | refine blk_drewN ?_ _ | refine blk_drew ?_ | refine blk_alloc ?_ _)); exact BK285.out) hb); have n7_ := Aside0.mk (blk_below (g := gb292) (o := .cells #[.int .i64 t286, .int .i64 t287, .slice Ao33 t288.length co33] 24 (0, 0)) (by (with_reducible repeat (first | refine blk_drewN ?_ _ | refine blk_drew ?_ | refine blk_alloc ?_ _)); exact BK292.out) hb); have n8_ := Aside0.mk (blk_below (g := gb299) (o := .cells #[.int .i64 t293, .int .i64 t294, .slice Ao44 t295.length co44] 24 (0, 0)) (by (with_reducible repeat (first | refine blk_drewN ?_ _ | refine blk_drew ?_ | refine blk_alloc ?_ _)); exact BK299.out) hb); have n9_ := Aside0.mk (blk_below (g := gb306) (o := .cells #[.int .i64 t300, .int .i64 t301, .slice Ao54 t302.length co54] 24 (0, 0)) (by (with_reducible repeat (first | refine blk_drewN ?_ _ | refine blk_drew ?_ | refine blk_alloc ?_ _)); exact BK306.out) hb); have n10_ := Aside0.mk (below_step (by repeat (first | (with_reducible first | exact HB.out | apply below_alloc | apply pw_below_drewN | apply below_drew1 | refine below_set ?_ GE276.out | refine below_set ?_ GE285.out | refine below_set ?_ GE292.out | refine below_set ?_ GE299.out | refine below_set ?_ GE306.out) | exact HB.out)) hb); have n11_ := Aside0.mk (hbox); have n12_ := Aside0.mk ((by rw [hg]; exact (below_size (by repeat (first | (with_reducible first | exact HB.out | apply below_alloc | apply pw_below_drewN | apply below_drew1 | refine below_set ?_ GE276.out | refine below_set ?_ GE285.out | refine below_set ?_ GE292.out | refine below_set ?_ GE299.out | refine below_set ?_ GE306.out) | exact HB.out))) : w.heap.size ≤ gb308)); have n13_ := Aside0.mk ((by rw [hg]; exact (below_size (by repeat (first | (with_reducible first | exact HB.out | apply below_alloc | apply pw_below_drewN | apply below_drew1 | refine below_set ?_ GE276.out | refine below_set ?_ GE285.out | refine below_set ?_ GE292.out | refine below_set ?_ GE299.out | refine below_set ?_ GE306.out) | exact HB.out))) : w.heap.size ≤ gb308)); have n14_ := Aside0.mk ((by rw [hg]; exact Nat.ne_of_lt (blk_lt (g := gb276) (o := .cells #[.int .i64 t270, .int .i64 t271, .slice Ao19 t272.length co19] 24 (0, 0)) (by (with_reducible repeat (first | refine blk_drewN ?_ _ | refine blk_drew ?_ | refine blk_alloc ?_ _)); exact BK276.out)) : gb276 ≠ gb308)); have n15_ := Aside0.mk ((by rw [hg]; exact Nat.ne_of_gt (blk_lt (g := gb276) (o := .cells #[.int .i64 t270, .int .i64 t271, .slice Ao19 t272.length co19] 24 (0, 0)) (by (with_reducible repeat (first | refine blk_drewN ?_ _ | refine blk_drew ?_ | refine blk_alloc ?_ _)); exact BK276.out)) : gb308 ≠ gb276)); have n16_ := Aside0.mk ((by rw [hg]; exact Nat.ne_of_lt (blk_lt (g := gb285) (o := .cells #[.int .i64 t279, .int .i64 t280, .slice Ao25 t281.length co25] 24 (0, 0)) (by (with_reducible repeat (first | refine blk_drewN ?_ _ | refine blk_drew ?_ | refine blk_alloc ?_ _)); exact BK285.out)) : gb285 ≠ gb308)); have n17_ := Aside0.mk ((by rw [hg]; exact Nat.ne_of_gt (blk_lt (g := gb285) (o := .cells #[.int .i64 t279, .int .i64 t280, .slice Ao25 t281.length co25] 24 (0, 0)) (by (with_reducible repeat (first | refine blk_drewN ?_ _ | refine blk_drew ?_ | refine blk_alloc ?_ _)); exact BK285.out)) : gb308 ≠ gb285)); have n18_ := Aside0.mk ((by rw [hg]; exact Nat.ne_of_lt (blk_lt (g := gb292) (o := .cells #[.int .i64 t286, .int .i64 t287, .slice Ao33 t288.length co33] 24 (0, 0)) (by (with_reducible repeat (first | refine blk_drewN ?_ _ | refine blk_drew ?_ | refine blk_alloc ?_ _)); exact BK292.out)) : gb292 ≠ gb308)); have n19_ := Aside0.mk ((by rw [hg]; exact Nat.ne_of_gt (blk_lt (g := gb292) (o := .cells #[.int .i64 t286, .int .i64 t287, .slice Ao33 t288.length co33] 24 (0, 0)) (by (with_reducible repeat (first | refine blk_drewN ?_ _ | refine blk_drew ?_ | refine blk_alloc ?_ _)); exact BK292.out)) : gb308 ≠ gb292)); have n20_ := Aside0.mk ((by rw [hg]; exact Nat.ne_of_lt (blk_lt (g := gb299) (o := .cells #[.int .i64 t293, .int .i64 t294, .slice Ao44 t295.length co44] 24 (0, 0)) (by (with_reducible repeat (first | refine blk_drewN ?_ _ | refine blk_drew ?_ | refine blk_alloc ?_ _)); exact BK299.out)) : gb299 ≠ gb308)); have n21_ := Aside0.mk ((by rw [hg]; exact Nat.ne_of_gt (blk_lt (g := gb299) (o := .cells #[.int .i64 t293, .int .i64 t294, .slice Ao44 t295.length co44] 24 (0, 0)) (by (with_reducible repeat (first | refine blk_drewN ?_ _ | refine blk_drew ?_ | refine blk_alloc ?_ _)); exact BK299.out)) : gb308 ≠ gb299)); have n22_ := Aside0.mk ((by rw [hg]; exact Nat.ne_of_lt (blk_lt (g := gb306) (o := .cells #[.int .i64 t300, .int .i64 t301, .slice Ao54 t302.length co54] 24 (0, 0)) (by (with_reducible repeat (first | refine blk_drewN ?_ _ | refine blk_drew ?_ | refine blk_alloc ?_ _)); exact BK306.out)) : gb306 ≠ gb308)); have n23_ := Aside0.mk ((by rw [hg]; exact Nat.ne_of_gt (blk_lt (g := gb306) (o := .cells #[.int .i64 t300, .int .i64 t301, .slice Ao54 t302.length co54] 24 (0, 0)) (by (with_reducible repeat (first | refine blk_drewN ?_ _ | refine blk_drew ?_ | refine blk_alloc ?_ _)); exact BK306.out)) : gb308 ≠ gb306)); clear HO_277002; clear HO_286002; clear HO_293002; clear HO_300002; clear HO_307002; clear BK276; clear BK285; clear BK292; clear BK299; clear BK306; clear HB; have HO_277002 := n0_; have HO_286002 := n1_; have HO_293002 := n2_; have HO_300002 := n3_; have HO_307002 := n4_; have BK276 := n5_; have BK285 := n6_; have BK292 := n7_; have BK299 := n8_; have BK306 := n9_; have HB := n10_; have BK308 := n11_; have GW308 := n12_; have GE308 := n13_; have NB276_308 := n14_; have NB308_276 := n15_; have NB285_308 := n16_; have NB308_285 := n17_; have NB292_308 := n18_; have NB308_292 := n19_; have NB299_308 := n20_; have NB308_299 := n21_; have NB306_308 := n22_; have NB308_306 := n23_; clear n0_ n1_ n2_ n3_ n4_ n5_ n6_ n7_ n8_ n9_ n10_ n11_ n12_ n13_ n14_ n15_ n16_ n17_ n18_ n19_ n20_ n21_ n22_ n23_; clear hb hbox hg; have hnb81 := NB308_276.out; have hnc81 := NB276_308.out; have hnb82 := NB308_285.out; have hnc82 := NB285_308.out; have hnb83 := NB308_292.out; have hnc83 := NB292_308.out; have hnb84 := NB308_299.out; have hnc84 := NB299_308.out; have hnb85 := NB308_306.out; have hnc85 := NB306_308.out; have hcz86_0 : w80.cell? ⟨gb308, 0, none⟩ = some (.int .i64 0) := (blk_cell BK308.out 0).trans rfl; have hcz86_1 : w80.cell? ⟨gb308, 1, none⟩ = some (.int .i64 0) := (blk_cell BK308.out 1).trans rfl; have hcz86_2 : w80.cell? ⟨gb308, 2, none⟩ = some (.slice none 0 0) := (blk_cell BK308.out 2).trans rfl; have hfz86_0 := blk_frozen BK308.out 0; have hfz86_1 := blk_frozen BK308.out 1; have hfz86_2 := blk_frozen BK308.out 2) | ((with_reducible refine gate_store (t := 24) (p := 20) rfl ?_); refine store_event (t := 24) (p := 20) (v := ?vo_w87) (w1 := (((w80.setCell ⟨gb308, 0, none⟩ (.int .i64 t286)).setCell ⟨gb308, 1, none⟩ (.int .i64 t287)).setCell ⟨gb308, 2, none⟩ (.slice Ao33 t288.length co33))) ?hg ?ho ?hn ?hr ?_; (case ho => rfl); (case hg => rfl); (case hn => rfl); (case hr => first | (go_simp; done) | (go_simp; rfl)); intro w87 hw; have n0_ : Aside0 (Kd.R (Kd.int .i64) 3 w87 w.heap.size (fun k_ => some k_ ≠ (.slice Ao25 t281.length co25 : Value).ownBlock ∧ some k_ ≠ (.slice Ao33 t288.length co33 : Value).ownBlock ∧ some k_ ≠ (.slice Ao44 t295.length co44 : Value).ownBlock ∧ some k_ ≠ (.slice Ao54 t302.length co54 : Value).ownBlock) (.slice Ao19 t272.length co19) t272) := ⟨(by rw [hw]; exact (by (with_reducible repeat (first | apply Kd.R_alloc | apply Kd.R_drewN | apply Kd.R_drew)); exact Kd.R_mono (Kd.R_far (p := ⟨gb308, 2, none⟩) (Kd.R_far (p := ⟨gb308, 1, none⟩) (Kd.R_far (p := ⟨gb308, 0, none⟩) (Kd.R_types HO_277002.out BK308.out (by decide)) (fun _ hk => hk.2) (.int .i64 t286)) (fun _ hk => hk.2) (.int .i64 t287)) (fun _ hk => hk.2) (.slice Ao33 t288.length co33)) (fun _ hk => ⟨hk.1.1, ⟨hk.1.2.1, ⟨hk.1.2.2.1, hk.1.2.2.2⟩⟩⟩)))⟩; have n1_ : Aside0 (Kd.R (Kd.int .i64) 3 w87 w.heap.size (fun k_ => some k_ ≠ (.slice Ao19 t272.length co19 : Value).ownBlock ∧ some k_ ≠ (.slice Ao33 t288.length co33 : Value).ownBlock ∧ some k_ ≠ (.slice Ao44 t295.length co44 : Value).ownBlock ∧ some k_ ≠ (.slice Ao54 t302.length co54 : Value).ownBlock) (.slice Ao25 t281.length co25) t281) := ⟨(by rw [hw]; exact (by (with_reducible repeat (first | apply Kd.R_alloc | apply Kd.R_drewN | apply Kd.R_drew)); exact Kd.R_mono (Kd.R_far (p := ⟨gb308, 2, none⟩) (Kd.R_far (p := ⟨gb308, 1, none⟩) (Kd.R_far (p := ⟨gb308, 0, none⟩) (Kd.R_types HO_286002.out BK308.out (by decide)) (fun _ hk => hk.2) (.int .i64 t286)) (fun _ hk => hk.2) (.int .i64 t287)) (fun _ hk => hk.2) (.slice Ao33 t288.length co33)) (fun _ hk => ⟨hk.1.1, ⟨hk.1.2.1, ⟨hk.1.2.2.1, hk.1.2.2.2⟩⟩⟩)))⟩; have n2_ : Aside0 (Kd.R (Kd.int .i64) 3 w87 w.heap.size (fun k_ => some k_ ≠ (.slice Ao19 t272.length co19 : Value).ownBlock ∧ some k_ ≠ (.slice Ao25 t281.length co25 : Value).ownBlock ∧ some k_ ≠ (.slice Ao44 t295.length co44 : Value).ownBlock ∧ some k_ ≠ (.slice Ao54 t302.length co54 : Value).ownBlock) (.slice Ao33 t288.length co33) t288) := ⟨(by rw [hw]; exact (by (with_reducible repeat (first | apply Kd.R_alloc | apply Kd.R_drewN | apply Kd.R_drew)); exact Kd.R_mono (Kd.R_far (p := ⟨gb308, 2, none⟩) (Kd.R_far (p := ⟨gb308, 1, none⟩) (Kd.R_far (p := ⟨gb308, 0, none⟩) (Kd.R_types HO_293002.out BK308.out (by decide)) (fun _ hk => hk.2) (.int .i64 t286)) (fun _ hk => hk.2) (.int .i64 t287)) (fun _ hk => hk.2) (.slice Ao33 t288.length co33)) (fun _ hk => ⟨hk.1.1, ⟨hk.1.2.1, ⟨hk.1.2.2.1, hk.1.2.2.2⟩⟩⟩)))⟩; have n3_ : Aside0 (Kd.R (Kd.int .i64) 3 w87 w.heap.size (fun k_ => some k_ ≠ (.slice Ao19 t272.length co19 : Value).ownBlock ∧ some k_ ≠ (.slice Ao25 t281.length co25 : Value).ownBlock ∧ some k_ ≠ (.slice Ao33 t288.length co33 : Value).ownBlock ∧ some k_ ≠ (.slice Ao54 t302.length co54 : Value).ownBlock) (.slice Ao44 t295.length co44) t295) := ⟨(by rw [hw]; exact (by (with_reducible repeat (first | apply Kd.R_alloc | apply Kd.R_drewN | apply Kd.R_drew)); exact Kd.R_mono (Kd.R_far (p := ⟨gb308, 2, none⟩) (Kd.R_far (p := ⟨gb308, 1, none⟩) (Kd.R_far (p := ⟨gb308, 0, none⟩) (Kd.R_types HO_300002.out BK308.out (by decide)) (fun _ hk => hk.2) (.int .i64 t286)) (fun _ hk => hk.2) (.int .i64 t287)) (fun _ hk => hk.2) (.slice Ao33 t288.length co33)) (fun _ hk => ⟨hk.1.1, ⟨hk.1.2.1, ⟨hk.1.2.2.1, hk.1.2.2.2⟩⟩⟩)))⟩; have n4_ : Aside0 (Kd.R (Kd.int .i64) 3 w87 w.heap.size (fun k_ => some k_ ≠ (.slice Ao19 t272.length co19 : Value).ownBlock ∧ some k_ ≠ (.slice Ao25 t281.length co25 : Value).ownBlock ∧ some k_ ≠ (.slice Ao33 t288.length co33 : Value).ownBlock ∧ some k_ ≠ (.slice Ao44 t295.length co44 : Value).ownBlock) (.slice Ao54 t302.length co54) t302) := ⟨(by rw [hw]; exact (by (with_reducible repeat (first | apply Kd.R_alloc | apply Kd.R_drewN | apply Kd.R_drew)); exact Kd.R_mono (Kd.R_far (p := ⟨gb308, 2, none⟩) (Kd.R_far (p := ⟨gb308, 1, none⟩) (Kd.R_far (p := ⟨gb308, 0, none⟩) (Kd.R_types HO_307002.out BK308.out (by decide)) (fun _ hk => hk.2) (.int .i64 t286)) (fun _ hk => hk.2) (.int .i64 t287)) (fun _ hk => hk.2) (.slice Ao33 t288.length co33)) (fun _ hk => ⟨hk.1.1, ⟨hk.1.2.1, ⟨hk.1.2.2.1, hk.1.2.2.2⟩⟩⟩)))⟩; have n5_ : Aside0 (w87.heap[gb276]? = some (.cells #[.int .i64 t270, .int .i64 t271, .slice Ao19 t272.length co19] 24 (0, 0))) := ⟨(by rw [hw]; exact (by (with_reducible repeat (first | refine blk_drewN ?_ _ | refine blk_drew ?_ | refine blk_alloc ?_ _)); refine blk_far ?_ NB276_308.out _; (with_reducible repeat (first | refine blk_drewN ?_ _ | refine blk_drew ?_ | refine blk_alloc ?_ _)); refine blk_far ?_ NB276_308.out _; (with_reducible repeat (first | refine blk_drewN ?_ _ | refine blk_drew ?_ | refine blk_alloc ?_ _)); refine blk_far ?_ NB276_308.out _; (with_reducible repeat (first | refine blk_drewN ?_ _ | refine blk_drew ?_ | refine blk_alloc ?_ _)); exact BK276.out))⟩; have n6_ : Aside0 (w87.heap[gb285]? = some (.cells #[.int .i64 t279, .int .i64 t280, .slice Ao25 t281.length co25] 24 (0, 0))) := ⟨(by rw [hw]; exact (by (with_reducible repeat (first | refine blk_drewN ?_ _ | refine blk_drew ?_ | refine blk_alloc ?_ _)); refine blk_far ?_ NB285_308.out _; (with_reducible repeat (first | refine blk_drewN ?_ _ | refine blk_drew ?_ | refine blk_alloc ?_ _)); refine blk_far ?_ NB285_308.out _; (with_reducible repeat (first | refine blk_drewN ?_ _ | refine blk_drew ?_ | refine blk_alloc ?_ _)); refine blk_far ?_ NB285_308.out _; (with_reducible repeat (first | refine blk_drewN ?_ _ | refine blk_drew ?_ | refine blk_alloc ?_ _)); exact BK285.out))⟩; have n7_ : Aside0 (w87.heap[gb292]? = some (.cells #[.int .i64 t286, .int .i64 t287, .slice Ao33 t288.length co33] 24 (0, 0))) := ⟨(by rw [hw]; exact (by (with_reducible repeat (first | refine blk_drewN ?_ _ | refine blk_drew ?_ | refine blk_alloc ?_ _)); refine blk_far ?_ NB292_308.out _; (with_reducible repeat (first | refine blk_drewN ?_ _ | refine blk_drew ?_ | refine blk_alloc ?_ _)); refine blk_far ?_ NB292_308.out _; (with_reducible repeat (first | refine blk_drewN ?_ _ | refine blk_drew ?_ | refine blk_alloc ?_ _)); refine blk_far ?_ NB292_308.out _; (with_reducible repeat (first | refine blk_drewN ?_ _ | refine blk_drew ?_ | refine blk_alloc ?_ _)); exact BK292.out))⟩; have n8_ : Aside0 (w87.heap[gb299]? = some (.cells #[.int .i64 t293, .int .i64 t294, .slice Ao44 t295.length co44] 24 (0, 0))) := ⟨(by rw [hw]; exact (by (with_reducible repeat (first | refine blk_drewN ?_ _ | refine blk_drew ?_ | refine blk_alloc ?_ _)); refine blk_far ?_ NB299_308.out _; (with_reducible repeat (first | refine blk_drewN ?_ _ | refine blk_drew ?_ | refine blk_alloc ?_ _)); refine blk_far ?_ NB299_308.out _; (with_reducible repeat (first | refine blk_drewN ?_ _ | refine blk_drew ?_ | refine blk_alloc ?_ _)); refine blk_far ?_ NB299_308.out _; (with_reducible repeat (first | refine blk_drewN ?_ _ | refine blk_drew ?_ | refine blk_alloc ?_ _)); exact BK299.out))⟩; have n9_ : Aside0 (w87.heap[gb306]? = some (.cells #[.int .i64 t300, .int .i64 t301, .slice Ao54 t302.length co54] 24 (0, 0))) := ⟨(by rw [hw]; exact (by (with_reducible repeat (first | refine blk_drewN ?_ _ | refine blk_drew ?_ | refine blk_alloc ?_ _)); refine blk_far ?_ NB306_308.out _; (with_reducible repeat (first | refine blk_drewN ?_ _ | refine blk_drew ?_ | refine blk_alloc ?_ _)); refine blk_far ?_ NB306_308.out _; (with_reducible repeat (first | refine blk_drewN ?_ _ | refine blk_drew ?_ | refine blk_alloc ?_ _)); refine blk_far ?_ NB306_308.out _; (with_reducible repeat (first | refine blk_drewN ?_ _ | refine blk_drew ?_ | refine blk_alloc ?_ _)); exact BK306.out))⟩; have n10_ : Aside0 (w87.heap[gb308]? = some (.cells #[.int .i64 t286, .int .i64 t287, .slice Ao33 t288.length co33] 24 (0, 0))) := ⟨(by rw [hw]; exact (by (with_reducible repeat (first | refine blk_drewN ?_ _ | refine blk_drew ?_ | refine blk_alloc ?_ _)); refine blk_put (cs := #[.int .i64 t286, .int .i64 t287, .slice none 0 0]) ?_ 2 _ rfl; (with_reducible repeat (first | refine blk_drewN ?_ _ | refine blk_drew ?_ | refine blk_alloc ?_ _)); refine blk_put (cs := #[.int .i64 t286, .int .i64 0, .slice none 0 0]) ?_ 1 _ rfl; (with_reducible repeat (first | refine blk_drewN ?_ _ | refine blk_drew ?_ | refine blk_alloc ?_ _)); refine blk_put (cs := #[.int .i64 0, .int .i64 0, .slice none 0 0]) ?_ 0 _ rfl; (with_reducible repeat (first | refine blk_drewN ?_ _ | refine blk_drew ?_ | refine blk_alloc ?_ _)); exact BK308.out))⟩; have n11_ : Aside0 (Below w.heap.size w w87) := ⟨(by rw [hw]; exact (by repeat (first | (with_reducible first | exact HB.out | apply below_alloc | apply pw_below_drewN | apply below_drew1 | refine below_set ?_ GE276.out | refine below_set ?_ GE285.out | refine below_set ?_ GE292.out | refine below_set ?_ GE299.out | refine below_set ?_ GE306.out | refine below_set ?_ GE308.out) | exact HB.out)))⟩; clear hw; clear HO_277002; clear HO_286002; clear HO_293002; clear HO_300002; clear HO_307002; clear BK276; clear BK285; clear BK292; clear BK299; clear BK306; clear BK308; clear HB; have HO_277002 := n0_; have HO_286002 := n1_; have HO_293002 := n2_; have HO_300002 := n3_; have HO_307002 := n4_; have BK276 := n5_; have BK285 := n6_; have BK292 := n7_; have BK299 := n8_; have BK306 := n9_; have BK308 := n10_; have HB := n11_; clear n0_ n1_ n2_ n3_ n4_ n5_ n6_ n7_ n8_ n9_ n10_ n11_; have hcz88_0 : w87.cell? ⟨gb308, 0, none⟩ = some (.int .i64 t286) := (blk_cell BK308.out 0).trans rfl; have hcz88_1 : w87.cell? ⟨gb308, 1, none⟩ = some (.int .i64 t287) := (blk_cell BK308.out 1).trans rfl; have hcz88_2 : w87.cell? ⟨gb308, 2, none⟩ = some (.slice Ao33 t288.length co33) := (blk_cell BK308.out 2).trans rfl; have hfz88_0 := blk_frozen BK308.out 0; have hfz88_1 := blk_frozen BK308.out 1; have hfz88_2 := blk_frozen BK308.out 2; have hnb89 := NB276_285.out; have hnc89 := NB285_276.out; have hnb90 := NB276_299.out; have hnc90 := NB299_276.out; have hnb91 := NB276_306.out; have hnc91 := NB306_276.out; have hcz92_0 : w87.cell? ⟨gb276, 0, none⟩ = some (.int .i64 t270) := (blk_cell BK276.out 0).trans rfl; have hcz92_1 : w87.cell? ⟨gb276, 1, none⟩ = some (.int .i64 t271) := (blk_cell BK276.out 1).trans rfl; have hcz92_2 : w87.cell? ⟨gb276, 2, none⟩ = some (.slice Ao19 t272.length co19) := (blk_cell BK276.out 2).trans rfl; have hfz92_0 := blk_frozen BK276.out 0; have hfz92_1 := blk_frozen BK276.out 1; have hfz92_2 := blk_frozen BK276.out 2) | ((with_reducible refine gate_store (t := 3) (p := 100) rfl ?_); refine store_event (t := 3) (p := 100) (v := ?vo_w93) (w1 := (w87.setCell ⟨gb308, 0, none⟩ (.int .i64 (wrap64 (t286 + (wrap64 (t271 * (wrap64 (a3))))))))) ?hg ?ho ?hn ?hr ?_; (case ho => rfl); (case hg => rfl); (case hn => rfl); (case hr => first | (go_simp; done) | (go_simp; rfl)); intro w93 hw; have n0_ : Aside0 (Kd.R (Kd.int .i64) 3 w93 w.heap.size (fun k_ => some k_ ≠ (.slice Ao25 t281.length co25 : Value).ownBlock ∧ some k_ ≠ (.slice Ao33 t288.length co33 : Value).ownBlock ∧ some k_ ≠ (.slice Ao44 t295.length co44 : Value).ownBlock ∧ some k_ ≠ (.slice Ao54 t302.length co54 : Value).ownBlock) (.slice Ao19 t272.length co19) t272) := ⟨(by rw [hw]; exact (by (with_reducible repeat (first | apply Kd.R_alloc | apply Kd.R_drewN | apply Kd.R_drew)); exact Kd.R_mono (Kd.R_far (p := ⟨gb308, 0, none⟩) (Kd.R_types HO_277002.out BK308.out (by decide)) (fun _ hk => hk.2) (.int .i64 (wrap64 (t286 + (wrap64 (t271 * (wrap64 (a3)))))))) (fun _ hk => ⟨hk.1.1, ⟨hk.1.2.1, ⟨hk.1.2.2.1, hk.1.2.2.2⟩⟩⟩)))⟩; have n1_ : Aside0 (Kd.R (Kd.int .i64) 3 w93 w.heap.size (fun k_ => some k_ ≠ (.slice Ao19 t272.length co19 : Value).ownBlock ∧ some k_ ≠ (.slice Ao33 t288.length co33 : Value).ownBlock ∧ some k_ ≠ (.slice Ao44 t295.length co44 : Value).ownBlock ∧ some k_ ≠ (.slice Ao54 t302.length co54 : Value).ownBlock) (.slice Ao25 t281.length co25) t281) := ⟨(by rw [hw]; exact (by (with_reducible repeat (first | apply Kd.R_alloc | apply Kd.R_drewN | apply Kd.R_drew)); exact Kd.R_mono (Kd.R_far (p := ⟨gb308, 0, none⟩) (Kd.R_types HO_286002.out BK308.out (by decide)) (fun _ hk => hk.2) (.int .i64 (wrap64 (t286 + (wrap64 (t271 * (wrap64 (a3)))))))) (fun _ hk => ⟨hk.1.1, ⟨hk.1.2.1, ⟨hk.1.2.2.1, hk.1.2.2.2⟩⟩⟩)))⟩; have n2_ : Aside0 (Kd.R (Kd.int .i64) 3 w93 w.heap.size (fun k_ => some k_ ≠ (.slice Ao19 t272.length co19 : Value).ownBlock ∧ some k_ ≠ (.slice Ao25 t281.length co25 : Value).ownBlock ∧ some k_ ≠ (.slice Ao44 t295.length co44 : Value).ownBlock ∧ some k_ ≠ (.slice Ao54 t302.length co54 : Value).ownBlock) (.slice Ao33 t288.length co33) t288) := ⟨(by rw [hw]; exact (by (with_reducible repeat (first | apply Kd.R_alloc | apply Kd.R_drewN | apply Kd.R_drew)); exact Kd.R_mono (Kd.R_far (p := ⟨gb308, 0, none⟩) (Kd.R_types HO_293002.out BK308.out (by decide)) (fun _ hk => hk.2) (.int .i64 (wrap64 (t286 + (wrap64 (t271 * (wrap64 (a3)))))))) (fun _ hk => ⟨hk.1.1, ⟨hk.1.2.1, ⟨hk.1.2.2.1, hk.1.2.2.2⟩⟩⟩)))⟩; have n3_ : Aside0 (Kd.R (Kd.int .i64) 3 w93 w.heap.size (fun k_ => some k_ ≠ (.slice Ao19 t272.length co19 : Value).ownBlock ∧ some k_ ≠ (.slice Ao25 t281.length co25 : Value).ownBlock ∧ some k_ ≠ (.slice Ao33 t288.length co33 : Value).ownBlock ∧ some k_ ≠ (.slice Ao54 t302.length co54 : Value).ownBlock) (.slice Ao44 t295.length co44) t295) := ⟨(by rw [hw]; exact (by (with_reducible repeat (first | apply Kd.R_alloc | apply Kd.R_drewN | apply Kd.R_drew)); exact Kd.R_mono (Kd.R_far (p := ⟨gb308, 0, none⟩) (Kd.R_types HO_300002.out BK308.out (by decide)) (fun _ hk => hk.2) (.int .i64 (wrap64 (t286 + (wrap64 (t271 * (wrap64 (a3)))))))) (fun _ hk => ⟨hk.1.1, ⟨hk.1.2.1, ⟨hk.1.2.2.1, hk.1.2.2.2⟩⟩⟩)))⟩; have n4_ : Aside0 (Kd.R (Kd.int .i64) 3 w93 w.heap.size (fun k_ => some k_ ≠ (.slice Ao19 t272.length co19 : Value).ownBlock ∧ some k_ ≠ (.slice Ao25 t281.length co25 : Value).ownBlock ∧ some k_ ≠ (.slice Ao33 t288.length co33 : Value).ownBlock ∧ some k_ ≠ (.slice Ao44 t295.length co44 : Value).ownBlock) (.slice Ao54 t302.length co54) t302) := ⟨(by rw [hw]; exact (by (with_reducible repeat (first | apply Kd.R_alloc | apply Kd.R_drewN | apply Kd.R_drew)); exact Kd.R_mono (Kd.R_far (p := ⟨gb308, 0, none⟩) (Kd.R_types HO_307002.out BK308.out (by decide)) (fun _ hk => hk.2) (.int .i64 (wrap64 (t286 + (wrap64 (t271 * (wrap64 (a3)))))))) (fun _ hk => ⟨hk.1.1, ⟨hk.1.2.1, ⟨hk.1.2.2.1, hk.1.2.2.2⟩⟩⟩)))⟩; have n5_ : Aside0 (w93.heap[gb276]? = some (.cells #[.int .i64 t270, .int .i64 t271, .slice Ao19 t272.length co19] 24 (0, 0))) := ⟨(by rw [hw]; exact (by (with_reducible repeat (first | refine blk_drewN ?_ _ | refine blk_drew ?_ | refine blk_alloc ?_ _)); refine blk_far ?_ NB276_308.out _; (with_reducible repeat (first | refine blk_drewN ?_ _ | refine blk_drew ?_ | refine blk_alloc ?_ _)); exact BK276.out))⟩; have n6_ : Aside0 (w93.heap[gb285]? = some (.cells #[.int .i64 t279, .int .i64 t280, .slice Ao25 t281.length co25] 24 (0, 0))) := ⟨(by rw [hw]; exact (by (with_reducible repeat (first | refine blk_drewN ?_ _ | refine blk_drew ?_ | refine blk_alloc ?_ _)); refine blk_far ?_ NB285_308.out _; (with_reducible repeat (first | refine blk_drewN ?_ _ | refine blk_drew ?_ | refine blk_alloc ?_ _)); exact BK285.out))⟩; have n7_ : Aside0 (w93.heap[gb292]? = some (.cells #[.int .i64 t286, .int .i64 t287, .slice Ao33 t288.length co33] 24 (0, 0))) := ⟨(by rw [hw]; exact (by (with_reducible repeat (first | refine blk_drewN ?_ _ | refine blk_drew ?_ | refine blk_alloc ?_ _)); refine blk_far ?_ NB292_308.out _; (with_reducible repeat (first | refine blk_drewN ?_ _ | refine blk_drew ?_ | refine blk_alloc ?_ _)); exact BK292.out))⟩; have n8_ : Aside0 (w93.heap[gb299]? = some (.cells #[.int .i64 t293, .int .i64 t294, .slice Ao44 t295.length co44] 24 (0, 0))) := ⟨(by rw [hw]; exact (by (with_reducible repeat (first | refine blk_drewN ?_ _ | refine blk_drew ?_ | refine blk_alloc ?_ _)); refine blk_far ?_ NB299_308.out _; (with_reducible repeat (first | refine blk_drewN ?_ _ | refine blk_drew ?_ | refine blk_alloc ?_ _)); exact BK299.out))⟩; have n9_ : Aside0 (w93.heap[gb306]? = some (.cells #[.int .i64 t300, .int .i64 t301, .slice Ao54 t302.length co54] 24 (0, 0))) := ⟨(by rw [hw]; exact (by (with_reducible repeat (first | refine blk_drewN ?_ _ | refine blk_drew ?_ | refine blk_alloc ?_ _)); refine blk_far ?_ NB306_308.out _; (with_reducible repeat (first | refine blk_drewN ?_ _ | refine blk_drew ?_ | refine blk_alloc ?_ _)); exact BK306.out))⟩; have n10_ : Aside0 (w93.heap[gb308]? = some (.cells #[.int .i64 (wrap64 (t286 + (wrap64 (t271 * (wrap64 (a3)))))), .int .i64 t287, .slice Ao33 t288.length co33] 24 (0, 0))) := ⟨(by rw [hw]; exact (by (with_reducible repeat (first | refine blk_drewN ?_ _ | refine blk_drew ?_ | refine blk_alloc ?_ _)); refine blk_put (cs := #[.int .i64 t286, .int .i64 t287, .slice Ao33 t288.length co33]) ?_ 0 _ rfl; (with_reducible repeat (first | refine blk_drewN ?_ _ | refine blk_drew ?_ | refine blk_alloc ?_ _)); exact BK308.out))⟩; have n11_ : Aside0 (Below w.heap.size w w93) := ⟨(by rw [hw]; exact (by repeat (first | (with_reducible first | exact HB.out | apply below_alloc | apply pw_below_drewN | apply below_drew1 | refine below_set ?_ GE276.out | refine below_set ?_ GE285.out | refine below_set ?_ GE292.out | refine below_set ?_ GE299.out | refine below_set ?_ GE306.out | refine below_set ?_ GE308.out) | exact HB.out)))⟩; clear hw; clear HO_277002; clear HO_286002; clear HO_293002; clear HO_300002; clear HO_307002; clear BK276; clear BK285; clear BK292; clear BK299; clear BK306; clear BK308; clear HB; have HO_277002 := n0_; have HO_286002 := n1_; have HO_293002 := n2_; have HO_300002 := n3_; have HO_307002 := n4_; have BK276 := n5_; have BK285 := n6_; have BK292 := n7_; have BK299 := n8_; have BK306 := n9_; have BK308 := n10_; have HB := n11_; clear n0_ n1_ n2_ n3_ n4_ n5_ n6_ n7_ n8_ n9_ n10_ n11_; have hnb94 := NB285_299.out; have hnc94 := NB299_285.out; have hnb95 := NB285_306.out; have hnc95 := NB306_285.out; have hcz96_0 : w93.cell? ⟨gb285, 0, none⟩ = some (.int .i64 t279) := (blk_cell BK285.out 0).trans rfl; have hcz96_1 : w93.cell? ⟨gb285, 1, none⟩ = some (.int .i64 t280) := (blk_cell BK285.out 1).trans rfl; have hcz96_2 : w93.cell? ⟨gb285, 2, none⟩ = some (.slice Ao25 t281.length co25) := (blk_cell BK285.out 2).trans rfl; have hfz96_0 := blk_frozen BK285.out 0; have hfz96_1 := blk_frozen BK285.out 1; have hfz96_2 := blk_frozen BK285.out 2; have hcz97_0 : w93.cell? ⟨gb308, 0, none⟩ = some (.int .i64 (wrap64 (t286 + (wrap64 (t271 * (wrap64 (a3))))))) := (blk_cell BK308.out 0).trans rfl; have hcz97_1 : w93.cell? ⟨gb308, 1, none⟩ = some (.int .i64 t287) := (blk_cell BK308.out 1).trans rfl; have hcz97_2 : w93.cell? ⟨gb308, 2, none⟩ = some (.slice Ao33 t288.length co33) := (blk_cell BK308.out 2).trans rfl; have hfz97_0 := blk_frozen BK308.out 0; have hfz97_1 := blk_frozen BK308.out 1; have hfz97_2 := blk_frozen BK308.out 2) | ((with_reducible refine gate_callee (f := 10) rfl ?_); refine goesL_ (some 104) rfl rfl Try.func10 (by kernel_rfl) rfl #[.agg #[.int .i64 t279, .int .i64 t280, .slice Ao25 t281.length co25], .agg #[.int .i64 (wrap64 (t286 + (wrap64 (t271 * (wrap64 (a3)))))), .int .i64 t287, .slice Ao33 t288.length co33]] rfl (by (try simp only [List.map_toArray, List.map_cons, List.map_nil]); first | done | rfl | (simp only [List.length_drop, List.length_take]; rfl)) ?_; (with_reducible refine (series_Join.calls kj12 t279 t280 (fun k_ => some k_ = (.slice Ao25 t281.length co25 : Value).ownBlock) _ _ t281 (wrap64 (t286 + (wrap64 (t271 * (wrap64 (a3)))))) t287 (fun k_ => some k_ = (.slice Ao33 t288.length co33 : Value).ownBlock) _ _ t288 t309 t310 t311 t314 _ ?side1 ?side2 A73.out ⟨K403_0.out⟩).mono ?_); (case side1 => exact Kd.R_V (Kd.R_tight rfl (Kd.R_types (Kd.R_types (Kd.R_types (Kd.R_types (Kd.R_types (Kd.R_types (HO_286002.out) BK276.out (by decide)) BK285.out (by decide)) BK292.out (by decide)) BK299.out (by decide)) BK306.out (by decide)) BK308.out (by decide)))); (case side2 => exact Kd.R_V (Kd.R_tight rfl (Kd.R_types (Kd.R_types (Kd.R_types (Kd.R_types (Kd.R_types (Kd.R_types (HO_293002.out) BK276.out (by decide)) BK285.out (by decide)) BK292.out (by decide)) BK299.out (by decide)) BK306.out (by decide)) BK308.out (by decide)))); rintro e w98 ⟨v312, rfl, ho0, hb⟩; refine ⟨_, rfl, ?_⟩; have n0_ := Aside0.mk (Kd.R_elder' (by (with_reducible repeat (first | apply Kd.R_alloc | apply Kd.R_drewN | apply Kd.R_drew)); exact HO_277002.out) (Kd.R_base ho0) hb); have n1_ := Aside0.mk (Kd.R_elder' (by (with_reducible repeat (first | apply Kd.R_alloc | apply Kd.R_drewN | apply Kd.R_drew)); exact HO_286002.out) (Kd.R_base ho0) hb); have n2_ := Aside0.mk (Kd.R_elder' (by (with_reducible repeat (first | apply Kd.R_alloc | apply Kd.R_drewN | apply Kd.R_drew)); exact HO_293002.out) (Kd.R_base ho0) hb); have n3_ := Aside0.mk (Kd.R_elder' (by (with_reducible repeat (first | apply Kd.R_alloc | apply Kd.R_drewN | apply Kd.R_drew)); exact HO_300002.out) (Kd.R_base ho0) hb); have n4_ := Aside0.mk (Kd.R_elder' (by (with_reducible repeat (first | apply Kd.R_alloc | apply Kd.R_drewN | apply Kd.R_drew)); exact HO_307002.out) (Kd.R_base ho0) hb); have n5_ := Aside0.mk (Kd.R_lower (Kd.R_new' (Kd.R_new' (Kd.R_new' (Kd.R_new' (Kd.R_new' (Kd.R_mono (ok' := fun k_ => True) ho0 (fun _ hk_ => trivial)) (Kd.R_lt (by (with_reducible repeat (first | apply Kd.R_alloc | apply Kd.R_drewN | apply Kd.R_drew)); exact HO_277002.out))) (Kd.R_lt (by (with_reducible repeat (first | apply Kd.R_alloc | apply Kd.R_drewN | apply Kd.R_drew)); exact HO_286002.out))) (Kd.R_lt (by (with_reducible repeat (first | apply Kd.R_alloc | apply Kd.R_drewN | apply Kd.R_drew)); exact HO_293002.out))) (Kd.R_lt (by (with_reducible repeat (first | apply Kd.R_alloc | apply Kd.R_drewN | apply Kd.R_drew)); exact HO_300002.out))) (Kd.R_lt (by (with_reducible repeat (first | apply Kd.R_alloc | apply Kd.R_drewN | apply Kd.R_drew)); exact HO_307002.out))) (below_size (by repeat (first | (with_reducible first | exact HB.out | apply below_alloc | apply pw_below_drewN | apply below_drew1 | refine below_set ?_ GE276.out | refine below_set ?_ GE285.out | refine below_set ?_ GE292.out | refine below_set ?_ GE299.out | refine below_set ?_ GE306.out | refine below_set ?_ GE308.out) | exact HB.out)))); have n6_ := Aside0.mk (blk_below (g := gb276) (o := .cells #[.int .i64 t270, .int .i64 t271, .slice Ao19 t272.length co19] 24 (0, 0)) (by (with_reducible repeat (first | refine blk_drewN ?_ _ | refine blk_drew ?_ | refine blk_alloc ?_ _)); exact BK276.out) hb); have n7_ := Aside0.mk (blk_below (g := gb285) (o := .cells #[.int .i64 t279, .int .i64 t280, .slice Ao25 t281.length co25] 24 (0, 0)) (by (with_reducible repeat (first | refine blk_drewN ?_ _ | refine blk_drew ?_ | refine blk_alloc ?_ _)); exact BK285.out) hb); have n8_ := Aside0.mk (blk_below (g := gb292) (o := .cells #[.int .i64 t286, .int .i64 t287, .slice Ao33 t288.length co33] 24 (0, 0)) (by (with_reducible repeat (first | refine blk_drewN ?_ _ | refine blk_drew ?_ | refine blk_alloc ?_ _)); exact BK292.out) hb); have n9_ := Aside0.mk (blk_below (g := gb299) (o := .cells #[.int .i64 t293, .int .i64 t294, .slice Ao44 t295.length co44] 24 (0, 0)) (by (with_reducible repeat (first | refine blk_drewN ?_ _ | refine blk_drew ?_ | refine blk_alloc ?_ _)); exact BK299.out) hb); have n10_ := Aside0.mk (blk_below (g := gb306) (o := .cells #[.int .i64 t300, .int .i64 t301, .slice Ao54 t302.length co54] 24 (0, 0)) (by (with_reducible repeat (first | refine blk_drewN ?_ _ | refine blk_drew ?_ | refine blk_alloc ?_ _)); exact BK306.out) hb); have n11_ := Aside0.mk (blk_below (g := gb308) (o := .cells #[.int .i64 (wrap64 (t286 + (wrap64 (t271 * (wrap64 (a3)))))), .int .i64 t287, .slice Ao33 t288.length co33] 24 (0, 0)) (by (with_reducible repeat (first | refine blk_drewN ?_ _ | refine blk_drew ?_ | refine blk_alloc ?_ _)); exact BK308.out) hb); have n12_ := Aside0.mk (below_step (by repeat (first | (with_reducible first | exact HB.out | apply below_alloc | apply pw_below_drewN | apply below_drew1 | refine below_set ?_ GE276.out | refine below_set ?_ GE285.out | refine below_set ?_ GE292.out | refine below_set ?_ GE299.out | refine below_set ?_ GE306.out | refine below_set ?_ GE308.out) | exact HB.out)) hb); clear HO_277002; clear HO_286002; clear HO_293002; clear HO_300002; clear HO_307002; clear BK276; clear BK285; clear BK292; clear BK299; clear BK306; clear BK308; clear HB; have HO_277002 := n0_; have HO_286002 := n1_; have HO_293002 := n2_; have HO_300002 := n3_; have HO_307002 := n4_; have HO313 := n5_; have BK276 := n6_; have BK285 := n7_; have BK292 := n8_; have BK299 := n9_; have BK306 := n10_; have BK308 := n11_; have HB := n12_; clear n0_ n1_ n2_ n3_ n4_ n5_ n6_ n7_ n8_ n9_ n10_ n11_ n12_; (try clear hb); (try clear hb2); (try clear hk); (try clear hi); (try clear ho0)) | ((with_reducible refine gate_dst (N := 21) rfl ?_); (try (refine gate_guard (by rfl) ?_; dsimp only)); refine box_event ?hg (N := 21) ?hd (cs := #[.int .i64 0, .int .i64 0, .slice none 0 0]) (t := 24) ?hr ?_; (case hd => rfl); (case hg => rfl); (case hr => first | (go_simp; done) | (go_simp; rfl)); intro gb315 hg w99 hbox hb; have n0_ := Aside0.mk (Kd.R_below (by (with_reducible repeat (first | apply Kd.R_alloc | apply Kd.R_drewN | apply Kd.R_drew)); exact HO_277002.out) hb); have n1_ := Aside0.mk (Kd.R_below (by (with_reducible repeat (first | apply Kd.R_alloc | apply Kd.R_drewN | apply Kd.R_drew)); exact HO_286002.out) hb); have n2_ := Aside0.mk (Kd.R_below (by (with_reducible repeat (first | apply Kd.R_alloc | apply Kd.R_drewN | apply Kd.R_drew)); exact HO_293002.out) hb); have n3_ := Aside0.mk (Kd.R_below (by (with_reducible repeat (first | apply Kd.R_alloc | apply Kd.R_drewN | apply Kd.R_drew)); exact HO_300002.out) hb); have n4_ := Aside0.mk (Kd.R_below (by (with_reducible repeat (first | apply Kd.R_alloc | apply Kd.R_drewN | apply Kd.R_drew)); exact HO_307002.out) hb); have n5_ := Aside0.mk (Kd.R_below (by (with_reducible repeat (first | apply Kd.R_alloc | apply Kd.R_drewN | apply Kd.R_drew)); exact HO313.out) hb); have n6_ := Aside0.mk (blk_below (g := gb276) (o := .cells #[.int .i64 t270, .int .i64 t271, .slice Ao19 t272.length co19] 24 (0, 0)) (by (with_reducible repeat (first | refine blk_drewN ?_ _ | refine blk_drew ?_ | refine blk_alloc ?_ _)); exact BK276.out) hb); have n7_ := Aside0.mk (blk_below (g := gb285) (o := .cells #[.int .i64 t279, .int .i64 t280, .slice Ao25 t281.length co25] 24 (0, 0)) (by (with_reducible repeat (first | refine blk_drewN ?_ _ | refine blk_drew ?_ | refine blk_alloc ?_ _)); exact BK285.out) hb); have n8_ := Aside0.mk (blk_below (g := gb292) (o := .cells #[.int .i64 t286, .int .i64 t287, .slice Ao33 t288.length co33] 24 (0, 0)) (by (with_reducible repeat (first | refine blk_drewN ?_ _ | refine blk_drew ?_ | refine blk_alloc ?_ _)); exact BK292.out) hb); have n9_ := Aside0.mk (blk_below (g := gb299) (o := .cells #[.int .i64 t293, .int .i64 t294, .slice Ao44 t295.length co44] 24 (0, 0)) (by (with_reducible repeat (first | refine blk_drewN ?_ _ | refine blk_drew ?_ | refine blk_alloc ?_ _)); exact BK299.out) hb); have n10_ := Aside0.mk (blk_below (g := gb306) (o := .cells #[.int .i64 t300, .int .i64 t301, .slice Ao54 t302.length co54] 24 (0, 0)) (by (with_reducible repeat (first | refine blk_drewN ?_ _ | refine blk_drew ?_ | refine blk_alloc ?_ _)); exact BK306.out) hb); have n11_ := Aside0.mk (blk_below (g := gb308) (o := .cells #[.int .i64 (wrap64 (t286 + (wrap64 (t271 * (wrap64 (a3)))))), .int .i64 t287, .slice Ao33 t288.length co33] 24 (0, 0)) (by (with_reducible repeat (first | refine blk_drewN ?_ _ | refine blk_drew ?_ | refine blk_alloc ?_ _)); exact BK308.out) hb); have n12_ := Aside0.mk (below_step (by repeat (first | (with_reducible first | exact HB.out | apply below_alloc | apply pw_below_drewN | apply below_drew1 | refine below_set ?_ GE276.out | refine below_set ?_ GE285.out | refine below_set ?_ GE292.out | refine below_set ?_ GE299.out | refine below_set ?_ GE306.out | refine below_set ?_ GE308.out) | exact HB.out)) hb); have n13_ := Aside0.mk (hbox); have n14_ := Aside0.mk ((by rw [hg]; exact (below_size (by repeat (first | (with_reducible first | exact HB.out | apply below_alloc | apply pw_below_drewN | apply below_drew1 | refine below_set ?_ GE276.out | refine below_set ?_ GE285.out | refine below_set ?_ GE292.out | refine below_set ?_ GE299.out | refine below_set ?_ GE306.out | refine below_set ?_ GE308.out) | exact HB.out))) : w.heap.size ≤ gb315)); have n15_ := Aside0.mk ((by rw [hg]; exact (below_size (by repeat (first | (with_reducible first | exact HB.out | apply below_alloc | apply pw_below_drewN | apply below_drew1 | refine below_set ?_ GE276.out | refine below_set ?_ GE285.out | refine below_set ?_ GE292.out | refine below_set ?_ GE299.out | refine below_set ?_ GE306.out | refine below_set ?_ GE308.out) | exact HB.out))) : w.heap.size ≤ gb315)); have n16_ := Aside0.mk ((by rw [hg]; exact Nat.ne_of_lt (blk_lt (g := gb276) (o := .cells #[.int .i64 t270, .int .i64 t271, .slice Ao19 t272.length co19] 24 (0, 0)) (by (with_reducible repeat (first | refine blk_drewN ?_ _ | refine blk_drew ?_ | refine blk_alloc ?_ _)); exact BK276.out)) : gb276 ≠ gb315)); have n17_ := Aside0.mk ((by rw [hg]; exact Nat.ne_of_gt (blk_lt (g := gb276) (o := .cells #[.int .i64 t270, .int .i64 t271, .slice Ao19 t272.length co19] 24 (0, 0)) (by (with_reducible repeat (first | refine blk_drewN ?_ _ | refine blk_drew ?_ | refine blk_alloc ?_ _)); exact BK276.out)) : gb315 ≠ gb276)); have n18_ := Aside0.mk ((by rw [hg]; exact Nat.ne_of_lt (blk_lt (g := gb285) (o := .cells #[.int .i64 t279, .int .i64 t280, .slice Ao25 t281.length co25] 24 (0, 0)) (by (with_reducible repeat (first | refine blk_drewN ?_ _ | refine blk_drew ?_ | refine blk_alloc ?_ _)); exact BK285.out)) : gb285 ≠ gb315)); have n19_ := Aside0.mk ((by rw [hg]; exact Nat.ne_of_gt (blk_lt (g := gb285) (o := .cells #[.int .i64 t279, .int .i64 t280, .slice Ao25 t281.length co25] 24 (0, 0)) (by (with_reducible repeat (first | refine blk_drewN ?_ _ | refine blk_drew ?_ | refine blk_alloc ?_ _)); exact BK285.out)) : gb315 ≠ gb285)); have n20_ := Aside0.mk ((by rw [hg]; exact Nat.ne_of_lt (blk_lt (g := gb292) (o := .cells #[.int .i64 t286, .int .i64 t287, .slice Ao33 t288.length co33] 24 (0, 0)) (by (with_reducible repeat (first | refine blk_drewN ?_ _ | refine blk_drew ?_ | refine blk_alloc ?_ _)); exact BK292.out)) : gb292 ≠ gb315)); have n21_ := Aside0.mk ((by rw [hg]; exact Nat.ne_of_gt (blk_lt (g := gb292) (o := .cells #[.int .i64 t286, .int .i64 t287, .slice Ao33 t288.length co33] 24 (0, 0)) (by (with_reducible repeat (first | refine blk_drewN ?_ _ | refine blk_drew ?_ | refine blk_alloc ?_ _)); exact BK292.out)) : gb315 ≠ gb292)); have n22_ := Aside0.mk ((by rw [hg]; exact Nat.ne_of_lt (blk_lt (g := gb299) (o := .cells #[.int .i64 t293, .int .i64 t294, .slice Ao44 t295.length co44] 24 (0, 0)) (by (with_reducible repeat (first | refine blk_drewN ?_ _ | refine blk_drew ?_ | refine blk_alloc ?_ _)); exact BK299.out)) : gb299 ≠ gb315)); have n23_ := Aside0.mk ((by rw [hg]; exact Nat.ne_of_gt (blk_lt (g := gb299) (o := .cells #[.int .i64 t293, .int .i64 t294, .slice Ao44 t295.length co44] 24 (0, 0)) (by (with_reducible repeat (first | refine blk_drewN ?_ _ | refine blk_drew ?_ | refine blk_alloc ?_ _)); exact BK299.out)) : gb315 ≠ gb299)); have n24_ := Aside0.mk ((by rw [hg]; exact Nat.ne_of_lt (blk_lt (g := gb306) (o := .cells #[.int .i64 t300, .int .i64 t301, .slice Ao54 t302.length co54] 24 (0, 0)) (by (with_reducible repeat (first | refine blk_drewN ?_ _ | refine blk_drew ?_ | refine blk_alloc ?_ _)); exact BK306.out)) : gb306 ≠ gb315)); have n25_ := Aside0.mk ((by rw [hg]; exact Nat.ne_of_gt (blk_lt (g := gb306) (o := .cells #[.int .i64 t300, .int .i64 t301, .slice Ao54 t302.length co54] 24 (0, 0)) (by (with_reducible repeat (first | refine blk_drewN ?_ _ | refine blk_drew ?_ | refine blk_alloc ?_ _)); exact BK306.out)) : gb315 ≠ gb306)); have n26_ := Aside0.mk ((by rw [hg]; exact Nat.ne_of_lt (blk_lt (g := gb308) (o := .cells #[.int .i64 (wrap64 (t286 + (wrap64 (t271 * (wrap64 (a3)))))), .int .i64 t287, .slice Ao33 t288.length co33] 24 (0, 0)) (by (with_reducible repeat (first | refine blk_drewN ?_ _ | refine blk_drew ?_ | refine blk_alloc ?_ _)); exact BK308.out)) : gb308 ≠ gb315)); have n27_ := Aside0.mk ((by rw [hg]; exact Nat.ne_of_gt (blk_lt (g := gb308) (o := .cells #[.int .i64 (wrap64 (t286 + (wrap64 (t271 * (wrap64 (a3)))))), .int .i64 t287, .slice Ao33 t288.length co33] 24 (0, 0)) (by (with_reducible repeat (first | refine blk_drewN ?_ _ | refine blk_drew ?_ | refine blk_alloc ?_ _)); exact BK308.out)) : gb315 ≠ gb308)); clear HO_277002; clear HO_286002; clear HO_293002; clear HO_300002; clear HO_307002; clear HO313; clear BK276; clear BK285; clear BK292; clear BK299; clear BK306; clear BK308; clear HB; have HO_277002 := n0_; have HO_286002 := n1_; have HO_293002 := n2_; have HO_300002 := n3_; have HO_307002 := n4_; have HO313 := n5_; have BK276 := n6_; have BK285 := n7_; have BK292 := n8_; have BK299 := n9_; have BK306 := n10_; have BK308 := n11_; have HB := n12_; have BK315 := n13_; have GW315 := n14_; have GE315 := n15_; have NB276_315 := n16_; have NB315_276 := n17_; have NB285_315 := n18_; have NB315_285 := n19_; have NB292_315 := n20_; have NB315_292 := n21_; have NB299_315 := n22_; have NB315_299 := n23_; have NB306_315 := n24_; have NB315_306 := n25_; have NB308_315 := n26_; have NB315_308 := n27_; clear n0_ n1_ n2_ n3_ n4_ n5_ n6_ n7_ n8_ n9_ n10_ n11_ n12_ n13_ n14_ n15_ n16_ n17_ n18_ n19_ n20_ n21_ n22_ n23_ n24_ n25_ n26_ n27_; clear hb hbox hg; have hnb100 := NB315_276.out; have hnc100 := NB276_315.out; have hnb101 := NB315_285.out; have hnc101 := NB285_315.out; have hnb102 := NB315_292.out; have hnc102 := NB292_315.out; have hnb103 := NB315_299.out; have hnc103 := NB299_315.out; have hnb104 := NB315_306.out; have hnc104 := NB306_315.out; have hnb105 := NB315_308.out; have hnc105 := NB308_315.out; have hcz106_0 : w99.cell? ⟨gb315, 0, none⟩ = some (.int .i64 0) := (blk_cell BK315.out 0).trans rfl; have hcz106_1 : w99.cell? ⟨gb315, 1, none⟩ = some (.int .i64 0) := (blk_cell BK315.out 1).trans rfl; have hcz106_2 : w99.cell? ⟨gb315, 2, none⟩ = some (.slice none 0 0) := (blk_cell BK315.out 2).trans rfl; have hfz106_0 := blk_frozen BK315.out 0; have hfz106_1 := blk_frozen BK315.out 1; have hfz106_2 := blk_frozen BK315.out 2; obtain ⟨Ao107, co107, eo107⟩ := Kd.R_slice HO313.out; subst eo107))
        (try simp only [Act.put, List.setIfInBounds_toArray, List.set_cons_zero, List.set_cons_succ])
        go_cut [120] (fun v120 wc => ∃ (kq : Nat) (x120_73 : Bool), v120 = .bool x120_73 ∧ Aside0 (shapesearchlaw09_SeriesParts.j1 kq a3 t277 t278 x120_73 t279 t280 t281 (wrap64 (t286 + (wrap64 (t271 * (wrap64 (a3)))))) t287 t288 t309 t310 t311 = some r) ∧ Aside0 (kq ≤ kj12) ∧ Aside0 (Kd.R (Kd.int .i64) 3 wc w.heap.size (fun k_ => some k_ ≠ ((.slice Ao25 t281.length co25) : Value).ownBlock ∧ some k_ ≠ ((.slice Ao33 t288.length co33) : Value).ownBlock ∧ some k_ ≠ ((.slice Ao44 t295.length co44) : Value).ownBlock ∧ some k_ ≠ ((.slice Ao54 t302.length co54) : Value).ownBlock ∧ some k_ ≠ ((.slice Ao33 t288.length co33) : Value).ownBlock ∧ some k_ ≠ ((.slice Ao107 t311.length co107) : Value).ownBlock) (.slice Ao19 t272.length co19) t272) ∧ Aside0 (Kd.R (Kd.int .i64) 3 wc w.heap.size (fun k_ => some k_ ≠ ((.slice Ao19 t272.length co19) : Value).ownBlock ∧ some k_ ≠ ((.slice Ao33 t288.length co33) : Value).ownBlock ∧ some k_ ≠ ((.slice Ao44 t295.length co44) : Value).ownBlock ∧ some k_ ≠ ((.slice Ao54 t302.length co54) : Value).ownBlock ∧ some k_ ≠ ((.slice Ao33 t288.length co33) : Value).ownBlock ∧ some k_ ≠ ((.slice Ao107 t311.length co107) : Value).ownBlock) (.slice Ao25 t281.length co25) t281) ∧ Aside0 (Kd.R (Kd.int .i64) 3 wc w.heap.size (fun k_ => some k_ ≠ ((.slice Ao19 t272.length co19) : Value).ownBlock ∧ some k_ ≠ ((.slice Ao25 t281.length co25) : Value).ownBlock ∧ some k_ ≠ ((.slice Ao44 t295.length co44) : Value).ownBlock ∧ some k_ ≠ ((.slice Ao54 t302.length co54) : Value).ownBlock ∧ some k_ ≠ ((.slice Ao107 t311.length co107) : Value).ownBlock) (.slice Ao33 t288.length co33) t288) ∧ Aside0 (Kd.R (Kd.int .i64) 3 wc w.heap.size (fun k_ => some k_ ≠ ((.slice Ao19 t272.length co19) : Value).ownBlock ∧ some k_ ≠ ((.slice Ao25 t281.length co25) : Value).ownBlock ∧ some k_ ≠ ((.slice Ao33 t288.length co33) : Value).ownBlock ∧ some k_ ≠ ((.slice Ao54 t302.length co54) : Value).ownBlock ∧ some k_ ≠ ((.slice Ao33 t288.length co33) : Value).ownBlock ∧ some k_ ≠ ((.slice Ao107 t311.length co107) : Value).ownBlock) (.slice Ao44 t295.length co44) t295) ∧ Aside0 (Kd.R (Kd.int .i64) 3 wc w.heap.size (fun k_ => some k_ ≠ ((.slice Ao19 t272.length co19) : Value).ownBlock ∧ some k_ ≠ ((.slice Ao25 t281.length co25) : Value).ownBlock ∧ some k_ ≠ ((.slice Ao33 t288.length co33) : Value).ownBlock ∧ some k_ ≠ ((.slice Ao44 t295.length co44) : Value).ownBlock ∧ some k_ ≠ ((.slice Ao33 t288.length co33) : Value).ownBlock ∧ some k_ ≠ ((.slice Ao107 t311.length co107) : Value).ownBlock) (.slice Ao54 t302.length co54) t302) ∧ Aside0 (Kd.R (Kd.int .i64) 3 wc w.heap.size (fun k_ => some k_ ≠ ((.slice Ao19 t272.length co19) : Value).ownBlock ∧ some k_ ≠ ((.slice Ao25 t281.length co25) : Value).ownBlock ∧ some k_ ≠ ((.slice Ao44 t295.length co44) : Value).ownBlock ∧ some k_ ≠ ((.slice Ao54 t302.length co54) : Value).ownBlock ∧ some k_ ≠ ((.slice Ao107 t311.length co107) : Value).ownBlock) (.slice Ao33 t288.length co33) t288) ∧ Aside0 (Kd.R (Kd.int .i64) 3 wc w.heap.size (fun k_ => some k_ ≠ ((.slice Ao19 t272.length co19) : Value).ownBlock ∧ some k_ ≠ ((.slice Ao25 t281.length co25) : Value).ownBlock ∧ some k_ ≠ ((.slice Ao33 t288.length co33) : Value).ownBlock ∧ some k_ ≠ ((.slice Ao44 t295.length co44) : Value).ownBlock ∧ some k_ ≠ ((.slice Ao54 t302.length co54) : Value).ownBlock ∧ some k_ ≠ ((.slice Ao33 t288.length co33) : Value).ownBlock) (.slice Ao107 t311.length co107) t311) ∧ Aside0 (wc.heap[gb276]? = some (.cells #[.int .i64 t270, .int .i64 t271, (.slice Ao19 t272.length co19)] 24 (0, 0))) ∧ Aside0 (wc.heap[gb285]? = some (.cells #[.int .i64 t279, .int .i64 t280, (.slice Ao25 t281.length co25)] 24 (0, 0))) ∧ Aside0 (wc.heap[gb292]? = some (.cells #[.int .i64 t286, .int .i64 t287, (.slice Ao33 t288.length co33)] 24 (0, 0))) ∧ Aside0 (wc.heap[gb299]? = some (.cells #[.int .i64 t293, .int .i64 t294, (.slice Ao44 t295.length co44)] 24 (0, 0))) ∧ Aside0 (wc.heap[gb306]? = some (.cells #[.int .i64 t300, .int .i64 t301, (.slice Ao54 t302.length co54)] 24 (0, 0))) ∧ Aside0 (wc.heap[gb308]? = some (.cells #[.int .i64 (wrap64 (t286 + (wrap64 (t271 * (wrap64 (a3)))))), .int .i64 t287, (.slice Ao33 t288.length co33)] 24 (0, 0))) ∧ Aside0 (wc.heap[gb315]? = some (.cells #[.int .i64 t309, .int .i64 t310, (.slice Ao107 t311.length co107)] 24 (0, 0))) ∧ Aside0 (Below w.heap.size w wc))
        case first =>
          have H := HC74.out
          clear HC74
          by_cases c108 : t314 = 0
          · rw [if_pos c108] at H
            have c108b0 : (t314 == 0) = true := beq_iff_eq.mpr c108
            have c108b1 : (t314 != 0) = false := bne_eq_false_iff_eq.mpr c108
            clear c108
            (first | rw [c108b0] | (simp only [i64_w, i32_w]; rw [c108b0]) | skip)
            have H' := Aside0.mk H
            clear H
            have hnb109 := NB315_276.out
            have hnc109 := NB276_315.out
            have hnb110 := NB315_285.out
            have hnc110 := NB285_315.out
            have hnb111 := NB315_292.out
            have hnc111 := NB292_315.out
            have hnb112 := NB315_299.out
            have hnc112 := NB299_315.out
            have hnb113 := NB315_306.out
            have hnc113 := NB306_315.out
            have hnb114 := NB315_308.out
            have hnc114 := NB308_315.out
            have hcz115_0 : w99.cell? ⟨gb315, 0, none⟩ = some (.int .i64 0) := (blk_cell BK315.out 0).trans rfl
            have hcz115_1 : w99.cell? ⟨gb315, 1, none⟩ = some (.int .i64 0) := (blk_cell BK315.out 1).trans rfl
            have hcz115_2 : w99.cell? ⟨gb315, 2, none⟩ = some (.slice none 0 0) := (blk_cell BK315.out 2).trans rfl
            have hfz115_0 := blk_frozen BK315.out 0
            have hfz115_1 := blk_frozen BK315.out 1
            have hfz115_2 := blk_frozen BK315.out 2
            go_wp2
            go_meet
            case rel => exact ⟨_, (((t311.length : Int) != (wrap64 ((wrap64 (t277 + (wrap64 (a3)))) + t278)))), (by first | rfl | (simp; done) | (simp [*]; done)), H', ⟨by have := HJ12.out; first | omega | exact Nat.le_refl _⟩, ⟨by (with_reducible repeat (first | apply Kd.R_alloc | apply Kd.R_drewN | apply Kd.R_drew)); exact Kd.R_mono (Kd.R_far (p := ⟨gb315, 2, none⟩) (Kd.R_far (p := ⟨gb315, 1, none⟩) (Kd.R_far (p := ⟨gb315, 0, none⟩) (Kd.R_types HO_277002.out BK315.out (by decide)) (fun _ hk => hk.2) (.int .i64 t309)) (fun _ hk => hk.2) (.int .i64 t310)) (fun _ hk => hk.2) (.slice Ao107 t311.length co107)) (fun _ hk => ⟨hk.1.1.1, ⟨hk.1.1.2.1, ⟨hk.1.1.2.2.1, ⟨hk.1.1.2.2.2, ⟨hk.1.1.2.1, hk.1.2⟩⟩⟩⟩⟩)⟩, ⟨by (with_reducible repeat (first | apply Kd.R_alloc | apply Kd.R_drewN | apply Kd.R_drew)); exact Kd.R_mono (Kd.R_far (p := ⟨gb315, 2, none⟩) (Kd.R_far (p := ⟨gb315, 1, none⟩) (Kd.R_far (p := ⟨gb315, 0, none⟩) (Kd.R_types HO_286002.out BK315.out (by decide)) (fun _ hk => hk.2) (.int .i64 t309)) (fun _ hk => hk.2) (.int .i64 t310)) (fun _ hk => hk.2) (.slice Ao107 t311.length co107)) (fun _ hk => ⟨hk.1.1.1, ⟨hk.1.1.2.1, ⟨hk.1.1.2.2.1, ⟨hk.1.1.2.2.2, ⟨hk.1.1.2.1, hk.1.2⟩⟩⟩⟩⟩)⟩, ⟨by (with_reducible repeat (first | apply Kd.R_alloc | apply Kd.R_drewN | apply Kd.R_drew)); exact Kd.R_mono (Kd.R_far (p := ⟨gb315, 2, none⟩) (Kd.R_far (p := ⟨gb315, 1, none⟩) (Kd.R_far (p := ⟨gb315, 0, none⟩) (Kd.R_types HO_293002.out BK315.out (by decide)) (fun _ hk => hk.2) (.int .i64 t309)) (fun _ hk => hk.2) (.int .i64 t310)) (fun _ hk => hk.2) (.slice Ao107 t311.length co107)) (fun _ hk => ⟨hk.1.1.1, ⟨hk.1.1.2.1, ⟨hk.1.1.2.2.1, ⟨hk.1.1.2.2.2, hk.1.2⟩⟩⟩⟩)⟩, ⟨by (with_reducible repeat (first | apply Kd.R_alloc | apply Kd.R_drewN | apply Kd.R_drew)); exact Kd.R_mono (Kd.R_far (p := ⟨gb315, 2, none⟩) (Kd.R_far (p := ⟨gb315, 1, none⟩) (Kd.R_far (p := ⟨gb315, 0, none⟩) (Kd.R_types HO_300002.out BK315.out (by decide)) (fun _ hk => hk.2) (.int .i64 t309)) (fun _ hk => hk.2) (.int .i64 t310)) (fun _ hk => hk.2) (.slice Ao107 t311.length co107)) (fun _ hk => ⟨hk.1.1.1, ⟨hk.1.1.2.1, ⟨hk.1.1.2.2.1, ⟨hk.1.1.2.2.2, ⟨hk.1.1.2.2.1, hk.1.2⟩⟩⟩⟩⟩)⟩, ⟨by (with_reducible repeat (first | apply Kd.R_alloc | apply Kd.R_drewN | apply Kd.R_drew)); exact Kd.R_mono (Kd.R_far (p := ⟨gb315, 2, none⟩) (Kd.R_far (p := ⟨gb315, 1, none⟩) (Kd.R_far (p := ⟨gb315, 0, none⟩) (Kd.R_types HO_307002.out BK315.out (by decide)) (fun _ hk => hk.2) (.int .i64 t309)) (fun _ hk => hk.2) (.int .i64 t310)) (fun _ hk => hk.2) (.slice Ao107 t311.length co107)) (fun _ hk => ⟨hk.1.1.1, ⟨hk.1.1.2.1, ⟨hk.1.1.2.2.1, ⟨hk.1.1.2.2.2, ⟨hk.1.1.2.2.1, hk.1.2⟩⟩⟩⟩⟩)⟩, ⟨by (with_reducible repeat (first | apply Kd.R_alloc | apply Kd.R_drewN | apply Kd.R_drew)); exact Kd.R_mono (Kd.R_far (p := ⟨gb315, 2, none⟩) (Kd.R_far (p := ⟨gb315, 1, none⟩) (Kd.R_far (p := ⟨gb315, 0, none⟩) (Kd.R_types HO_293002.out BK315.out (by decide)) (fun _ hk => hk.2) (.int .i64 t309)) (fun _ hk => hk.2) (.int .i64 t310)) (fun _ hk => hk.2) (.slice Ao107 t311.length co107)) (fun _ hk => ⟨hk.1.1.1, ⟨hk.1.1.2.1, ⟨hk.1.1.2.2.1, ⟨hk.1.1.2.2.2, hk.1.2⟩⟩⟩⟩)⟩, ⟨by (with_reducible repeat (first | apply Kd.R_alloc | apply Kd.R_drewN | apply Kd.R_drew)); exact Kd.R_mono (Kd.R_far (p := ⟨gb315, 2, none⟩) (Kd.R_far (p := ⟨gb315, 1, none⟩) (Kd.R_far (p := ⟨gb315, 0, none⟩) (Kd.R_types HO313.out BK315.out (by decide)) (fun _ hk => hk.2) (.int .i64 t309)) (fun _ hk => hk.2) (.int .i64 t310)) (fun _ hk => hk.2) (.slice Ao107 t311.length co107)) (fun _ hk => ⟨hk.1.1.1.1.1.2, ⟨hk.1.1.1.1.2, ⟨hk.1.1.1.2, ⟨hk.1.1.2, ⟨hk.1.2, hk.1.1.1.2⟩⟩⟩⟩⟩)⟩, ⟨by (with_reducible repeat (first | refine blk_drewN ?_ _ | refine blk_drew ?_ | refine blk_alloc ?_ _)); refine blk_far ?_ NB276_315.out _; (with_reducible repeat (first | refine blk_drewN ?_ _ | refine blk_drew ?_ | refine blk_alloc ?_ _)); refine blk_far ?_ NB276_315.out _; (with_reducible repeat (first | refine blk_drewN ?_ _ | refine blk_drew ?_ | refine blk_alloc ?_ _)); refine blk_far ?_ NB276_315.out _; (with_reducible repeat (first | refine blk_drewN ?_ _ | refine blk_drew ?_ | refine blk_alloc ?_ _)); exact BK276.out⟩, ⟨by (with_reducible repeat (first | refine blk_drewN ?_ _ | refine blk_drew ?_ | refine blk_alloc ?_ _)); refine blk_far ?_ NB285_315.out _; (with_reducible repeat (first | refine blk_drewN ?_ _ | refine blk_drew ?_ | refine blk_alloc ?_ _)); refine blk_far ?_ NB285_315.out _; (with_reducible repeat (first | refine blk_drewN ?_ _ | refine blk_drew ?_ | refine blk_alloc ?_ _)); refine blk_far ?_ NB285_315.out _; (with_reducible repeat (first | refine blk_drewN ?_ _ | refine blk_drew ?_ | refine blk_alloc ?_ _)); exact BK285.out⟩, ⟨by (with_reducible repeat (first | refine blk_drewN ?_ _ | refine blk_drew ?_ | refine blk_alloc ?_ _)); refine blk_far ?_ NB292_315.out _; (with_reducible repeat (first | refine blk_drewN ?_ _ | refine blk_drew ?_ | refine blk_alloc ?_ _)); refine blk_far ?_ NB292_315.out _; (with_reducible repeat (first | refine blk_drewN ?_ _ | refine blk_drew ?_ | refine blk_alloc ?_ _)); refine blk_far ?_ NB292_315.out _; (with_reducible repeat (first | refine blk_drewN ?_ _ | refine blk_drew ?_ | refine blk_alloc ?_ _)); exact BK292.out⟩, ⟨by (with_reducible repeat (first | refine blk_drewN ?_ _ | refine blk_drew ?_ | refine blk_alloc ?_ _)); refine blk_far ?_ NB299_315.out _; (with_reducible repeat (first | refine blk_drewN ?_ _ | refine blk_drew ?_ | refine blk_alloc ?_ _)); refine blk_far ?_ NB299_315.out _; (with_reducible repeat (first | refine blk_drewN ?_ _ | refine blk_drew ?_ | refine blk_alloc ?_ _)); refine blk_far ?_ NB299_315.out _; (with_reducible repeat (first | refine blk_drewN ?_ _ | refine blk_drew ?_ | refine blk_alloc ?_ _)); exact BK299.out⟩, ⟨by (with_reducible repeat (first | refine blk_drewN ?_ _ | refine blk_drew ?_ | refine blk_alloc ?_ _)); refine blk_far ?_ NB306_315.out _; (with_reducible repeat (first | refine blk_drewN ?_ _ | refine blk_drew ?_ | refine blk_alloc ?_ _)); refine blk_far ?_ NB306_315.out _; (with_reducible repeat (first | refine blk_drewN ?_ _ | refine blk_drew ?_ | refine blk_alloc ?_ _)); refine blk_far ?_ NB306_315.out _; (with_reducible repeat (first | refine blk_drewN ?_ _ | refine blk_drew ?_ | refine blk_alloc ?_ _)); exact BK306.out⟩, ⟨by (with_reducible repeat (first | refine blk_drewN ?_ _ | refine blk_drew ?_ | refine blk_alloc ?_ _)); refine blk_far ?_ NB308_315.out _; (with_reducible repeat (first | refine blk_drewN ?_ _ | refine blk_drew ?_ | refine blk_alloc ?_ _)); refine blk_far ?_ NB308_315.out _; (with_reducible repeat (first | refine blk_drewN ?_ _ | refine blk_drew ?_ | refine blk_alloc ?_ _)); refine blk_far ?_ NB308_315.out _; (with_reducible repeat (first | refine blk_drewN ?_ _ | refine blk_drew ?_ | refine blk_alloc ?_ _)); exact BK308.out⟩, ⟨by (with_reducible repeat (first | refine blk_drewN ?_ _ | refine blk_drew ?_ | refine blk_alloc ?_ _)); refine blk_put (cs := #[.int .i64 t309, .int .i64 t310, .slice none 0 0]) ?_ 2 _ rfl; (with_reducible repeat (first | refine blk_drewN ?_ _ | refine blk_drew ?_ | refine blk_alloc ?_ _)); refine blk_put (cs := #[.int .i64 t309, .int .i64 0, .slice none 0 0]) ?_ 1 _ rfl; (with_reducible repeat (first | refine blk_drewN ?_ _ | refine blk_drew ?_ | refine blk_alloc ?_ _)); refine blk_put (cs := #[.int .i64 0, .int .i64 0, .slice none 0 0]) ?_ 0 _ rfl; (with_reducible repeat (first | refine blk_drewN ?_ _ | refine blk_drew ?_ | refine blk_alloc ?_ _)); exact BK315.out⟩, ⟨by repeat (first | (with_reducible first | exact HB.out | apply below_alloc | apply pw_below_drewN | apply below_drew1 | refine below_set ?_ GE276.out | refine below_set ?_ GE285.out | refine below_set ?_ GE292.out | refine below_set ?_ GE299.out | refine below_set ?_ GE306.out | refine below_set ?_ GE308.out | refine below_set ?_ GE315.out) | exact HB.out)⟩⟩
          · exact absurd K403_0.out c108
        case rest =>
          clear HC74
          try clear c1
          try clear c2
          try clear p2
          try clear c3
          try clear c4
          try clear c5
          try clear c6
          try clear p6
          try clear c7
          try clear c8
          try clear c9
          try clear c10
          try clear c11
          try clear c17
          try clear c22
          try clear c23
          try clear c29
          try clear c30
          try clear c31
          try clear c39
          try clear c40
          try clear c41
          try clear c42
          try clear c48
          try clear c49
          try clear c50
          try clear c51
          try clear c52
          try clear c55
          try clear c55b0
          try clear c55b1
          try clear c56
          try clear c56b0
          try clear c56b1
          try clear c57
          try clear c57b0
          try clear c57b1
          try clear c58
          try clear c58b0
          try clear c58b1
          try clear c60
          try clear c61
          try clear c62
          try clear c63
          try clear c64
          try clear p64
          try clear c66
          try clear c67
          try clear c68
          try clear c69
          try clear c72
          try clear c75
          try clear c76
          try clear c77
          try clear c78
          try clear c81
          try clear c82
          try clear c83
          try clear c84
          try clear c85
          try clear c89
          try clear c90
          try clear c91
          try clear c94
          try clear c95
          try clear c100
          try clear c101
          try clear c102
          try clear c103
          try clear c104
          try clear c105
          try clear c108
          try clear c108b0
          try clear c108b1
          try clear c109
          try clear c110
          try clear c111
          try clear c112
          try clear c113
          try clear c114
          try clear hcz106_0
          try clear hcz106_1
          try clear hcz106_2
          try clear hcz115_0
          try clear hcz115_1
          try clear hcz115_2
          try clear hcz18_0
          try clear hcz18_1
          try clear hcz18_2
          try clear hcz24_0
          try clear hcz24_1
          try clear hcz24_2
          try clear hcz26_0
          try clear hcz26_1
          try clear hcz26_2
          try clear hcz32_0
          try clear hcz32_1
          try clear hcz32_2
          try clear hcz35_0
          try clear hcz35_1
          try clear hcz35_2
          try clear hcz36_0
          try clear hcz36_1
          try clear hcz36_2
          try clear hcz43_0
          try clear hcz43_1
          try clear hcz43_2
          try clear hcz45_0
          try clear hcz45_1
          try clear hcz45_2
          try clear hcz53_0
          try clear hcz53_1
          try clear hcz53_2
          try clear hcz65_0
          try clear hcz65_1
          try clear hcz65_2
          try clear hcz70_0
          try clear hcz70_1
          try clear hcz70_2
          try clear hcz79_0
          try clear hcz79_1
          try clear hcz79_2
          try clear hcz86_0
          try clear hcz86_1
          try clear hcz86_2
          try clear hcz88_0
          try clear hcz88_1
          try clear hcz88_2
          try clear hcz92_0
          try clear hcz92_1
          try clear hcz92_2
          try clear hcz96_0
          try clear hcz96_1
          try clear hcz96_2
          try clear hcz97_0
          try clear hcz97_1
          try clear hcz97_2
          try clear hfz106_0
          try clear hfz106_1
          try clear hfz106_2
          try clear hfz115_0
          try clear hfz115_1
          try clear hfz115_2
          try clear hfz18_0
          try clear hfz18_1
          try clear hfz18_2
          try clear hfz24_0
          try clear hfz24_1
          try clear hfz24_2
          try clear hfz26_0
          try clear hfz26_1
          try clear hfz26_2
          try clear hfz32_0
          try clear hfz32_1
          try clear hfz32_2
          try clear hfz35_0
          try clear hfz35_1
          try clear hfz35_2
          try clear hfz36_0
          try clear hfz36_1
          try clear hfz36_2
          try clear hfz43_0
          try clear hfz43_1
          try clear hfz43_2
          try clear hfz45_0
          try clear hfz45_1
          try clear hfz45_2
          try clear hfz53_0
          try clear hfz53_1
          try clear hfz53_2
          try clear hfz65_0
          try clear hfz65_1
          try clear hfz65_2
          try clear hfz70_0
          try clear hfz70_1
          try clear hfz70_2
          try clear hfz79_0
          try clear hfz79_1
          try clear hfz79_2
          try clear hfz86_0
          try clear hfz86_1
          try clear hfz86_2
          try clear hfz88_0
          try clear hfz88_1
          try clear hfz88_2
          try clear hfz92_0
          try clear hfz92_1
          try clear hfz92_2
          try clear hfz96_0
          try clear hfz96_1
          try clear hfz96_2
          try clear hfz97_0
          try clear hfz97_1
          try clear hfz97_2
          try clear p2
          try clear p6
          try clear p64
          obtain ⟨kq, x120_73, rfl, HA, HJ73, HO_277002, HO_286002, HO_293002, HO_300002, HO_307002, HO_309002, HO_316002, BK276, BK285, BK292, BK299, BK306, BK308, BK315, HB⟩ := hcut
          cases kq with
          | zero => exact absurd HA.out (by simp [shapesearchlaw09_SeriesParts.j1])
          | succ kj73 =>
            have H := HA.out
            clear HA
            simp only [shapesearchlaw09_SeriesParts.j1] at H
            by_cases c116 : x120_73 = true
            · subst c116
              have H1 : (some false) = some r := by rw [if_pos rfl] at H; exact H
              exact absurd ((Option.some.inj H1).trans hT.out) (by decide)
            · replace c116 := Bool.eq_false_iff.mpr c116
              subst c116
              have H1 : ((series_Cut.f kj73 t309 t310 t311 (wrap64 (t277 + (wrap64 (a3)))) t278).bind fun bt316 => (if bt316.2.2.2 = 0 then ((shapesearchref09_Same.f kj73 bt316.1 bt316.2.1 bt316.2.2.1 (wrap64 (t286 + (wrap64 (t271 * (wrap64 (a3)))))) t287 t288).bind fun t323 => (if t323 = true then ((series_Starts.f kj73 t309 t310 t311 1).bind fun t324 => ((series_Starts.f kj73 t279 t280 t281 1).bind fun t327 => ((series_Starts.f kj73 (wrap64 (t286 + (wrap64 (t271 * (wrap64 (a3)))))) t287 t288 1).bind fun t330 => (if (t324.length : Int) = (wrap64 ((t327.length : Int) + (t330.length : Int))) then ((shapesearchlaw09_awake.f kj73).bind fun t333 => (some t333)) else (some false))))) else (some false))) else (some false))) = some r := by rw [if_neg (show ¬ (false = true) by decide)] at H; exact H
              clear H
              have H := H1
              clear H1
              replace H := Option.bind_eq_some_iff.mp H
              obtain ⟨⟨t316, t317, t318, t321⟩, A1170, H⟩ := H
              replace H : (if t321 = 0 then ((shapesearchref09_Same.f kj73 t316 t317 t318 (wrap64 (t286 + (wrap64 (t271 * (wrap64 (a3)))))) t287 t288).bind fun t323 => (if t323 = true then ((series_Starts.f kj73 t309 t310 t311 1).bind fun t324 => ((series_Starts.f kj73 t279 t280 t281 1).bind fun t327 => ((series_Starts.f kj73 (wrap64 (t286 + (wrap64 (t271 * (wrap64 (a3)))))) t287 t288 1).bind fun t330 => (if (t324.length : Int) = (wrap64 ((t327.length : Int) + (t330.length : Int))) then ((shapesearchlaw09_awake.f kj73).bind fun t333 => (some t333)) else (some false))))) else (some false))) else (some false)) = some r := H
              have A117 := Aside0.mk A1170
              clear A1170
              by_cases c118 : t321 = 0
              · rw [if_pos c118] at H
                have c118b0 : (t321 == 0) = true := beq_iff_eq.mpr c118
                have c118b1 : (t321 != 0) = false := bne_eq_false_iff_eq.mpr c118
                clear c118
                replace H := Option.bind_eq_some_iff.mp H
                obtain ⟨t323, A1190, H⟩ := H
                replace H : (if t323 = true then ((series_Starts.f kj73 t309 t310 t311 1).bind fun t324 => ((series_Starts.f kj73 t279 t280 t281 1).bind fun t327 => ((series_Starts.f kj73 (wrap64 (t286 + (wrap64 (t271 * (wrap64 (a3)))))) t287 t288 1).bind fun t330 => (if (t324.length : Int) = (wrap64 ((t327.length : Int) + (t330.length : Int))) then ((shapesearchlaw09_awake.f kj73).bind fun t333 => (some t333)) else (some false))))) else (some false)) = some r := H
                have A119 := Aside0.mk A1190
                clear A1190
                by_cases c120 : t323 = true
                · subst c120
                  have H1 : ((series_Starts.f kj73 t309 t310 t311 1).bind fun t324 => ((series_Starts.f kj73 t279 t280 t281 1).bind fun t327 => ((series_Starts.f kj73 (wrap64 (t286 + (wrap64 (t271 * (wrap64 (a3)))))) t287 t288 1).bind fun t330 => (if (t324.length : Int) = (wrap64 ((t327.length : Int) + (t330.length : Int))) then ((shapesearchlaw09_awake.f kj73).bind fun t333 => (some t333)) else (some false))))) = some r := by rw [if_pos rfl] at H; exact H
                  clear H
                  have H := H1
                  clear H1
                  replace H := Option.bind_eq_some_iff.mp H
                  obtain ⟨t324, A1210, H⟩ := H
                  replace H : ((series_Starts.f kj73 t279 t280 t281 1).bind fun t327 => ((series_Starts.f kj73 (wrap64 (t286 + (wrap64 (t271 * (wrap64 (a3)))))) t287 t288 1).bind fun t330 => (if (t324.length : Int) = (wrap64 ((t327.length : Int) + (t330.length : Int))) then ((shapesearchlaw09_awake.f kj73).bind fun t333 => (some t333)) else (some false)))) = some r := H
                  have A121 := Aside0.mk A1210
                  clear A1210
                  replace H := Option.bind_eq_some_iff.mp H
                  obtain ⟨t327, A1220, H⟩ := H
                  replace H : ((series_Starts.f kj73 (wrap64 (t286 + (wrap64 (t271 * (wrap64 (a3)))))) t287 t288 1).bind fun t330 => (if (t324.length : Int) = (wrap64 ((t327.length : Int) + (t330.length : Int))) then ((shapesearchlaw09_awake.f kj73).bind fun t333 => (some t333)) else (some false))) = some r := H
                  have A122 := Aside0.mk A1220
                  clear A1220
                  replace H := Option.bind_eq_some_iff.mp H
                  obtain ⟨t330, A1230, H⟩ := H
                  replace H : (if (t324.length : Int) = (wrap64 ((t327.length : Int) + (t330.length : Int))) then ((shapesearchlaw09_awake.f kj73).bind fun t333 => (some t333)) else (some false)) = some r := H
                  have A123 := Aside0.mk A1230
                  clear A1230
                  by_cases c124 : (t324.length : Int) = (wrap64 ((t327.length : Int) + (t330.length : Int)))
                  · rw [if_pos c124] at H
                    have c124b0 : ((t324.length : Int) == (wrap64 ((t327.length : Int) + (t330.length : Int)))) = true := beq_iff_eq.mpr c124
                    have c124b1 : ((t324.length : Int) != (wrap64 ((t327.length : Int) + (t330.length : Int)))) = false := bne_eq_false_iff_eq.mpr c124
                    clear c124
                    replace H := Option.bind_eq_some_iff.mp H
                    obtain ⟨t333, A1250, H⟩ := H
                    replace H : (some t333) = some r := H
                    have A125 := Aside0.mk A1250
                    clear A1250
                    obtain rfl := Option.some.inj H
                    have hnb126 := NB315_276.out
                    have hnc126 := NB276_315.out
                    have hnb127 := NB315_285.out
                    have hnc127 := NB285_315.out
                    have hnb128 := NB315_292.out
                    have hnc128 := NB292_315.out
                    have hnb129 := NB315_299.out
                    have hnc129 := NB299_315.out
                    have hnb130 := NB315_306.out
                    have hnc130 := NB306_315.out
                    have hnb131 := NB315_308.out
                    have hnc131 := NB308_315.out
                    have hcz132_0 : wc.cell? ⟨gb315, 0, none⟩ = some (.int .i64 t309) := (blk_cell BK315.out 0).trans rfl
                    have hcz132_1 : wc.cell? ⟨gb315, 1, none⟩ = some (.int .i64 t310) := (blk_cell BK315.out 1).trans rfl
                    have hcz132_2 : wc.cell? ⟨gb315, 2, none⟩ = some (.slice Ao107 t311.length co107) := (blk_cell BK315.out 2).trans rfl
                    have hfz132_0 := blk_frozen BK315.out 0
                    have hfz132_1 := blk_frozen BK315.out 1
                    have hfz132_2 := blk_frozen BK315.out 2
                    try go_wp2_with (first | ((with_reducible refine gate_callee (f := 9) rfl ?_); refine goesL_ (some 128) rfl rfl Try.func9 (by kernel_rfl) rfl #[.agg #[.int .i64 t309, .int .i64 t310, .slice Ao107 t311.length co107], .int .i64 (wrap64 (t277 + (wrap64 (a3)))), .int .i64 t278] rfl (by (try simp only [List.map_toArray, List.map_cons, List.map_nil]); first | done | rfl | (simp only [List.length_drop, List.length_take]; rfl)) ?_; (with_reducible refine (series_Cut.calls kj73 t309 t310 _ _ t311 (wrap64 (t277 + (wrap64 (a3)))) t278 t316 t317 t318 t321 _ ?side1 ?side2 A117.out).mono ?_); (case side1 => repeat (first | exact (Kd.R_reads' HO_316002.out).2.2 | (with_reducible refine Kd.C_alloc ?_ _) | (with_reducible refine Kd.C_drewN ?_ _) | (with_reducible refine Kd.C_drew ?_))); (case side2 => exact (Kd.R_reads' HO_316002.out).2.1); rintro e w133 ⟨v319, rfl, ho0, hb⟩; refine ⟨_, rfl, ?_⟩; have n0_ := Aside0.mk (Kd.R_elder' (by (with_reducible repeat (first | apply Kd.R_alloc | apply Kd.R_drewN | apply Kd.R_drew)); exact HO_277002.out) (Kd.R_base ho0) hb); have n1_ := Aside0.mk (Kd.R_elder' (by (with_reducible repeat (first | apply Kd.R_alloc | apply Kd.R_drewN | apply Kd.R_drew)); exact HO_286002.out) (Kd.R_base ho0) hb); have n2_ := Aside0.mk (Kd.R_elder' (by (with_reducible repeat (first | apply Kd.R_alloc | apply Kd.R_drewN | apply Kd.R_drew)); exact HO_293002.out) (Kd.R_base ho0) hb); have n3_ := Aside0.mk (Kd.R_elder' (by (with_reducible repeat (first | apply Kd.R_alloc | apply Kd.R_drewN | apply Kd.R_drew)); exact HO_300002.out) (Kd.R_base ho0) hb); have n4_ := Aside0.mk (Kd.R_elder' (by (with_reducible repeat (first | apply Kd.R_alloc | apply Kd.R_drewN | apply Kd.R_drew)); exact HO_307002.out) (Kd.R_base ho0) hb); have n5_ := Aside0.mk (Kd.R_elder' (by (with_reducible repeat (first | apply Kd.R_alloc | apply Kd.R_drewN | apply Kd.R_drew)); exact HO_309002.out) (Kd.R_base ho0) hb); have n6_ := Aside0.mk (Kd.R_elder' (by (with_reducible repeat (first | apply Kd.R_alloc | apply Kd.R_drewN | apply Kd.R_drew)); exact HO_316002.out) (Kd.R_base ho0) hb); have n7_ := Aside0.mk (Kd.R_lower (Kd.R_new' (Kd.R_new' (Kd.R_new' (Kd.R_new' (Kd.R_new' (Kd.R_new' (Kd.R_new' ho0 (Kd.R_lt (by (with_reducible repeat (first | apply Kd.R_alloc | apply Kd.R_drewN | apply Kd.R_drew)); exact HO_277002.out))) (Kd.R_lt (by (with_reducible repeat (first | apply Kd.R_alloc | apply Kd.R_drewN | apply Kd.R_drew)); exact HO_286002.out))) (Kd.R_lt (by (with_reducible repeat (first | apply Kd.R_alloc | apply Kd.R_drewN | apply Kd.R_drew)); exact HO_293002.out))) (Kd.R_lt (by (with_reducible repeat (first | apply Kd.R_alloc | apply Kd.R_drewN | apply Kd.R_drew)); exact HO_300002.out))) (Kd.R_lt (by (with_reducible repeat (first | apply Kd.R_alloc | apply Kd.R_drewN | apply Kd.R_drew)); exact HO_307002.out))) (Kd.R_lt (by (with_reducible repeat (first | apply Kd.R_alloc | apply Kd.R_drewN | apply Kd.R_drew)); exact HO_309002.out))) (Kd.R_lt (by (with_reducible repeat (first | apply Kd.R_alloc | apply Kd.R_drewN | apply Kd.R_drew)); exact HO_316002.out))) (below_size (by repeat (first | (with_reducible first | exact HB.out | apply below_alloc | apply pw_below_drewN | apply below_drew1 | refine below_set ?_ GE276.out | refine below_set ?_ GE285.out | refine below_set ?_ GE292.out | refine below_set ?_ GE299.out | refine below_set ?_ GE306.out | refine below_set ?_ GE308.out | refine below_set ?_ GE315.out) | exact HB.out)))); have n8_ := Aside0.mk (blk_below (g := gb276) (o := .cells #[.int .i64 t270, .int .i64 t271, .slice Ao19 t272.length co19] 24 (0, 0)) (by (with_reducible repeat (first | refine blk_drewN ?_ _ | refine blk_drew ?_ | refine blk_alloc ?_ _)); exact BK276.out) hb); have n9_ := Aside0.mk (blk_below (g := gb285) (o := .cells #[.int .i64 t279, .int .i64 t280, .slice Ao25 t281.length co25] 24 (0, 0)) (by (with_reducible repeat (first | refine blk_drewN ?_ _ | refine blk_drew ?_ | refine blk_alloc ?_ _)); exact BK285.out) hb); have n10_ := Aside0.mk (blk_below (g := gb292) (o := .cells #[.int .i64 t286, .int .i64 t287, .slice Ao33 t288.length co33] 24 (0, 0)) (by (with_reducible repeat (first | refine blk_drewN ?_ _ | refine blk_drew ?_ | refine blk_alloc ?_ _)); exact BK292.out) hb); have n11_ := Aside0.mk (blk_below (g := gb299) (o := .cells #[.int .i64 t293, .int .i64 t294, .slice Ao44 t295.length co44] 24 (0, 0)) (by (with_reducible repeat (first | refine blk_drewN ?_ _ | refine blk_drew ?_ | refine blk_alloc ?_ _)); exact BK299.out) hb); have n12_ := Aside0.mk (blk_below (g := gb306) (o := .cells #[.int .i64 t300, .int .i64 t301, .slice Ao54 t302.length co54] 24 (0, 0)) (by (with_reducible repeat (first | refine blk_drewN ?_ _ | refine blk_drew ?_ | refine blk_alloc ?_ _)); exact BK306.out) hb); have n13_ := Aside0.mk (blk_below (g := gb308) (o := .cells #[.int .i64 (wrap64 (t286 + (wrap64 (t271 * (wrap64 (a3)))))), .int .i64 t287, .slice Ao33 t288.length co33] 24 (0, 0)) (by (with_reducible repeat (first | refine blk_drewN ?_ _ | refine blk_drew ?_ | refine blk_alloc ?_ _)); exact BK308.out) hb); have n14_ := Aside0.mk (blk_below (g := gb315) (o := .cells #[.int .i64 t309, .int .i64 t310, .slice Ao107 t311.length co107] 24 (0, 0)) (by (with_reducible repeat (first | refine blk_drewN ?_ _ | refine blk_drew ?_ | refine blk_alloc ?_ _)); exact BK315.out) hb); have n15_ := Aside0.mk (below_step (by repeat (first | (with_reducible first | exact HB.out | apply below_alloc | apply pw_below_drewN | apply below_drew1 | refine below_set ?_ GE276.out | refine below_set ?_ GE285.out | refine below_set ?_ GE292.out | refine below_set ?_ GE299.out | refine below_set ?_ GE306.out | refine below_set ?_ GE308.out | refine below_set ?_ GE315.out) | exact HB.out)) hb); clear HO_277002; clear HO_286002; clear HO_293002; clear HO_300002; clear HO_307002; clear HO_309002; clear HO_316002; clear BK276; clear BK285; clear BK292; clear BK299; clear BK306; clear BK308; clear BK315; clear HB; have HO_277002 := n0_; have HO_286002 := n1_; have HO_293002 := n2_; have HO_300002 := n3_; have HO_307002 := n4_; have HO_309002 := n5_; have HO_316002 := n6_; have HO320 := n7_; have BK276 := n8_; have BK285 := n9_; have BK292 := n10_; have BK299 := n11_; have BK306 := n12_; have BK308 := n13_; have BK315 := n14_; have HB := n15_; clear n0_ n1_ n2_ n3_ n4_ n5_ n6_ n7_ n8_ n9_ n10_ n11_ n12_ n13_ n14_ n15_; (try clear hb); (try clear hb2); (try clear hk); (try clear hi); (try clear ho0)) | ((with_reducible refine gate_dst (N := 23) rfl ?_); (try (refine gate_guard (by rfl) ?_; dsimp only)); refine box_event ?hg (N := 23) ?hd (cs := #[.int .i64 0, .int .i64 0, .slice none 0 0]) (t := 24) ?hr ?_; (case hd => rfl); (case hg => rfl); (case hr => first | (go_simp; done) | (go_simp; rfl)); intro gb322 hg w134 hbox hb; have n0_ := Aside0.mk (Kd.R_below (by (with_reducible repeat (first | apply Kd.R_alloc | apply Kd.R_drewN | apply Kd.R_drew)); exact HO_277002.out) hb); have n1_ := Aside0.mk (Kd.R_below (by (with_reducible repeat (first | apply Kd.R_alloc | apply Kd.R_drewN | apply Kd.R_drew)); exact HO_286002.out) hb); have n2_ := Aside0.mk (Kd.R_below (by (with_reducible repeat (first | apply Kd.R_alloc | apply Kd.R_drewN | apply Kd.R_drew)); exact HO_293002.out) hb); have n3_ := Aside0.mk (Kd.R_below (by (with_reducible repeat (first | apply Kd.R_alloc | apply Kd.R_drewN | apply Kd.R_drew)); exact HO_300002.out) hb); have n4_ := Aside0.mk (Kd.R_below (by (with_reducible repeat (first | apply Kd.R_alloc | apply Kd.R_drewN | apply Kd.R_drew)); exact HO_307002.out) hb); have n5_ := Aside0.mk (Kd.R_below (by (with_reducible repeat (first | apply Kd.R_alloc | apply Kd.R_drewN | apply Kd.R_drew)); exact HO_309002.out) hb); have n6_ := Aside0.mk (Kd.R_below (by (with_reducible repeat (first | apply Kd.R_alloc | apply Kd.R_drewN | apply Kd.R_drew)); exact HO_316002.out) hb); have n7_ := Aside0.mk (Kd.R_below (by (with_reducible repeat (first | apply Kd.R_alloc | apply Kd.R_drewN | apply Kd.R_drew)); exact HO320.out) hb); have n8_ := Aside0.mk (blk_below (g := gb276) (o := .cells #[.int .i64 t270, .int .i64 t271, .slice Ao19 t272.length co19] 24 (0, 0)) (by (with_reducible repeat (first | refine blk_drewN ?_ _ | refine blk_drew ?_ | refine blk_alloc ?_ _)); exact BK276.out) hb); have n9_ := Aside0.mk (blk_below (g := gb285) (o := .cells #[.int .i64 t279, .int .i64 t280, .slice Ao25 t281.length co25] 24 (0, 0)) (by (with_reducible repeat (first | refine blk_drewN ?_ _ | refine blk_drew ?_ | refine blk_alloc ?_ _)); exact BK285.out) hb); have n10_ := Aside0.mk (blk_below (g := gb292) (o := .cells #[.int .i64 t286, .int .i64 t287, .slice Ao33 t288.length co33] 24 (0, 0)) (by (with_reducible repeat (first | refine blk_drewN ?_ _ | refine blk_drew ?_ | refine blk_alloc ?_ _)); exact BK292.out) hb); have n11_ := Aside0.mk (blk_below (g := gb299) (o := .cells #[.int .i64 t293, .int .i64 t294, .slice Ao44 t295.length co44] 24 (0, 0)) (by (with_reducible repeat (first | refine blk_drewN ?_ _ | refine blk_drew ?_ | refine blk_alloc ?_ _)); exact BK299.out) hb); have n12_ := Aside0.mk (blk_below (g := gb306) (o := .cells #[.int .i64 t300, .int .i64 t301, .slice Ao54 t302.length co54] 24 (0, 0)) (by (with_reducible repeat (first | refine blk_drewN ?_ _ | refine blk_drew ?_ | refine blk_alloc ?_ _)); exact BK306.out) hb); have n13_ := Aside0.mk (blk_below (g := gb308) (o := .cells #[.int .i64 (wrap64 (t286 + (wrap64 (t271 * (wrap64 (a3)))))), .int .i64 t287, .slice Ao33 t288.length co33] 24 (0, 0)) (by (with_reducible repeat (first | refine blk_drewN ?_ _ | refine blk_drew ?_ | refine blk_alloc ?_ _)); exact BK308.out) hb); have n14_ := Aside0.mk (blk_below (g := gb315) (o := .cells #[.int .i64 t309, .int .i64 t310, .slice Ao107 t311.length co107] 24 (0, 0)) (by (with_reducible repeat (first | refine blk_drewN ?_ _ | refine blk_drew ?_ | refine blk_alloc ?_ _)); exact BK315.out) hb); have n15_ := Aside0.mk (below_step (by repeat (first | (with_reducible first | exact HB.out | apply below_alloc | apply pw_below_drewN | apply below_drew1 | refine below_set ?_ GE276.out | refine below_set ?_ GE285.out | refine below_set ?_ GE292.out | refine below_set ?_ GE299.out | refine below_set ?_ GE306.out | refine below_set ?_ GE308.out | refine below_set ?_ GE315.out) | exact HB.out)) hb); have n16_ := Aside0.mk (hbox); have n17_ := Aside0.mk ((by rw [hg]; exact (below_size (by repeat (first | (with_reducible first | exact HB.out | apply below_alloc | apply pw_below_drewN | apply below_drew1 | refine below_set ?_ GE276.out | refine below_set ?_ GE285.out | refine below_set ?_ GE292.out | refine below_set ?_ GE299.out | refine below_set ?_ GE306.out | refine below_set ?_ GE308.out | refine below_set ?_ GE315.out) | exact HB.out))) : w.heap.size ≤ gb322)); have n18_ := Aside0.mk ((by rw [hg]; exact (below_size (by repeat (first | (with_reducible first | exact HB.out | apply below_alloc | apply pw_below_drewN | apply below_drew1 | refine below_set ?_ GE276.out | refine below_set ?_ GE285.out | refine below_set ?_ GE292.out | refine below_set ?_ GE299.out | refine below_set ?_ GE306.out | refine below_set ?_ GE308.out | refine below_set ?_ GE315.out) | exact HB.out))) : w.heap.size ≤ gb322)); have n19_ := Aside0.mk ((by rw [hg]; exact Nat.ne_of_lt (blk_lt (g := gb276) (o := .cells #[.int .i64 t270, .int .i64 t271, .slice Ao19 t272.length co19] 24 (0, 0)) (by (with_reducible repeat (first | refine blk_drewN ?_ _ | refine blk_drew ?_ | refine blk_alloc ?_ _)); exact BK276.out)) : gb276 ≠ gb322)); have n20_ := Aside0.mk ((by rw [hg]; exact Nat.ne_of_gt (blk_lt (g := gb276) (o := .cells #[.int .i64 t270, .int .i64 t271, .slice Ao19 t272.length co19] 24 (0, 0)) (by (with_reducible repeat (first | refine blk_drewN ?_ _ | refine blk_drew ?_ | refine blk_alloc ?_ _)); exact BK276.out)) : gb322 ≠ gb276)); have n21_ := Aside0.mk ((by rw [hg]; exact Nat.ne_of_lt (blk_lt (g := gb285) (o := .cells #[.int .i64 t279, .int .i64 t280, .slice Ao25 t281.length co25] 24 (0, 0)) (by (with_reducible repeat (first | refine blk_drewN ?_ _ | refine blk_drew ?_ | refine blk_alloc ?_ _)); exact BK285.out)) : gb285 ≠ gb322)); have n22_ := Aside0.mk ((by rw [hg]; exact Nat.ne_of_gt (blk_lt (g := gb285) (o := .cells #[.int .i64 t279, .int .i64 t280, .slice Ao25 t281.length co25] 24 (0, 0)) (by (with_reducible repeat (first | refine blk_drewN ?_ _ | refine blk_drew ?_ | refine blk_alloc ?_ _)); exact BK285.out)) : gb322 ≠ gb285)); have n23_ := Aside0.mk ((by rw [hg]; exact Nat.ne_of_lt (blk_lt (g := gb292) (o := .cells #[.int .i64 t286, .int .i64 t287, .slice Ao33 t288.length co33] 24 (0, 0)) (by (with_reducible repeat (first | refine blk_drewN ?_ _ | refine blk_drew ?_ | refine blk_alloc ?_ _)); exact BK292.out)) : gb292 ≠ gb322)); have n24_ := Aside0.mk ((by rw [hg]; exact Nat.ne_of_gt (blk_lt (g := gb292) (o := .cells #[.int .i64 t286, .int .i64 t287, .slice Ao33 t288.length co33] 24 (0, 0)) (by (with_reducible repeat (first | refine blk_drewN ?_ _ | refine blk_drew ?_ | refine blk_alloc ?_ _)); exact BK292.out)) : gb322 ≠ gb292)); have n25_ := Aside0.mk ((by rw [hg]; exact Nat.ne_of_lt (blk_lt (g := gb299) (o := .cells #[.int .i64 t293, .int .i64 t294, .slice Ao44 t295.length co44] 24 (0, 0)) (by (with_reducible repeat (first | refine blk_drewN ?_ _ | refine blk_drew ?_ | refine blk_alloc ?_ _)); exact BK299.out)) : gb299 ≠ gb322)); have n26_ := Aside0.mk ((by rw [hg]; exact Nat.ne_of_gt (blk_lt (g := gb299) (o := .cells #[.int .i64 t293, .int .i64 t294, .slice Ao44 t295.length co44] 24 (0, 0)) (by (with_reducible repeat (first | refine blk_drewN ?_ _ | refine blk_drew ?_ | refine blk_alloc ?_ _)); exact BK299.out)) : gb322 ≠ gb299)); have n27_ := Aside0.mk ((by rw [hg]; exact Nat.ne_of_lt (blk_lt (g := gb306) (o := .cells #[.int .i64 t300, .int .i64 t301, .slice Ao54 t302.length co54] 24 (0, 0)) (by (with_reducible repeat (first | refine blk_drewN ?_ _ | refine blk_drew ?_ | refine blk_alloc ?_ _)); exact BK306.out)) : gb306 ≠ gb322)); have n28_ := Aside0.mk ((by rw [hg]; exact Nat.ne_of_gt (blk_lt (g := gb306) (o := .cells #[.int .i64 t300, .int .i64 t301, .slice Ao54 t302.length co54] 24 (0, 0)) (by (with_reducible repeat (first | refine blk_drewN ?_ _ | refine blk_drew ?_ | refine blk_alloc ?_ _)); exact BK306.out)) : gb322 ≠ gb306)); have n29_ := Aside0.mk ((by rw [hg]; exact Nat.ne_of_lt (blk_lt (g := gb308) (o := .cells #[.int .i64 (wrap64 (t286 + (wrap64 (t271 * (wrap64 (a3)))))), .int .i64 t287, .slice Ao33 t288.length co33] 24 (0, 0)) (by (with_reducible repeat (first | refine blk_drewN ?_ _ | refine blk_drew ?_ | refine blk_alloc ?_ _)); exact BK308.out)) : gb308 ≠ gb322)); have n30_ := Aside0.mk ((by rw [hg]; exact Nat.ne_of_gt (blk_lt (g := gb308) (o := .cells #[.int .i64 (wrap64 (t286 + (wrap64 (t271 * (wrap64 (a3)))))), .int .i64 t287, .slice Ao33 t288.length co33] 24 (0, 0)) (by (with_reducible repeat (first | refine blk_drewN ?_ _ | refine blk_drew ?_ | refine blk_alloc ?_ _)); exact BK308.out)) : gb322 ≠ gb308)); have n31_ := Aside0.mk ((by rw [hg]; exact Nat.ne_of_lt (blk_lt (g := gb315) (o := .cells #[.int .i64 t309, .int .i64 t310, .slice Ao107 t311.length co107] 24 (0, 0)) (by (with_reducible repeat (first | refine blk_drewN ?_ _ | refine blk_drew ?_ | refine blk_alloc ?_ _)); exact BK315.out)) : gb315 ≠ gb322)); have n32_ := Aside0.mk ((by rw [hg]; exact Nat.ne_of_gt (blk_lt (g := gb315) (o := .cells #[.int .i64 t309, .int .i64 t310, .slice Ao107 t311.length co107] 24 (0, 0)) (by (with_reducible repeat (first | refine blk_drewN ?_ _ | refine blk_drew ?_ | refine blk_alloc ?_ _)); exact BK315.out)) : gb322 ≠ gb315)); clear HO_277002; clear HO_286002; clear HO_293002; clear HO_300002; clear HO_307002; clear HO_309002; clear HO_316002; clear HO320; clear BK276; clear BK285; clear BK292; clear BK299; clear BK306; clear BK308; clear BK315; clear HB; have HO_277002 := n0_; have HO_286002 := n1_; have HO_293002 := n2_; have HO_300002 := n3_; have HO_307002 := n4_; have HO_309002 := n5_; have HO_316002 := n6_; have HO320 := n7_; have BK276 := n8_; have BK285 := n9_; have BK292 := n10_; have BK299 := n11_; have BK306 := n12_; have BK308 := n13_; have BK315 := n14_; have HB := n15_; have BK322 := n16_; have GW322 := n17_; have GE322 := n18_; have NB276_322 := n19_; have NB322_276 := n20_; have NB285_322 := n21_; have NB322_285 := n22_; have NB292_322 := n23_; have NB322_292 := n24_; have NB299_322 := n25_; have NB322_299 := n26_; have NB306_322 := n27_; have NB322_306 := n28_; have NB308_322 := n29_; have NB322_308 := n30_; have NB315_322 := n31_; have NB322_315 := n32_; clear n0_ n1_ n2_ n3_ n4_ n5_ n6_ n7_ n8_ n9_ n10_ n11_ n12_ n13_ n14_ n15_ n16_ n17_ n18_ n19_ n20_ n21_ n22_ n23_ n24_ n25_ n26_ n27_ n28_ n29_ n30_ n31_ n32_; clear hb hbox hg; have hnb135 := NB322_276.out; have hnc135 := NB276_322.out; have hnb136 := NB322_285.out; have hnc136 := NB285_322.out; have hnb137 := NB322_292.out; have hnc137 := NB292_322.out; have hnb138 := NB322_299.out; have hnc138 := NB299_322.out; have hnb139 := NB322_306.out; have hnc139 := NB306_322.out; have hnb140 := NB322_308.out; have hnc140 := NB308_322.out; have hnb141 := NB322_315.out; have hnc141 := NB315_322.out; have hcz142_0 : w134.cell? ⟨gb322, 0, none⟩ = some (.int .i64 0) := (blk_cell BK322.out 0).trans rfl; have hcz142_1 : w134.cell? ⟨gb322, 1, none⟩ = some (.int .i64 0) := (blk_cell BK322.out 1).trans rfl; have hcz142_2 : w134.cell? ⟨gb322, 2, none⟩ = some (.slice none 0 0) := (blk_cell BK322.out 2).trans rfl; have hfz142_0 := blk_frozen BK322.out 0; have hfz142_1 := blk_frozen BK322.out 1; have hfz142_2 := blk_frozen BK322.out 2; obtain ⟨Ao143, co143, eo143⟩ := Kd.R_slice HO320.out; subst eo143))
                    have n0_ : Aside0 (Kd.R (Kd.int .i64) 3 (((w134.setCell ⟨gb322, 0, none⟩ (.int .i64 t316)).setCell ⟨gb322, 1, none⟩ (.int .i64 t317)).setCell ⟨gb322, 2, none⟩ (.slice Ao143 t318.length co143)) w.heap.size (fun k_ => some k_ ≠ (.slice Ao25 t281.length co25 : Value).ownBlock ∧ some k_ ≠ (.slice Ao33 t288.length co33 : Value).ownBlock ∧ some k_ ≠ (.slice Ao44 t295.length co44 : Value).ownBlock ∧ some k_ ≠ (.slice Ao54 t302.length co54 : Value).ownBlock ∧ some k_ ≠ (.slice Ao33 t288.length co33 : Value).ownBlock ∧ some k_ ≠ (.slice Ao107 t311.length co107 : Value).ownBlock ∧ some k_ ≠ (.slice Ao143 t318.length co143 : Value).ownBlock) (.slice Ao19 t272.length co19) t272) := ⟨by (with_reducible repeat (first | apply Kd.R_alloc | apply Kd.R_drewN | apply Kd.R_drew)); exact Kd.R_mono (Kd.R_far (p := ⟨gb322, 2, none⟩) (Kd.R_far (p := ⟨gb322, 1, none⟩) (Kd.R_far (p := ⟨gb322, 0, none⟩) (Kd.R_types HO_277002.out BK322.out (by decide)) (fun _ hk => hk.2) (.int .i64 t316)) (fun _ hk => hk.2) (.int .i64 t317)) (fun _ hk => hk.2) (.slice Ao143 t318.length co143)) (fun _ hk => ⟨hk.1.1.1, ⟨hk.1.1.2.1, ⟨hk.1.1.2.2.1, ⟨hk.1.1.2.2.2.1, ⟨hk.1.1.2.2.2.2.1, ⟨hk.1.1.2.2.2.2.2, hk.1.2⟩⟩⟩⟩⟩⟩)⟩
                    have n1_ : Aside0 (Kd.R (Kd.int .i64) 3 (((w134.setCell ⟨gb322, 0, none⟩ (.int .i64 t316)).setCell ⟨gb322, 1, none⟩ (.int .i64 t317)).setCell ⟨gb322, 2, none⟩ (.slice Ao143 t318.length co143)) w.heap.size (fun k_ => some k_ ≠ (.slice Ao19 t272.length co19 : Value).ownBlock ∧ some k_ ≠ (.slice Ao33 t288.length co33 : Value).ownBlock ∧ some k_ ≠ (.slice Ao44 t295.length co44 : Value).ownBlock ∧ some k_ ≠ (.slice Ao54 t302.length co54 : Value).ownBlock ∧ some k_ ≠ (.slice Ao33 t288.length co33 : Value).ownBlock ∧ some k_ ≠ (.slice Ao107 t311.length co107 : Value).ownBlock ∧ some k_ ≠ (.slice Ao143 t318.length co143 : Value).ownBlock) (.slice Ao25 t281.length co25) t281) := ⟨by (with_reducible repeat (first | apply Kd.R_alloc | apply Kd.R_drewN | apply Kd.R_drew)); exact Kd.R_mono (Kd.R_far (p := ⟨gb322, 2, none⟩) (Kd.R_far (p := ⟨gb322, 1, none⟩) (Kd.R_far (p := ⟨gb322, 0, none⟩) (Kd.R_types HO_286002.out BK322.out (by decide)) (fun _ hk => hk.2) (.int .i64 t316)) (fun _ hk => hk.2) (.int .i64 t317)) (fun _ hk => hk.2) (.slice Ao143 t318.length co143)) (fun _ hk => ⟨hk.1.1.1, ⟨hk.1.1.2.1, ⟨hk.1.1.2.2.1, ⟨hk.1.1.2.2.2.1, ⟨hk.1.1.2.2.2.2.1, ⟨hk.1.1.2.2.2.2.2, hk.1.2⟩⟩⟩⟩⟩⟩)⟩
                    have n2_ : Aside0 (Kd.R (Kd.int .i64) 3 (((w134.setCell ⟨gb322, 0, none⟩ (.int .i64 t316)).setCell ⟨gb322, 1, none⟩ (.int .i64 t317)).setCell ⟨gb322, 2, none⟩ (.slice Ao143 t318.length co143)) w.heap.size (fun k_ => some k_ ≠ (.slice Ao19 t272.length co19 : Value).ownBlock ∧ some k_ ≠ (.slice Ao25 t281.length co25 : Value).ownBlock ∧ some k_ ≠ (.slice Ao44 t295.length co44 : Value).ownBlock ∧ some k_ ≠ (.slice Ao54 t302.length co54 : Value).ownBlock ∧ some k_ ≠ (.slice Ao107 t311.length co107 : Value).ownBlock ∧ some k_ ≠ (.slice Ao143 t318.length co143 : Value).ownBlock) (.slice Ao33 t288.length co33) t288) := ⟨by (with_reducible repeat (first | apply Kd.R_alloc | apply Kd.R_drewN | apply Kd.R_drew)); exact Kd.R_mono (Kd.R_far (p := ⟨gb322, 2, none⟩) (Kd.R_far (p := ⟨gb322, 1, none⟩) (Kd.R_far (p := ⟨gb322, 0, none⟩) (Kd.R_types HO_293002.out BK322.out (by decide)) (fun _ hk => hk.2) (.int .i64 t316)) (fun _ hk => hk.2) (.int .i64 t317)) (fun _ hk => hk.2) (.slice Ao143 t318.length co143)) (fun _ hk => ⟨hk.1.1.1, ⟨hk.1.1.2.1, ⟨hk.1.1.2.2.1, ⟨hk.1.1.2.2.2.1, ⟨hk.1.1.2.2.2.2, hk.1.2⟩⟩⟩⟩⟩)⟩
                    have n3_ : Aside0 (Kd.R (Kd.int .i64) 3 (((w134.setCell ⟨gb322, 0, none⟩ (.int .i64 t316)).setCell ⟨gb322, 1, none⟩ (.int .i64 t317)).setCell ⟨gb322, 2, none⟩ (.slice Ao143 t318.length co143)) w.heap.size (fun k_ => some k_ ≠ (.slice Ao19 t272.length co19 : Value).ownBlock ∧ some k_ ≠ (.slice Ao25 t281.length co25 : Value).ownBlock ∧ some k_ ≠ (.slice Ao33 t288.length co33 : Value).ownBlock ∧ some k_ ≠ (.slice Ao54 t302.length co54 : Value).ownBlock ∧ some k_ ≠ (.slice Ao33 t288.length co33 : Value).ownBlock ∧ some k_ ≠ (.slice Ao107 t311.length co107 : Value).ownBlock ∧ some k_ ≠ (.slice Ao143 t318.length co143 : Value).ownBlock) (.slice Ao44 t295.length co44) t295) := ⟨by (with_reducible repeat (first | apply Kd.R_alloc | apply Kd.R_drewN | apply Kd.R_drew)); exact Kd.R_mono (Kd.R_far (p := ⟨gb322, 2, none⟩) (Kd.R_far (p := ⟨gb322, 1, none⟩) (Kd.R_far (p := ⟨gb322, 0, none⟩) (Kd.R_types HO_300002.out BK322.out (by decide)) (fun _ hk => hk.2) (.int .i64 t316)) (fun _ hk => hk.2) (.int .i64 t317)) (fun _ hk => hk.2) (.slice Ao143 t318.length co143)) (fun _ hk => ⟨hk.1.1.1, ⟨hk.1.1.2.1, ⟨hk.1.1.2.2.1, ⟨hk.1.1.2.2.2.1, ⟨hk.1.1.2.2.2.2.1, ⟨hk.1.1.2.2.2.2.2, hk.1.2⟩⟩⟩⟩⟩⟩)⟩
                    have n4_ : Aside0 (Kd.R (Kd.int .i64) 3 (((w134.setCell ⟨gb322, 0, none⟩ (.int .i64 t316)).setCell ⟨gb322, 1, none⟩ (.int .i64 t317)).setCell ⟨gb322, 2, none⟩ (.slice Ao143 t318.length co143)) w.heap.size (fun k_ => some k_ ≠ (.slice Ao19 t272.length co19 : Value).ownBlock ∧ some k_ ≠ (.slice Ao25 t281.length co25 : Value).ownBlock ∧ some k_ ≠ (.slice Ao33 t288.length co33 : Value).ownBlock ∧ some k_ ≠ (.slice Ao44 t295.length co44 : Value).ownBlock ∧ some k_ ≠ (.slice Ao33 t288.length co33 : Value).ownBlock ∧ some k_ ≠ (.slice Ao107 t311.length co107 : Value).ownBlock ∧ some k_ ≠ (.slice Ao143 t318.length co143 : Value).ownBlock) (.slice Ao54 t302.length co54) t302) := ⟨by (with_reducible repeat (first | apply Kd.R_alloc | apply Kd.R_drewN | apply Kd.R_drew)); exact Kd.R_mono (Kd.R_far (p := ⟨gb322, 2, none⟩) (Kd.R_far (p := ⟨gb322, 1, none⟩) (Kd.R_far (p := ⟨gb322, 0, none⟩) (Kd.R_types HO_307002.out BK322.out (by decide)) (fun _ hk => hk.2) (.int .i64 t316)) (fun _ hk => hk.2) (.int .i64 t317)) (fun _ hk => hk.2) (.slice Ao143 t318.length co143)) (fun _ hk => ⟨hk.1.1.1, ⟨hk.1.1.2.1, ⟨hk.1.1.2.2.1, ⟨hk.1.1.2.2.2.1, ⟨hk.1.1.2.2.2.2.1, ⟨hk.1.1.2.2.2.2.2, hk.1.2⟩⟩⟩⟩⟩⟩)⟩
                    have n5_ : Aside0 (Kd.R (Kd.int .i64) 3 (((w134.setCell ⟨gb322, 0, none⟩ (.int .i64 t316)).setCell ⟨gb322, 1, none⟩ (.int .i64 t317)).setCell ⟨gb322, 2, none⟩ (.slice Ao143 t318.length co143)) w.heap.size (fun k_ => some k_ ≠ (.slice Ao19 t272.length co19 : Value).ownBlock ∧ some k_ ≠ (.slice Ao25 t281.length co25 : Value).ownBlock ∧ some k_ ≠ (.slice Ao44 t295.length co44 : Value).ownBlock ∧ some k_ ≠ (.slice Ao54 t302.length co54 : Value).ownBlock ∧ some k_ ≠ (.slice Ao107 t311.length co107 : Value).ownBlock ∧ some k_ ≠ (.slice Ao143 t318.length co143 : Value).ownBlock) (.slice Ao33 t288.length co33) t288) := ⟨by (with_reducible repeat (first | apply Kd.R_alloc | apply Kd.R_drewN | apply Kd.R_drew)); exact Kd.R_mono (Kd.R_far (p := ⟨gb322, 2, none⟩) (Kd.R_far (p := ⟨gb322, 1, none⟩) (Kd.R_far (p := ⟨gb322, 0, none⟩) (Kd.R_types HO_309002.out BK322.out (by decide)) (fun _ hk => hk.2) (.int .i64 t316)) (fun _ hk => hk.2) (.int .i64 t317)) (fun _ hk => hk.2) (.slice Ao143 t318.length co143)) (fun _ hk => ⟨hk.1.1.1, ⟨hk.1.1.2.1, ⟨hk.1.1.2.2.1, ⟨hk.1.1.2.2.2.1, ⟨hk.1.1.2.2.2.2, hk.1.2⟩⟩⟩⟩⟩)⟩
                    have n6_ : Aside0 (Kd.R (Kd.int .i64) 3 (((w134.setCell ⟨gb322, 0, none⟩ (.int .i64 t316)).setCell ⟨gb322, 1, none⟩ (.int .i64 t317)).setCell ⟨gb322, 2, none⟩ (.slice Ao143 t318.length co143)) w.heap.size (fun k_ => some k_ ≠ (.slice Ao19 t272.length co19 : Value).ownBlock ∧ some k_ ≠ (.slice Ao25 t281.length co25 : Value).ownBlock ∧ some k_ ≠ (.slice Ao33 t288.length co33 : Value).ownBlock ∧ some k_ ≠ (.slice Ao44 t295.length co44 : Value).ownBlock ∧ some k_ ≠ (.slice Ao54 t302.length co54 : Value).ownBlock ∧ some k_ ≠ (.slice Ao33 t288.length co33 : Value).ownBlock ∧ some k_ ≠ (.slice Ao143 t318.length co143 : Value).ownBlock) (.slice Ao107 t311.length co107) t311) := ⟨by (with_reducible repeat (first | apply Kd.R_alloc | apply Kd.R_drewN | apply Kd.R_drew)); exact Kd.R_mono (Kd.R_far (p := ⟨gb322, 2, none⟩) (Kd.R_far (p := ⟨gb322, 1, none⟩) (Kd.R_far (p := ⟨gb322, 0, none⟩) (Kd.R_types HO_316002.out BK322.out (by decide)) (fun _ hk => hk.2) (.int .i64 t316)) (fun _ hk => hk.2) (.int .i64 t317)) (fun _ hk => hk.2) (.slice Ao143 t318.length co143)) (fun _ hk => ⟨hk.1.1.1, ⟨hk.1.1.2.1, ⟨hk.1.1.2.2.1, ⟨hk.1.1.2.2.2.1, ⟨hk.1.1.2.2.2.2.1, ⟨hk.1.1.2.2.2.2.2, hk.1.2⟩⟩⟩⟩⟩⟩)⟩
                    have n7_ : Aside0 (Kd.R (Kd.int .i64) 3 (((w134.setCell ⟨gb322, 0, none⟩ (.int .i64 t316)).setCell ⟨gb322, 1, none⟩ (.int .i64 t317)).setCell ⟨gb322, 2, none⟩ (.slice Ao143 t318.length co143)) w.heap.size (fun k_ => some k_ ≠ (.slice Ao19 t272.length co19 : Value).ownBlock ∧ some k_ ≠ (.slice Ao25 t281.length co25 : Value).ownBlock ∧ some k_ ≠ (.slice Ao33 t288.length co33 : Value).ownBlock ∧ some k_ ≠ (.slice Ao44 t295.length co44 : Value).ownBlock ∧ some k_ ≠ (.slice Ao54 t302.length co54 : Value).ownBlock ∧ some k_ ≠ (.slice Ao33 t288.length co33 : Value).ownBlock ∧ some k_ ≠ (.slice Ao107 t311.length co107 : Value).ownBlock) (.slice Ao143 t318.length co143) t318) := ⟨by (with_reducible repeat (first | apply Kd.R_alloc | apply Kd.R_drewN | apply Kd.R_drew)); exact Kd.R_mono (Kd.R_far (p := ⟨gb322, 2, none⟩) (Kd.R_far (p := ⟨gb322, 1, none⟩) (Kd.R_far (p := ⟨gb322, 0, none⟩) (Kd.R_types HO320.out BK322.out (by decide)) (fun _ hk => hk.2) (.int .i64 t316)) (fun _ hk => hk.2) (.int .i64 t317)) (fun _ hk => hk.2) (.slice Ao143 t318.length co143)) (fun _ hk => ⟨hk.1.1.1.1.1.1.1.2, ⟨hk.1.1.1.1.1.1.2, ⟨hk.1.1.1.1.1.2, ⟨hk.1.1.1.1.2, ⟨hk.1.1.1.2, ⟨hk.1.1.2, hk.1.2⟩⟩⟩⟩⟩⟩)⟩
                    have n8_ : Aside0 ((((w134.setCell ⟨gb322, 0, none⟩ (.int .i64 t316)).setCell ⟨gb322, 1, none⟩ (.int .i64 t317)).setCell ⟨gb322, 2, none⟩ (.slice Ao143 t318.length co143)).heap[gb276]? = some (.cells #[.int .i64 t270, .int .i64 t271, .slice Ao19 t272.length co19] 24 (0, 0))) := ⟨by (with_reducible repeat (first | refine blk_drewN ?_ _ | refine blk_drew ?_ | refine blk_alloc ?_ _)); refine blk_far ?_ NB276_322.out _; (with_reducible repeat (first | refine blk_drewN ?_ _ | refine blk_drew ?_ | refine blk_alloc ?_ _)); refine blk_far ?_ NB276_322.out _; (with_reducible repeat (first | refine blk_drewN ?_ _ | refine blk_drew ?_ | refine blk_alloc ?_ _)); refine blk_far ?_ NB276_322.out _; (with_reducible repeat (first | refine blk_drewN ?_ _ | refine blk_drew ?_ | refine blk_alloc ?_ _)); exact BK276.out⟩
                    have n9_ : Aside0 ((((w134.setCell ⟨gb322, 0, none⟩ (.int .i64 t316)).setCell ⟨gb322, 1, none⟩ (.int .i64 t317)).setCell ⟨gb322, 2, none⟩ (.slice Ao143 t318.length co143)).heap[gb285]? = some (.cells #[.int .i64 t279, .int .i64 t280, .slice Ao25 t281.length co25] 24 (0, 0))) := ⟨by (with_reducible repeat (first | refine blk_drewN ?_ _ | refine blk_drew ?_ | refine blk_alloc ?_ _)); refine blk_far ?_ NB285_322.out _; (with_reducible repeat (first | refine blk_drewN ?_ _ | refine blk_drew ?_ | refine blk_alloc ?_ _)); refine blk_far ?_ NB285_322.out _; (with_reducible repeat (first | refine blk_drewN ?_ _ | refine blk_drew ?_ | refine blk_alloc ?_ _)); refine blk_far ?_ NB285_322.out _; (with_reducible repeat (first | refine blk_drewN ?_ _ | refine blk_drew ?_ | refine blk_alloc ?_ _)); exact BK285.out⟩
                    have n10_ : Aside0 ((((w134.setCell ⟨gb322, 0, none⟩ (.int .i64 t316)).setCell ⟨gb322, 1, none⟩ (.int .i64 t317)).setCell ⟨gb322, 2, none⟩ (.slice Ao143 t318.length co143)).heap[gb292]? = some (.cells #[.int .i64 t286, .int .i64 t287, .slice Ao33 t288.length co33] 24 (0, 0))) := ⟨by (with_reducible repeat (first | refine blk_drewN ?_ _ | refine blk_drew ?_ | refine blk_alloc ?_ _)); refine blk_far ?_ NB292_322.out _; (with_reducible repeat (first | refine blk_drewN ?_ _ | refine blk_drew ?_ | refine blk_alloc ?_ _)); refine blk_far ?_ NB292_322.out _; (with_reducible repeat (first | refine blk_drewN ?_ _ | refine blk_drew ?_ | refine blk_alloc ?_ _)); refine blk_far ?_ NB292_322.out _; (with_reducible repeat (first | refine blk_drewN ?_ _ | refine blk_drew ?_ | refine blk_alloc ?_ _)); exact BK292.out⟩
                    have n11_ : Aside0 ((((w134.setCell ⟨gb322, 0, none⟩ (.int .i64 t316)).setCell ⟨gb322, 1, none⟩ (.int .i64 t317)).setCell ⟨gb322, 2, none⟩ (.slice Ao143 t318.length co143)).heap[gb299]? = some (.cells #[.int .i64 t293, .int .i64 t294, .slice Ao44 t295.length co44] 24 (0, 0))) := ⟨by (with_reducible repeat (first | refine blk_drewN ?_ _ | refine blk_drew ?_ | refine blk_alloc ?_ _)); refine blk_far ?_ NB299_322.out _; (with_reducible repeat (first | refine blk_drewN ?_ _ | refine blk_drew ?_ | refine blk_alloc ?_ _)); refine blk_far ?_ NB299_322.out _; (with_reducible repeat (first | refine blk_drewN ?_ _ | refine blk_drew ?_ | refine blk_alloc ?_ _)); refine blk_far ?_ NB299_322.out _; (with_reducible repeat (first | refine blk_drewN ?_ _ | refine blk_drew ?_ | refine blk_alloc ?_ _)); exact BK299.out⟩
                    have n12_ : Aside0 ((((w134.setCell ⟨gb322, 0, none⟩ (.int .i64 t316)).setCell ⟨gb322, 1, none⟩ (.int .i64 t317)).setCell ⟨gb322, 2, none⟩ (.slice Ao143 t318.length co143)).heap[gb306]? = some (.cells #[.int .i64 t300, .int .i64 t301, .slice Ao54 t302.length co54] 24 (0, 0))) := ⟨by (with_reducible repeat (first | refine blk_drewN ?_ _ | refine blk_drew ?_ | refine blk_alloc ?_ _)); refine blk_far ?_ NB306_322.out _; (with_reducible repeat (first | refine blk_drewN ?_ _ | refine blk_drew ?_ | refine blk_alloc ?_ _)); refine blk_far ?_ NB306_322.out _; (with_reducible repeat (first | refine blk_drewN ?_ _ | refine blk_drew ?_ | refine blk_alloc ?_ _)); refine blk_far ?_ NB306_322.out _; (with_reducible repeat (first | refine blk_drewN ?_ _ | refine blk_drew ?_ | refine blk_alloc ?_ _)); exact BK306.out⟩
                    have n13_ : Aside0 ((((w134.setCell ⟨gb322, 0, none⟩ (.int .i64 t316)).setCell ⟨gb322, 1, none⟩ (.int .i64 t317)).setCell ⟨gb322, 2, none⟩ (.slice Ao143 t318.length co143)).heap[gb308]? = some (.cells #[.int .i64 (wrap64 (t286 + (wrap64 (t271 * (wrap64 (a3)))))), .int .i64 t287, .slice Ao33 t288.length co33] 24 (0, 0))) := ⟨by (with_reducible repeat (first | refine blk_drewN ?_ _ | refine blk_drew ?_ | refine blk_alloc ?_ _)); refine blk_far ?_ NB308_322.out _; (with_reducible repeat (first | refine blk_drewN ?_ _ | refine blk_drew ?_ | refine blk_alloc ?_ _)); refine blk_far ?_ NB308_322.out _; (with_reducible repeat (first | refine blk_drewN ?_ _ | refine blk_drew ?_ | refine blk_alloc ?_ _)); refine blk_far ?_ NB308_322.out _; (with_reducible repeat (first | refine blk_drewN ?_ _ | refine blk_drew ?_ | refine blk_alloc ?_ _)); exact BK308.out⟩
                    have n14_ : Aside0 ((((w134.setCell ⟨gb322, 0, none⟩ (.int .i64 t316)).setCell ⟨gb322, 1, none⟩ (.int .i64 t317)).setCell ⟨gb322, 2, none⟩ (.slice Ao143 t318.length co143)).heap[gb315]? = some (.cells #[.int .i64 t309, .int .i64 t310, .slice Ao107 t311.length co107] 24 (0, 0))) := ⟨by (with_reducible repeat (first | refine blk_drewN ?_ _ | refine blk_drew ?_ | refine blk_alloc ?_ _)); refine blk_far ?_ NB315_322.out _; (with_reducible repeat (first | refine blk_drewN ?_ _ | refine blk_drew ?_ | refine blk_alloc ?_ _)); refine blk_far ?_ NB315_322.out _; (with_reducible repeat (first | refine blk_drewN ?_ _ | refine blk_drew ?_ | refine blk_alloc ?_ _)); refine blk_far ?_ NB315_322.out _; (with_reducible repeat (first | refine blk_drewN ?_ _ | refine blk_drew ?_ | refine blk_alloc ?_ _)); exact BK315.out⟩
                    have n15_ : Aside0 ((((w134.setCell ⟨gb322, 0, none⟩ (.int .i64 t316)).setCell ⟨gb322, 1, none⟩ (.int .i64 t317)).setCell ⟨gb322, 2, none⟩ (.slice Ao143 t318.length co143)).heap[gb322]? = some (.cells #[.int .i64 t316, .int .i64 t317, .slice Ao143 t318.length co143] 24 (0, 0))) := ⟨by (with_reducible repeat (first | refine blk_drewN ?_ _ | refine blk_drew ?_ | refine blk_alloc ?_ _)); refine blk_put (cs := #[.int .i64 t316, .int .i64 t317, .slice none 0 0]) ?_ 2 _ rfl; (with_reducible repeat (first | refine blk_drewN ?_ _ | refine blk_drew ?_ | refine blk_alloc ?_ _)); refine blk_put (cs := #[.int .i64 t316, .int .i64 0, .slice none 0 0]) ?_ 1 _ rfl; (with_reducible repeat (first | refine blk_drewN ?_ _ | refine blk_drew ?_ | refine blk_alloc ?_ _)); refine blk_put (cs := #[.int .i64 0, .int .i64 0, .slice none 0 0]) ?_ 0 _ rfl; (with_reducible repeat (first | refine blk_drewN ?_ _ | refine blk_drew ?_ | refine blk_alloc ?_ _)); exact BK322.out⟩
                    have n16_ : Aside0 (Below w.heap.size w (((w134.setCell ⟨gb322, 0, none⟩ (.int .i64 t316)).setCell ⟨gb322, 1, none⟩ (.int .i64 t317)).setCell ⟨gb322, 2, none⟩ (.slice Ao143 t318.length co143))) := ⟨by repeat (first | (with_reducible first | exact HB.out | apply below_alloc | apply pw_below_drewN | apply below_drew1 | refine below_set ?_ GE276.out | refine below_set ?_ GE285.out | refine below_set ?_ GE292.out | refine below_set ?_ GE299.out | refine below_set ?_ GE306.out | refine below_set ?_ GE308.out | refine below_set ?_ GE315.out | refine below_set ?_ GE322.out) | exact HB.out)⟩
                    (try clear HO_277002)
                    (try clear HO_286002)
                    (try clear HO_293002)
                    (try clear HO_300002)
                    (try clear HO_307002)
                    (try clear HO_309002)
                    (try clear HO_316002)
                    (try clear HO320)
                    (try clear BK276)
                    (try clear BK285)
                    (try clear BK292)
                    (try clear BK299)
                    (try clear BK306)
                    (try clear BK308)
                    (try clear BK315)
                    (try clear BK322)
                    (try clear HB)
                    generalize (((w134.setCell ⟨gb322, 0, none⟩ (.int .i64 t316)).setCell ⟨gb322, 1, none⟩ (.int .i64 t317)).setCell ⟨gb322, 2, none⟩ (.slice Ao143 t318.length co143)) = w144 at n0_ n1_ n2_ n3_ n4_ n5_ n6_ n7_ n8_ n9_ n10_ n11_ n12_ n13_ n14_ n15_ n16_ ⊢
                    have HO_277002 := n0_
                    have HO_286002 := n1_
                    have HO_293002 := n2_
                    have HO_300002 := n3_
                    have HO_307002 := n4_
                    have HO_309002 := n5_
                    have HO_316002 := n6_
                    have HO320 := n7_
                    have BK276 := n8_
                    have BK285 := n9_
                    have BK292 := n10_
                    have BK299 := n11_
                    have BK306 := n12_
                    have BK308 := n13_
                    have BK315 := n14_
                    have BK322 := n15_
                    have HB := n16_
                    clear n0_ n1_ n2_ n3_ n4_ n5_ n6_ n7_ n8_ n9_ n10_ n11_ n12_ n13_ n14_ n15_ n16_
                    have n0_ := Aside0.mk (Kd.R_drew HO_277002.out)
                    have n1_ := Aside0.mk (Kd.R_drew HO_286002.out)
                    have n2_ := Aside0.mk (Kd.R_drew HO_293002.out)
                    have n3_ := Aside0.mk (Kd.R_drew HO_300002.out)
                    have n4_ := Aside0.mk (Kd.R_drew HO_307002.out)
                    have n5_ := Aside0.mk (Kd.R_drew HO_309002.out)
                    have n6_ := Aside0.mk (Kd.R_drew HO_316002.out)
                    have n7_ := Aside0.mk (Kd.R_drew HO320.out)
                    have n8_ := Aside0.mk (blk_drew BK276.out)
                    have n9_ := Aside0.mk (blk_drew BK285.out)
                    have n10_ := Aside0.mk (blk_drew BK292.out)
                    have n11_ := Aside0.mk (blk_drew BK299.out)
                    have n12_ := Aside0.mk (blk_drew BK306.out)
                    have n13_ := Aside0.mk (blk_drew BK308.out)
                    have n14_ := Aside0.mk (blk_drew BK315.out)
                    have n15_ := Aside0.mk (blk_drew BK322.out)
                    have n16_ := Aside0.mk (below_drew1 HB.out)
                    clear HO_277002
                    clear HO_286002
                    clear HO_293002
                    clear HO_300002
                    clear HO_307002
                    clear HO_309002
                    clear HO_316002
                    clear HO320
                    clear BK276
                    clear BK285
                    clear BK292
                    clear BK299
                    clear BK306
                    clear BK308
                    clear BK315
                    clear BK322
                    clear HB
                    have HO_277002 := n0_
                    have HO_286002 := n1_
                    have HO_293002 := n2_
                    have HO_300002 := n3_
                    have HO_307002 := n4_
                    have HO_309002 := n5_
                    have HO_316002 := n6_
                    have HO320 := n7_
                    have BK276 := n8_
                    have BK285 := n9_
                    have BK292 := n10_
                    have BK299 := n11_
                    have BK306 := n12_
                    have BK308 := n13_
                    have BK315 := n14_
                    have BK322 := n15_
                    have HB := n16_
                    clear n0_ n1_ n2_ n3_ n4_ n5_ n6_ n7_ n8_ n9_ n10_ n11_ n12_ n13_ n14_ n15_ n16_
                    refine start_ (n := 24) (S := fun w' => w'.cell? ⟨gb322, 0, none⟩ = some (.int .i64 t316) ∧ w'.cell? ⟨gb322, 1, none⟩ = some (.int .i64 t317) ∧ w'.cell? ⟨gb322, 2, none⟩ = some (.slice Ao143 t318.length co143) ∧ w'.cell? ⟨gb308, 0, none⟩ = some (.int .i64 (wrap64 (t286 + (wrap64 (t271 * (wrap64 (a3))))))) ∧ w'.cell? ⟨gb308, 1, none⟩ = some (.int .i64 t287) ∧ w'.cell? ⟨gb308, 2, none⟩ = some (.slice Ao33 t288.length co33) ∧ w'.cell? ⟨gb315, 0, none⟩ = some (.int .i64 t309) ∧ w'.cell? ⟨gb315, 1, none⟩ = some (.int .i64 t310) ∧ w'.cell? ⟨gb315, 2, none⟩ = some (.slice Ao107 t311.length co107) ∧ w'.cell? ⟨gb285, 0, none⟩ = some (.int .i64 t279) ∧ w'.cell? ⟨gb285, 1, none⟩ = some (.int .i64 t280) ∧ w'.cell? ⟨gb285, 2, none⟩ = some (.slice Ao25 t281.length co25)) (ds := []) #[false, false, false, false, false, false, false, false, false, false, false, false, false, false, false, false, false, false, false, false, false, false, false, false] (by kernel_rfl) rfl rfl ⟨(blk_cell BK322.out 0).trans rfl, (blk_cell BK322.out 1).trans rfl, (blk_cell BK322.out 2).trans rfl, (blk_cell BK308.out 0).trans rfl, (blk_cell BK308.out 1).trans rfl, (blk_cell BK308.out 2).trans rfl, (blk_cell BK315.out 0).trans rfl, (blk_cell BK315.out 1).trans rfl, (blk_cell BK315.out 2).trans rfl, (blk_cell BK285.out 0).trans rfl, (blk_cell BK285.out 1).trans rfl, (blk_cell BK285.out 2).trans rfl⟩ (fun hHeld => ?_); refine with_tabW shapesearchlaw09_SeriesParts.tab16 shapesearchlaw09_SeriesParts.bits16 (fun HT_ HW_ => ?_)
                    generalize w144.drew = w145 at HO_277002 HO_286002 HO_293002 HO_300002 HO_307002 HO_309002 HO_316002 HO320 BK276 BK285 BK292 BK299 BK306 BK308 BK315 BK322 HB hHeld ⊢
                    refine pure_ (i := 0) (N := some 131) (v := ?_) (a' := ?_) #[true, false, false, false, false, false, false, false, false, false, false, false, false, false, false, false, false, false, false, false, false, false, false, false] rfl rfl (any_of HT_.out (by kernel_rfl)) (fun _ _ _ h => h) (Or.inl ⟨by rfl, ?_⟩) ?_ ?_
                    rotate_left
                    · intro w'
                      go_simp
                      with_reducible rfl
                    rotate_left
                    · simp only [Act.put, List.setIfInBounds_toArray, List.set_cons_zero, List.set_cons_succ, i64_w, i32_w]
                      rfl
                    refine pure_ (i := 1) (N := some 132) (v := ?_) (a' := ?_) #[true, true, false, false, false, false, false, false, false, false, false, false, false, false, false, false, false, false, false, false, false, false, false, false] rfl rfl (any_of HT_.out (by kernel_rfl)) (fun _ _ _ h => h) (Or.inl ⟨by rfl, ?_⟩) ?_ ?_
                    rotate_left
                    · intro w'
                      go_simp
                      with_reducible rfl
                    rotate_left
                    · simp only [Act.put, List.setIfInBounds_toArray, List.set_cons_zero, List.set_cons_succ, i64_w, i32_w]
                      rfl
                    refine pure_ (i := 2) (N := some 133) (v := ?_) (a' := ?_) #[true, true, true, false, false, false, false, false, false, false, false, false, false, false, false, false, false, false, false, false, false, false, false, false] rfl rfl (any_of HT_.out (by kernel_rfl)) (fun _ _ _ h => h) (Or.inl ⟨by rfl, ?_⟩) ?_ ?_
                    rotate_left
                    · intro w'
                      go_simp
                      with_reducible rfl
                    rotate_left
                    · simp only [Act.put, List.setIfInBounds_toArray, List.set_cons_zero, List.set_cons_succ, i64_w, i32_w]
                      rfl
                    refine take_ (i := 3) (N := some 134) (v := ?_) (a' := ?_) #[true, true, true, true, false, false, false, false, false, false, false, false, false, false, false, false, false, false, false, false, false, false, false, false] rfl rfl (take_ofW HT_.out HW_.out (by kernel_rfl)) (fun _ _ _ h => h) (Or.inl ⟨by rfl, ?_⟩) hHeld ?_ ?_
                    rotate_left
                    · rintro w' ⟨s0, s1, s2, s3, s4, s5, s6, s7, s8, s9, s10, s11⟩
                      go_simp
                      with_reducible rfl
                    rotate_left
                    · simp only [Act.put, List.setIfInBounds_toArray, List.set_cons_zero, List.set_cons_succ, i64_w, i32_w]
                      rfl
                    refine take_ (i := 4) (N := some 135) (v := ?_) (a' := ?_) #[true, true, true, true, true, false, false, false, false, false, false, false, false, false, false, false, false, false, false, false, false, false, false, false] rfl rfl (take_ofW HT_.out HW_.out (by kernel_rfl)) (fun _ _ _ h => h) (Or.inl ⟨by rfl, ?_⟩) hHeld ?_ ?_
                    rotate_left
                    · rintro w' ⟨s0, s1, s2, s3, s4, s5, s6, s7, s8, s9, s10, s11⟩
                      go_simp
                      with_reducible rfl
                    rotate_left
                    · simp only [Act.put, List.setIfInBounds_toArray, List.set_cons_zero, List.set_cons_succ, i64_w, i32_w]
                      rfl
                    refine one_ (i := 5) (N := some 136) #[true, true, true, true, true, true, false, false, false, false, false, false, false, false, false, false, false, false, false, false, false, false, false, false] rfl rfl (one_of HT_.out (by kernel_rfl)) (by decide) (fun K hK => ?_)
                    refine goes_ Try.func11 (by kernel_rfl) rfl #[.agg #[.int .i64 t316, .int .i64 t317, .slice Ao143 t318.length co143], .agg #[.int .i64 (wrap64 (t286 + (wrap64 (t271 * (wrap64 (a3)))))), .int .i64 t287, .slice Ao33 t288.length co33]] (by rfl) rfl rfl (by (try simp only [List.map_toArray, List.map_cons, List.map_nil]); first | done | rfl | (simp only [List.length_drop, List.length_take]; rfl)) ?_
                    with_reducible refine (shapesearchref09_Same.calls kj73 t316 t317 _ _ t318 (wrap64 (t286 + (wrap64 (t271 * (wrap64 (a3)))))) t287 _ _ t288 true _ ?side1 ?side2 ?side3 ?side4 A119.out).mono ?_
                    (case side1 => repeat (first | exact (Kd.R_reads' HO320.out).2.2 | (with_reducible refine Kd.C_alloc ?_ _) | (with_reducible refine Kd.C_drewN ?_ _) | (with_reducible refine Kd.C_drew ?_)))
                    (case side2 => exact (Kd.R_reads' HO320.out).2.1)
                    (case side3 => repeat (first | exact (Kd.R_reads' HO_309002.out).2.2 | (with_reducible refine Kd.C_alloc ?_ _) | (with_reducible refine Kd.C_drewN ?_ _) | (with_reducible refine Kd.C_drew ?_)))
                    (case side4 => exact (Kd.R_reads' HO_309002.out).2.1)
                    rintro e w146 ⟨rfl, hb⟩
                    refine ⟨_, rfl, ?_⟩
                    have n0_ := Aside0.mk (Kd.R_below (by (with_reducible repeat (first | apply Kd.R_alloc | apply Kd.R_drewN | apply Kd.R_drew)); exact HO_277002.out) hb)
                    have n1_ := Aside0.mk (Kd.R_below (by (with_reducible repeat (first | apply Kd.R_alloc | apply Kd.R_drewN | apply Kd.R_drew)); exact HO_286002.out) hb)
                    have n2_ := Aside0.mk (Kd.R_below (by (with_reducible repeat (first | apply Kd.R_alloc | apply Kd.R_drewN | apply Kd.R_drew)); exact HO_293002.out) hb)
                    have n3_ := Aside0.mk (Kd.R_below (by (with_reducible repeat (first | apply Kd.R_alloc | apply Kd.R_drewN | apply Kd.R_drew)); exact HO_300002.out) hb)
                    have n4_ := Aside0.mk (Kd.R_below (by (with_reducible repeat (first | apply Kd.R_alloc | apply Kd.R_drewN | apply Kd.R_drew)); exact HO_307002.out) hb)
                    have n5_ := Aside0.mk (Kd.R_below (by (with_reducible repeat (first | apply Kd.R_alloc | apply Kd.R_drewN | apply Kd.R_drew)); exact HO_309002.out) hb)
                    have n6_ := Aside0.mk (Kd.R_below (by (with_reducible repeat (first | apply Kd.R_alloc | apply Kd.R_drewN | apply Kd.R_drew)); exact HO_316002.out) hb)
                    have n7_ := Aside0.mk (Kd.R_below (by (with_reducible repeat (first | apply Kd.R_alloc | apply Kd.R_drewN | apply Kd.R_drew)); exact HO320.out) hb)
                    have n8_ := Aside0.mk (blk_below (g := gb276) (o := .cells #[.int .i64 t270, .int .i64 t271, .slice Ao19 t272.length co19] 24 (0, 0)) (by (with_reducible repeat (first | refine blk_drewN ?_ _ | refine blk_drew ?_ | refine blk_alloc ?_ _)); exact BK276.out) hb)
                    have n9_ := Aside0.mk (blk_below (g := gb285) (o := .cells #[.int .i64 t279, .int .i64 t280, .slice Ao25 t281.length co25] 24 (0, 0)) (by (with_reducible repeat (first | refine blk_drewN ?_ _ | refine blk_drew ?_ | refine blk_alloc ?_ _)); exact BK285.out) hb)
                    have n10_ := Aside0.mk (blk_below (g := gb292) (o := .cells #[.int .i64 t286, .int .i64 t287, .slice Ao33 t288.length co33] 24 (0, 0)) (by (with_reducible repeat (first | refine blk_drewN ?_ _ | refine blk_drew ?_ | refine blk_alloc ?_ _)); exact BK292.out) hb)
                    have n11_ := Aside0.mk (blk_below (g := gb299) (o := .cells #[.int .i64 t293, .int .i64 t294, .slice Ao44 t295.length co44] 24 (0, 0)) (by (with_reducible repeat (first | refine blk_drewN ?_ _ | refine blk_drew ?_ | refine blk_alloc ?_ _)); exact BK299.out) hb)
                    have n12_ := Aside0.mk (blk_below (g := gb306) (o := .cells #[.int .i64 t300, .int .i64 t301, .slice Ao54 t302.length co54] 24 (0, 0)) (by (with_reducible repeat (first | refine blk_drewN ?_ _ | refine blk_drew ?_ | refine blk_alloc ?_ _)); exact BK306.out) hb)
                    have n13_ := Aside0.mk (blk_below (g := gb308) (o := .cells #[.int .i64 (wrap64 (t286 + (wrap64 (t271 * (wrap64 (a3)))))), .int .i64 t287, .slice Ao33 t288.length co33] 24 (0, 0)) (by (with_reducible repeat (first | refine blk_drewN ?_ _ | refine blk_drew ?_ | refine blk_alloc ?_ _)); exact BK308.out) hb)
                    have n14_ := Aside0.mk (blk_below (g := gb315) (o := .cells #[.int .i64 t309, .int .i64 t310, .slice Ao107 t311.length co107] 24 (0, 0)) (by (with_reducible repeat (first | refine blk_drewN ?_ _ | refine blk_drew ?_ | refine blk_alloc ?_ _)); exact BK315.out) hb)
                    have n15_ := Aside0.mk (blk_below (g := gb322) (o := .cells #[.int .i64 t316, .int .i64 t317, .slice Ao143 t318.length co143] 24 (0, 0)) (by (with_reducible repeat (first | refine blk_drewN ?_ _ | refine blk_drew ?_ | refine blk_alloc ?_ _)); exact BK322.out) hb)
                    have n16_ := Aside0.mk (below_step (by repeat (first | (with_reducible first | exact HB.out | apply below_alloc | apply pw_below_drewN | apply below_drew1 | refine below_set ?_ GE276.out | refine below_set ?_ GE285.out | refine below_set ?_ GE292.out | refine below_set ?_ GE299.out | refine below_set ?_ GE306.out | refine below_set ?_ GE308.out | refine below_set ?_ GE315.out | refine below_set ?_ GE322.out) | exact HB.out)) hb)
                    clear HO_277002
                    clear HO_286002
                    clear HO_293002
                    clear HO_300002
                    clear HO_307002
                    clear HO_309002
                    clear HO_316002
                    clear HO320
                    clear BK276
                    clear BK285
                    clear BK292
                    clear BK299
                    clear BK306
                    clear BK308
                    clear BK315
                    clear BK322
                    clear HB
                    have HO_277002 := n0_
                    have HO_286002 := n1_
                    have HO_293002 := n2_
                    have HO_300002 := n3_
                    have HO_307002 := n4_
                    have HO_309002 := n5_
                    have HO_316002 := n6_
                    have HO320 := n7_
                    have BK276 := n8_
                    have BK285 := n9_
                    have BK292 := n10_
                    have BK299 := n11_
                    have BK306 := n12_
                    have BK308 := n13_
                    have BK315 := n14_
                    have BK322 := n15_
                    have HB := n16_
                    clear n0_ n1_ n2_ n3_ n4_ n5_ n6_ n7_ n8_ n9_ n10_ n11_ n12_ n13_ n14_ n15_ n16_
                    (try clear hb)
                    (try clear hb2)
                    (try clear hk)
                    (try clear hi)
                    refine hK.out _ _ ⟨(blk_cell BK322.out 0).trans rfl, (blk_cell BK322.out 1).trans rfl, (blk_cell BK322.out 2).trans rfl, (blk_cell BK308.out 0).trans rfl, (blk_cell BK308.out 1).trans rfl, (blk_cell BK308.out 2).trans rfl, (blk_cell BK315.out 0).trans rfl, (blk_cell BK315.out 1).trans rfl, (blk_cell BK315.out 2).trans rfl, (blk_cell BK285.out 0).trans rfl, (blk_cell BK285.out 1).trans rfl, (blk_cell BK285.out 2).trans rfl⟩ (fun hHeld => ?_)
                    clear hK K
                    refine norm_ (a' := ?_) ?_ ?_
                    rotate_left
                    · show Act.put _ (some 136) _ = _
                      simp only [Act.put, List.setIfInBounds_toArray, List.set_cons_zero, List.set_cons_succ, i64_w, i32_w]
                      rfl
                    refine pure_ (i := 6) (N := some 137) (v := ?_) (a' := ?_) #[true, true, true, true, true, true, true, false, false, false, false, false, false, false, false, false, false, false, false, false, false, false, false, false] rfl rfl (any_of HT_.out (by kernel_rfl)) (fun _ _ _ h => h) (Or.inl ⟨by rfl, ?_⟩) ?_ ?_
                    rotate_left
                    · intro w'
                      go_simp
                      with_reducible rfl
                    rotate_left
                    · simp only [Act.put, List.setIfInBounds_toArray, List.set_cons_zero, List.set_cons_succ, i64_w, i32_w]
                      rfl
                    refine pure_ (i := 7) (N := some 138) (v := ?_) (a' := ?_) #[true, true, true, true, true, true, true, true, false, false, false, false, false, false, false, false, false, false, false, false, false, false, false, false] rfl rfl (any_of HT_.out (by kernel_rfl)) (fun _ _ _ h => h) (Or.inl ⟨by rfl, ?_⟩) ?_ ?_
                    rotate_left
                    · intro w'
                      go_simp
                      with_reducible rfl
                    rotate_left
                    · simp only [Act.put, List.setIfInBounds_toArray, List.set_cons_zero, List.set_cons_succ, i64_w, i32_w]
                      rfl
                    refine take_ (i := 8) (N := some 139) (v := ?_) (a' := ?_) #[true, true, true, true, true, true, true, true, true, false, false, false, false, false, false, false, false, false, false, false, false, false, false, false] rfl rfl (take_ofW HT_.out HW_.out (by kernel_rfl)) (fun _ _ _ h => h) (Or.inl ⟨by rfl, ?_⟩) hHeld ?_ ?_
                    rotate_left
                    · rintro w' ⟨s0, s1, s2, s3, s4, s5, s6, s7, s8, s9, s10, s11⟩
                      go_simp
                      with_reducible rfl
                    rotate_left
                    · simp only [Act.put, List.setIfInBounds_toArray, List.set_cons_zero, List.set_cons_succ, i64_w, i32_w]
                      rfl
                    refine take_ (i := 11) (N := some 142) (v := ?_) (a' := ?_) #[true, true, true, true, true, true, true, true, true, false, false, true, false, false, false, false, false, false, false, false, false, false, false, false] rfl rfl (take_ofW HT_.out HW_.out (by kernel_rfl)) (fun _ _ _ h => h) (Or.inl ⟨by rfl, ?_⟩) hHeld ?_ ?_
                    rotate_left
                    · rintro w' ⟨s0, s1, s2, s3, s4, s5, s6, s7, s8, s9, s10, s11⟩
                      go_simp
                      with_reducible rfl
                    rotate_left
                    · simp only [Act.put, List.setIfInBounds_toArray, List.set_cons_zero, List.set_cons_succ, i64_w, i32_w]
                      rfl
                    refine take_ (i := 14) (N := some 145) (v := ?_) (a' := ?_) #[true, true, true, true, true, true, true, true, true, false, false, true, false, false, true, false, false, false, false, false, false, false, false, false] rfl rfl (take_ofW HT_.out HW_.out (by kernel_rfl)) (fun _ _ _ h => h) (Or.inl ⟨by rfl, ?_⟩) hHeld ?_ ?_
                    rotate_left
                    · rintro w' ⟨s0, s1, s2, s3, s4, s5, s6, s7, s8, s9, s10, s11⟩
                      go_simp
                      with_reducible rfl
                    rotate_left
                    · simp only [Act.put, List.setIfInBounds_toArray, List.set_cons_zero, List.set_cons_succ, i64_w, i32_w]
                      rfl
                    refine one_ (i := 9) (N := some 140) #[true, true, true, true, true, true, true, true, true, true, false, true, false, false, true, false, false, false, false, false, false, false, false, false] rfl rfl (one_of HT_.out (by kernel_rfl)) (by decide) (fun K hK => ?_)
                    refine goes_ Try.func12 (by kernel_rfl) rfl #[.agg #[.int .i64 t309, .int .i64 t310, .slice Ao107 t311.length co107], .int .i64 1] (by rfl) rfl rfl (by (try simp only [List.map_toArray, List.map_cons, List.map_nil]); first | done | rfl | (simp only [List.length_drop, List.length_take]; rfl)) ?_
                    with_reducible refine (series_Starts.calls kj73 t309 t310 _ _ t311 1 t324 _ ?side1 ?side2 A121.out).mono ?_
                    (case side1 => repeat (first | exact (Kd.R_reads' HO_316002.out).2.2 | (with_reducible refine Kd.C_alloc ?_ _) | (with_reducible refine Kd.C_drewN ?_ _) | (with_reducible refine Kd.C_drew ?_)))
                    (case side2 => exact (Kd.R_reads' HO_316002.out).2.1)
                    rintro e w147 ⟨v325, rfl, ho0, hb⟩
                    refine ⟨_, rfl, ?_⟩
                    have n0_ := Aside0.mk (Kd.R_elder' (by (with_reducible repeat (first | apply Kd.R_alloc | apply Kd.R_drewN | apply Kd.R_drew)); exact HO_277002.out) (Kd.R_base ho0) hb)
                    have n1_ := Aside0.mk (Kd.R_elder' (by (with_reducible repeat (first | apply Kd.R_alloc | apply Kd.R_drewN | apply Kd.R_drew)); exact HO_286002.out) (Kd.R_base ho0) hb)
                    have n2_ := Aside0.mk (Kd.R_elder' (by (with_reducible repeat (first | apply Kd.R_alloc | apply Kd.R_drewN | apply Kd.R_drew)); exact HO_293002.out) (Kd.R_base ho0) hb)
                    have n3_ := Aside0.mk (Kd.R_elder' (by (with_reducible repeat (first | apply Kd.R_alloc | apply Kd.R_drewN | apply Kd.R_drew)); exact HO_300002.out) (Kd.R_base ho0) hb)
                    have n4_ := Aside0.mk (Kd.R_elder' (by (with_reducible repeat (first | apply Kd.R_alloc | apply Kd.R_drewN | apply Kd.R_drew)); exact HO_307002.out) (Kd.R_base ho0) hb)
                    have n5_ := Aside0.mk (Kd.R_elder' (by (with_reducible repeat (first | apply Kd.R_alloc | apply Kd.R_drewN | apply Kd.R_drew)); exact HO_309002.out) (Kd.R_base ho0) hb)
                    have n6_ := Aside0.mk (Kd.R_elder' (by (with_reducible repeat (first | apply Kd.R_alloc | apply Kd.R_drewN | apply Kd.R_drew)); exact HO_316002.out) (Kd.R_base ho0) hb)
                    have n7_ := Aside0.mk (Kd.R_elder' (by (with_reducible repeat (first | apply Kd.R_alloc | apply Kd.R_drewN | apply Kd.R_drew)); exact HO320.out) (Kd.R_base ho0) hb)
                    have n8_ := Aside0.mk (Kd.R_lower (Kd.R_new' (Kd.R_new' (Kd.R_new' (Kd.R_new' (Kd.R_new' (Kd.R_new' (Kd.R_new' (Kd.R_new' ho0 (Kd.R_lt (by (with_reducible repeat (first | apply Kd.R_alloc | apply Kd.R_drewN | apply Kd.R_drew)); exact HO_277002.out))) (Kd.R_lt (by (with_reducible repeat (first | apply Kd.R_alloc | apply Kd.R_drewN | apply Kd.R_drew)); exact HO_286002.out))) (Kd.R_lt (by (with_reducible repeat (first | apply Kd.R_alloc | apply Kd.R_drewN | apply Kd.R_drew)); exact HO_293002.out))) (Kd.R_lt (by (with_reducible repeat (first | apply Kd.R_alloc | apply Kd.R_drewN | apply Kd.R_drew)); exact HO_300002.out))) (Kd.R_lt (by (with_reducible repeat (first | apply Kd.R_alloc | apply Kd.R_drewN | apply Kd.R_drew)); exact HO_307002.out))) (Kd.R_lt (by (with_reducible repeat (first | apply Kd.R_alloc | apply Kd.R_drewN | apply Kd.R_drew)); exact HO_309002.out))) (Kd.R_lt (by (with_reducible repeat (first | apply Kd.R_alloc | apply Kd.R_drewN | apply Kd.R_drew)); exact HO_316002.out))) (Kd.R_lt (by (with_reducible repeat (first | apply Kd.R_alloc | apply Kd.R_drewN | apply Kd.R_drew)); exact HO320.out))) (below_size (by repeat (first | (with_reducible first | exact HB.out | apply below_alloc | apply pw_below_drewN | apply below_drew1 | refine below_set ?_ GE276.out | refine below_set ?_ GE285.out | refine below_set ?_ GE292.out | refine below_set ?_ GE299.out | refine below_set ?_ GE306.out | refine below_set ?_ GE308.out | refine below_set ?_ GE315.out | refine below_set ?_ GE322.out) | exact HB.out))))
                    have n9_ := Aside0.mk (blk_below (g := gb276) (o := .cells #[.int .i64 t270, .int .i64 t271, .slice Ao19 t272.length co19] 24 (0, 0)) (by (with_reducible repeat (first | refine blk_drewN ?_ _ | refine blk_drew ?_ | refine blk_alloc ?_ _)); exact BK276.out) hb)
                    have n10_ := Aside0.mk (blk_below (g := gb285) (o := .cells #[.int .i64 t279, .int .i64 t280, .slice Ao25 t281.length co25] 24 (0, 0)) (by (with_reducible repeat (first | refine blk_drewN ?_ _ | refine blk_drew ?_ | refine blk_alloc ?_ _)); exact BK285.out) hb)
                    have n11_ := Aside0.mk (blk_below (g := gb292) (o := .cells #[.int .i64 t286, .int .i64 t287, .slice Ao33 t288.length co33] 24 (0, 0)) (by (with_reducible repeat (first | refine blk_drewN ?_ _ | refine blk_drew ?_ | refine blk_alloc ?_ _)); exact BK292.out) hb)
                    have n12_ := Aside0.mk (blk_below (g := gb299) (o := .cells #[.int .i64 t293, .int .i64 t294, .slice Ao44 t295.length co44] 24 (0, 0)) (by (with_reducible repeat (first | refine blk_drewN ?_ _ | refine blk_drew ?_ | refine blk_alloc ?_ _)); exact BK299.out) hb)
                    have n13_ := Aside0.mk (blk_below (g := gb306) (o := .cells #[.int .i64 t300, .int .i64 t301, .slice Ao54 t302.length co54] 24 (0, 0)) (by (with_reducible repeat (first | refine blk_drewN ?_ _ | refine blk_drew ?_ | refine blk_alloc ?_ _)); exact BK306.out) hb)
                    have n14_ := Aside0.mk (blk_below (g := gb308) (o := .cells #[.int .i64 (wrap64 (t286 + (wrap64 (t271 * (wrap64 (a3)))))), .int .i64 t287, .slice Ao33 t288.length co33] 24 (0, 0)) (by (with_reducible repeat (first | refine blk_drewN ?_ _ | refine blk_drew ?_ | refine blk_alloc ?_ _)); exact BK308.out) hb)
                    have n15_ := Aside0.mk (blk_below (g := gb315) (o := .cells #[.int .i64 t309, .int .i64 t310, .slice Ao107 t311.length co107] 24 (0, 0)) (by (with_reducible repeat (first | refine blk_drewN ?_ _ | refine blk_drew ?_ | refine blk_alloc ?_ _)); exact BK315.out) hb)
                    have n16_ := Aside0.mk (blk_below (g := gb322) (o := .cells #[.int .i64 t316, .int .i64 t317, .slice Ao143 t318.length co143] 24 (0, 0)) (by (with_reducible repeat (first | refine blk_drewN ?_ _ | refine blk_drew ?_ | refine blk_alloc ?_ _)); exact BK322.out) hb)
                    have n17_ := Aside0.mk (below_step (by repeat (first | (with_reducible first | exact HB.out | apply below_alloc | apply pw_below_drewN | apply below_drew1 | refine below_set ?_ GE276.out | refine below_set ?_ GE285.out | refine below_set ?_ GE292.out | refine below_set ?_ GE299.out | refine below_set ?_ GE306.out | refine below_set ?_ GE308.out | refine below_set ?_ GE315.out | refine below_set ?_ GE322.out) | exact HB.out)) hb)
                    clear HO_277002
                    clear HO_286002
                    clear HO_293002
                    clear HO_300002
                    clear HO_307002
                    clear HO_309002
                    clear HO_316002
                    clear HO320
                    clear BK276
                    clear BK285
                    clear BK292
                    clear BK299
                    clear BK306
                    clear BK308
                    clear BK315
                    clear BK322
                    clear HB
                    have HO_277002 := n0_
                    have HO_286002 := n1_
                    have HO_293002 := n2_
                    have HO_300002 := n3_
                    have HO_307002 := n4_
                    have HO_309002 := n5_
                    have HO_316002 := n6_
                    have HO320 := n7_
                    have HO326 := n8_
                    have BK276 := n9_
                    have BK285 := n10_
                    have BK292 := n11_
                    have BK299 := n12_
                    have BK306 := n13_
                    have BK308 := n14_
                    have BK315 := n15_
                    have BK322 := n16_
                    have HB := n17_
                    clear n0_ n1_ n2_ n3_ n4_ n5_ n6_ n7_ n8_ n9_ n10_ n11_ n12_ n13_ n14_ n15_ n16_ n17_
                    (try clear hb)
                    (try clear hb2)
                    (try clear hk)
                    (try clear hi)
                    (try clear ho0)
                    obtain ⟨Ao148, co148, eo148⟩ := Kd.R_slice HO326.out
                    (first | subst eo148 | (injection eo148 with f1_ f2_ f3_; have f4_ := f1_.symm; have f5_ := f3_.symm; clear f1_ f2_ f3_; subst f4_; subst f5_))
                    refine hK.out _ _ ⟨(blk_cell BK322.out 0).trans rfl, (blk_cell BK322.out 1).trans rfl, (blk_cell BK322.out 2).trans rfl, (blk_cell BK308.out 0).trans rfl, (blk_cell BK308.out 1).trans rfl, (blk_cell BK308.out 2).trans rfl, (blk_cell BK315.out 0).trans rfl, (blk_cell BK315.out 1).trans rfl, (blk_cell BK315.out 2).trans rfl, (blk_cell BK285.out 0).trans rfl, (blk_cell BK285.out 1).trans rfl, (blk_cell BK285.out 2).trans rfl⟩ (fun hHeld => ?_)
                    clear hK K
                    refine norm_ (a' := ?_) ?_ ?_
                    rotate_left
                    · show Act.put _ (some 140) _ = _
                      simp only [Act.put, List.setIfInBounds_toArray, List.set_cons_zero, List.set_cons_succ, i64_w, i32_w]
                      rfl
                    refine pure_ (i := 10) (N := some 141) (v := ?_) (a' := ?_) #[true, true, true, true, true, true, true, true, true, true, true, true, false, false, true, false, false, false, false, false, false, false, false, false] rfl rfl (any_of HT_.out (by kernel_rfl)) (fun _ _ _ h => h) (Or.inl ⟨by rfl, ?_⟩) ?_ ?_
                    rotate_left
                    · intro w'
                      go_simp
                      with_reducible rfl
                    rotate_left
                    · simp only [Act.put, List.setIfInBounds_toArray, List.set_cons_zero, List.set_cons_succ, i64_w, i32_w]
                      rfl
                    refine one_ (i := 12) (N := some 143) #[true, true, true, true, true, true, true, true, true, true, true, true, true, false, true, false, false, false, false, false, false, false, false, false] rfl rfl (one_of HT_.out (by kernel_rfl)) (by decide) (fun K hK => ?_)
                    refine goes_ Try.func12 (by kernel_rfl) rfl #[.agg #[.int .i64 t279, .int .i64 t280, .slice Ao25 t281.length co25], .int .i64 1] (by rfl) rfl rfl (by (try simp only [List.map_toArray, List.map_cons, List.map_nil]); first | done | rfl | (simp only [List.length_drop, List.length_take]; rfl)) ?_
                    with_reducible refine (series_Starts.calls kj73 t279 t280 _ _ t281 1 t327 _ ?side1 ?side2 A122.out).mono ?_
                    (case side1 => repeat (first | exact (Kd.R_reads' HO_286002.out).2.2 | (with_reducible refine Kd.C_alloc ?_ _) | (with_reducible refine Kd.C_drewN ?_ _) | (with_reducible refine Kd.C_drew ?_)))
                    (case side2 => exact (Kd.R_reads' HO_286002.out).2.1)
                    rintro e w149 ⟨v328, rfl, ho0, hb⟩
                    refine ⟨_, rfl, ?_⟩
                    have n0_ := Aside0.mk (Kd.R_elder' (by (with_reducible repeat (first | apply Kd.R_alloc | apply Kd.R_drewN | apply Kd.R_drew)); exact HO_277002.out) (Kd.R_base ho0) hb)
                    have n1_ := Aside0.mk (Kd.R_elder' (by (with_reducible repeat (first | apply Kd.R_alloc | apply Kd.R_drewN | apply Kd.R_drew)); exact HO_286002.out) (Kd.R_base ho0) hb)
                    have n2_ := Aside0.mk (Kd.R_elder' (by (with_reducible repeat (first | apply Kd.R_alloc | apply Kd.R_drewN | apply Kd.R_drew)); exact HO_293002.out) (Kd.R_base ho0) hb)
                    have n3_ := Aside0.mk (Kd.R_elder' (by (with_reducible repeat (first | apply Kd.R_alloc | apply Kd.R_drewN | apply Kd.R_drew)); exact HO_300002.out) (Kd.R_base ho0) hb)
                    have n4_ := Aside0.mk (Kd.R_elder' (by (with_reducible repeat (first | apply Kd.R_alloc | apply Kd.R_drewN | apply Kd.R_drew)); exact HO_307002.out) (Kd.R_base ho0) hb)
                    have n5_ := Aside0.mk (Kd.R_elder' (by (with_reducible repeat (first | apply Kd.R_alloc | apply Kd.R_drewN | apply Kd.R_drew)); exact HO_309002.out) (Kd.R_base ho0) hb)
                    have n6_ := Aside0.mk (Kd.R_elder' (by (with_reducible repeat (first | apply Kd.R_alloc | apply Kd.R_drewN | apply Kd.R_drew)); exact HO_316002.out) (Kd.R_base ho0) hb)
                    have n7_ := Aside0.mk (Kd.R_elder' (by (with_reducible repeat (first | apply Kd.R_alloc | apply Kd.R_drewN | apply Kd.R_drew)); exact HO320.out) (Kd.R_base ho0) hb)
                    have n8_ := Aside0.mk (Kd.R_elder' (by (with_reducible repeat (first | apply Kd.R_alloc | apply Kd.R_drewN | apply Kd.R_drew)); exact HO326.out) (Kd.R_base ho0) hb)
                    have n9_ := Aside0.mk (Kd.R_lower (Kd.R_new' (Kd.R_new' (Kd.R_new' (Kd.R_new' (Kd.R_new' (Kd.R_new' (Kd.R_new' (Kd.R_new' (Kd.R_new' ho0 (Kd.R_lt (by (with_reducible repeat (first | apply Kd.R_alloc | apply Kd.R_drewN | apply Kd.R_drew)); exact HO_277002.out))) (Kd.R_lt (by (with_reducible repeat (first | apply Kd.R_alloc | apply Kd.R_drewN | apply Kd.R_drew)); exact HO_286002.out))) (Kd.R_lt (by (with_reducible repeat (first | apply Kd.R_alloc | apply Kd.R_drewN | apply Kd.R_drew)); exact HO_293002.out))) (Kd.R_lt (by (with_reducible repeat (first | apply Kd.R_alloc | apply Kd.R_drewN | apply Kd.R_drew)); exact HO_300002.out))) (Kd.R_lt (by (with_reducible repeat (first | apply Kd.R_alloc | apply Kd.R_drewN | apply Kd.R_drew)); exact HO_307002.out))) (Kd.R_lt (by (with_reducible repeat (first | apply Kd.R_alloc | apply Kd.R_drewN | apply Kd.R_drew)); exact HO_309002.out))) (Kd.R_lt (by (with_reducible repeat (first | apply Kd.R_alloc | apply Kd.R_drewN | apply Kd.R_drew)); exact HO_316002.out))) (Kd.R_lt (by (with_reducible repeat (first | apply Kd.R_alloc | apply Kd.R_drewN | apply Kd.R_drew)); exact HO320.out))) (Kd.R_lt (by (with_reducible repeat (first | apply Kd.R_alloc | apply Kd.R_drewN | apply Kd.R_drew)); exact HO326.out))) (below_size (by repeat (first | (with_reducible first | exact HB.out | apply below_alloc | apply pw_below_drewN | apply below_drew1 | refine below_set ?_ GE276.out | refine below_set ?_ GE285.out | refine below_set ?_ GE292.out | refine below_set ?_ GE299.out | refine below_set ?_ GE306.out | refine below_set ?_ GE308.out | refine below_set ?_ GE315.out | refine below_set ?_ GE322.out) | exact HB.out))))
                    have n10_ := Aside0.mk (blk_below (g := gb276) (o := .cells #[.int .i64 t270, .int .i64 t271, .slice Ao19 t272.length co19] 24 (0, 0)) (by (with_reducible repeat (first | refine blk_drewN ?_ _ | refine blk_drew ?_ | refine blk_alloc ?_ _)); exact BK276.out) hb)
                    have n11_ := Aside0.mk (blk_below (g := gb285) (o := .cells #[.int .i64 t279, .int .i64 t280, .slice Ao25 t281.length co25] 24 (0, 0)) (by (with_reducible repeat (first | refine blk_drewN ?_ _ | refine blk_drew ?_ | refine blk_alloc ?_ _)); exact BK285.out) hb)
                    have n12_ := Aside0.mk (blk_below (g := gb292) (o := .cells #[.int .i64 t286, .int .i64 t287, .slice Ao33 t288.length co33] 24 (0, 0)) (by (with_reducible repeat (first | refine blk_drewN ?_ _ | refine blk_drew ?_ | refine blk_alloc ?_ _)); exact BK292.out) hb)
                    have n13_ := Aside0.mk (blk_below (g := gb299) (o := .cells #[.int .i64 t293, .int .i64 t294, .slice Ao44 t295.length co44] 24 (0, 0)) (by (with_reducible repeat (first | refine blk_drewN ?_ _ | refine blk_drew ?_ | refine blk_alloc ?_ _)); exact BK299.out) hb)
                    have n14_ := Aside0.mk (blk_below (g := gb306) (o := .cells #[.int .i64 t300, .int .i64 t301, .slice Ao54 t302.length co54] 24 (0, 0)) (by (with_reducible repeat (first | refine blk_drewN ?_ _ | refine blk_drew ?_ | refine blk_alloc ?_ _)); exact BK306.out) hb)
                    have n15_ := Aside0.mk (blk_below (g := gb308) (o := .cells #[.int .i64 (wrap64 (t286 + (wrap64 (t271 * (wrap64 (a3)))))), .int .i64 t287, .slice Ao33 t288.length co33] 24 (0, 0)) (by (with_reducible repeat (first | refine blk_drewN ?_ _ | refine blk_drew ?_ | refine blk_alloc ?_ _)); exact BK308.out) hb)
                    have n16_ := Aside0.mk (blk_below (g := gb315) (o := .cells #[.int .i64 t309, .int .i64 t310, .slice Ao107 t311.length co107] 24 (0, 0)) (by (with_reducible repeat (first | refine blk_drewN ?_ _ | refine blk_drew ?_ | refine blk_alloc ?_ _)); exact BK315.out) hb)
                    have n17_ := Aside0.mk (blk_below (g := gb322) (o := .cells #[.int .i64 t316, .int .i64 t317, .slice Ao143 t318.length co143] 24 (0, 0)) (by (with_reducible repeat (first | refine blk_drewN ?_ _ | refine blk_drew ?_ | refine blk_alloc ?_ _)); exact BK322.out) hb)
                    have n18_ := Aside0.mk (below_step (by repeat (first | (with_reducible first | exact HB.out | apply below_alloc | apply pw_below_drewN | apply below_drew1 | refine below_set ?_ GE276.out | refine below_set ?_ GE285.out | refine below_set ?_ GE292.out | refine below_set ?_ GE299.out | refine below_set ?_ GE306.out | refine below_set ?_ GE308.out | refine below_set ?_ GE315.out | refine below_set ?_ GE322.out) | exact HB.out)) hb)
                    clear HO_277002
                    clear HO_286002
                    clear HO_293002
                    clear HO_300002
                    clear HO_307002
                    clear HO_309002
                    clear HO_316002
                    clear HO320
                    clear HO326
                    clear BK276
                    clear BK285
                    clear BK292
                    clear BK299
                    clear BK306
                    clear BK308
                    clear BK315
                    clear BK322
                    clear HB
                    have HO_277002 := n0_
                    have HO_286002 := n1_
                    have HO_293002 := n2_
                    have HO_300002 := n3_
                    have HO_307002 := n4_
                    have HO_309002 := n5_
                    have HO_316002 := n6_
                    have HO320 := n7_
                    have HO326 := n8_
                    have HO329 := n9_
                    have BK276 := n10_
                    have BK285 := n11_
                    have BK292 := n12_
                    have BK299 := n13_
                    have BK306 := n14_
                    have BK308 := n15_
                    have BK315 := n16_
                    have BK322 := n17_
                    have HB := n18_
                    clear n0_ n1_ n2_ n3_ n4_ n5_ n6_ n7_ n8_ n9_ n10_ n11_ n12_ n13_ n14_ n15_ n16_ n17_ n18_
                    (try clear hb)
                    (try clear hb2)
                    (try clear hk)
                    (try clear hi)
                    (try clear ho0)
                    obtain ⟨Ao150, co150, eo150⟩ := Kd.R_slice HO329.out
                    (first | subst eo150 | (injection eo150 with f1_ f2_ f3_; have f4_ := f1_.symm; have f5_ := f3_.symm; clear f1_ f2_ f3_; subst f4_; subst f5_))
                    refine hK.out _ _ ⟨(blk_cell BK322.out 0).trans rfl, (blk_cell BK322.out 1).trans rfl, (blk_cell BK322.out 2).trans rfl, (blk_cell BK308.out 0).trans rfl, (blk_cell BK308.out 1).trans rfl, (blk_cell BK308.out 2).trans rfl, (blk_cell BK315.out 0).trans rfl, (blk_cell BK315.out 1).trans rfl, (blk_cell BK315.out 2).trans rfl, (blk_cell BK285.out 0).trans rfl, (blk_cell BK285.out 1).trans rfl, (blk_cell BK285.out 2).trans rfl⟩ (fun hHeld => ?_)
                    clear hK K
                    refine norm_ (a' := ?_) ?_ ?_
                    rotate_left
                    · show Act.put _ (some 143) _ = _
                      simp only [Act.put, List.setIfInBounds_toArray, List.set_cons_zero, List.set_cons_succ, i64_w, i32_w]
                      rfl
                    refine pure_ (i := 13) (N := some 144) (v := ?_) (a' := ?_) #[true, true, true, true, true, true, true, true, true, true, true, true, true, true, true, false, false, false, false, false, false, false, false, false] rfl rfl (any_of HT_.out (by kernel_rfl)) (fun _ _ _ h => h) (Or.inl ⟨by rfl, ?_⟩) ?_ ?_
                    rotate_left
                    · intro w'
                      go_simp
                      with_reducible rfl
                    rotate_left
                    · simp only [Act.put, List.setIfInBounds_toArray, List.set_cons_zero, List.set_cons_succ, i64_w, i32_w]
                      rfl
                    refine one_ (i := 15) (N := some 146) #[true, true, true, true, true, true, true, true, true, true, true, true, true, true, true, true, false, false, false, false, false, false, false, false] rfl rfl (one_of HT_.out (by kernel_rfl)) (by decide) (fun K hK => ?_)
                    refine goes_ Try.func12 (by kernel_rfl) rfl #[.agg #[.int .i64 (wrap64 (t286 + (wrap64 (t271 * (wrap64 (a3)))))), .int .i64 t287, .slice Ao33 t288.length co33], .int .i64 1] (by rfl) rfl rfl (by (try simp only [List.map_toArray, List.map_cons, List.map_nil]); first | done | rfl | (simp only [List.length_drop, List.length_take]; rfl)) ?_
                    with_reducible refine (series_Starts.calls kj73 (wrap64 (t286 + (wrap64 (t271 * (wrap64 (a3)))))) t287 _ _ t288 1 t330 _ ?side1 ?side2 A123.out).mono ?_
                    (case side1 => repeat (first | exact (Kd.R_reads' HO_309002.out).2.2 | (with_reducible refine Kd.C_alloc ?_ _) | (with_reducible refine Kd.C_drewN ?_ _) | (with_reducible refine Kd.C_drew ?_)))
                    (case side2 => exact (Kd.R_reads' HO_309002.out).2.1)
                    rintro e w151 ⟨v331, rfl, ho0, hb⟩
                    refine ⟨_, rfl, ?_⟩
                    have n0_ := Aside0.mk (Kd.R_elder' (by (with_reducible repeat (first | apply Kd.R_alloc | apply Kd.R_drewN | apply Kd.R_drew)); exact HO_277002.out) (Kd.R_base ho0) hb)
                    have n1_ := Aside0.mk (Kd.R_elder' (by (with_reducible repeat (first | apply Kd.R_alloc | apply Kd.R_drewN | apply Kd.R_drew)); exact HO_286002.out) (Kd.R_base ho0) hb)
                    have n2_ := Aside0.mk (Kd.R_elder' (by (with_reducible repeat (first | apply Kd.R_alloc | apply Kd.R_drewN | apply Kd.R_drew)); exact HO_293002.out) (Kd.R_base ho0) hb)
                    have n3_ := Aside0.mk (Kd.R_elder' (by (with_reducible repeat (first | apply Kd.R_alloc | apply Kd.R_drewN | apply Kd.R_drew)); exact HO_300002.out) (Kd.R_base ho0) hb)
                    have n4_ := Aside0.mk (Kd.R_elder' (by (with_reducible repeat (first | apply Kd.R_alloc | apply Kd.R_drewN | apply Kd.R_drew)); exact HO_307002.out) (Kd.R_base ho0) hb)
                    have n5_ := Aside0.mk (Kd.R_elder' (by (with_reducible repeat (first | apply Kd.R_alloc | apply Kd.R_drewN | apply Kd.R_drew)); exact HO_309002.out) (Kd.R_base ho0) hb)
                    have n6_ := Aside0.mk (Kd.R_elder' (by (with_reducible repeat (first | apply Kd.R_alloc | apply Kd.R_drewN | apply Kd.R_drew)); exact HO_316002.out) (Kd.R_base ho0) hb)
                    have n7_ := Aside0.mk (Kd.R_elder' (by (with_reducible repeat (first | apply Kd.R_alloc | apply Kd.R_drewN | apply Kd.R_drew)); exact HO320.out) (Kd.R_base ho0) hb)
                    have n8_ := Aside0.mk (Kd.R_elder' (by (with_reducible repeat (first | apply Kd.R_alloc | apply Kd.R_drewN | apply Kd.R_drew)); exact HO326.out) (Kd.R_base ho0) hb)
                    have n9_ := Aside0.mk (Kd.R_elder' (by (with_reducible repeat (first | apply Kd.R_alloc | apply Kd.R_drewN | apply Kd.R_drew)); exact HO329.out) (Kd.R_base ho0) hb)
                    have n10_ := Aside0.mk (Kd.R_lower (Kd.R_new' (Kd.R_new' (Kd.R_new' (Kd.R_new' (Kd.R_new' (Kd.R_new' (Kd.R_new' (Kd.R_new' (Kd.R_new' (Kd.R_new' ho0 (Kd.R_lt (by (with_reducible repeat (first | apply Kd.R_alloc | apply Kd.R_drewN | apply Kd.R_drew)); exact HO_277002.out))) (Kd.R_lt (by (with_reducible repeat (first | apply Kd.R_alloc | apply Kd.R_drewN | apply Kd.R_drew)); exact HO_286002.out))) (Kd.R_lt (by (with_reducible repeat (first | apply Kd.R_alloc | apply Kd.R_drewN | apply Kd.R_drew)); exact HO_293002.out))) (Kd.R_lt (by (with_reducible repeat (first | apply Kd.R_alloc | apply Kd.R_drewN | apply Kd.R_drew)); exact HO_300002.out))) (Kd.R_lt (by (with_reducible repeat (first | apply Kd.R_alloc | apply Kd.R_drewN | apply Kd.R_drew)); exact HO_307002.out))) (Kd.R_lt (by (with_reducible repeat (first | apply Kd.R_alloc | apply Kd.R_drewN | apply Kd.R_drew)); exact HO_309002.out))) (Kd.R_lt (by (with_reducible repeat (first | apply Kd.R_alloc | apply Kd.R_drewN | apply Kd.R_drew)); exact HO_316002.out))) (Kd.R_lt (by (with_reducible repeat (first | apply Kd.R_alloc | apply Kd.R_drewN | apply Kd.R_drew)); exact HO320.out))) (Kd.R_lt (by (with_reducible repeat (first | apply Kd.R_alloc | apply Kd.R_drewN | apply Kd.R_drew)); exact HO326.out))) (Kd.R_lt (by (with_reducible repeat (first | apply Kd.R_alloc | apply Kd.R_drewN | apply Kd.R_drew)); exact HO329.out))) (below_size (by repeat (first | (with_reducible first | exact HB.out | apply below_alloc | apply pw_below_drewN | apply below_drew1 | refine below_set ?_ GE276.out | refine below_set ?_ GE285.out | refine below_set ?_ GE292.out | refine below_set ?_ GE299.out | refine below_set ?_ GE306.out | refine below_set ?_ GE308.out | refine below_set ?_ GE315.out | refine below_set ?_ GE322.out) | exact HB.out))))
                    have n11_ := Aside0.mk (blk_below (g := gb276) (o := .cells #[.int .i64 t270, .int .i64 t271, .slice Ao19 t272.length co19] 24 (0, 0)) (by (with_reducible repeat (first | refine blk_drewN ?_ _ | refine blk_drew ?_ | refine blk_alloc ?_ _)); exact BK276.out) hb)
                    have n12_ := Aside0.mk (blk_below (g := gb285) (o := .cells #[.int .i64 t279, .int .i64 t280, .slice Ao25 t281.length co25] 24 (0, 0)) (by (with_reducible repeat (first | refine blk_drewN ?_ _ | refine blk_drew ?_ | refine blk_alloc ?_ _)); exact BK285.out) hb)
                    have n13_ := Aside0.mk (blk_below (g := gb292) (o := .cells #[.int .i64 t286, .int .i64 t287, .slice Ao33 t288.length co33] 24 (0, 0)) (by (with_reducible repeat (first | refine blk_drewN ?_ _ | refine blk_drew ?_ | refine blk_alloc ?_ _)); exact BK292.out) hb)
                    have n14_ := Aside0.mk (blk_below (g := gb299) (o := .cells #[.int .i64 t293, .int .i64 t294, .slice Ao44 t295.length co44] 24 (0, 0)) (by (with_reducible repeat (first | refine blk_drewN ?_ _ | refine blk_drew ?_ | refine blk_alloc ?_ _)); exact BK299.out) hb)
                    have n15_ := Aside0.mk (blk_below (g := gb306) (o := .cells #[.int .i64 t300, .int .i64 t301, .slice Ao54 t302.length co54] 24 (0, 0)) (by (with_reducible repeat (first | refine blk_drewN ?_ _ | refine blk_drew ?_ | refine blk_alloc ?_ _)); exact BK306.out) hb)
                    have n16_ := Aside0.mk (blk_below (g := gb308) (o := .cells #[.int .i64 (wrap64 (t286 + (wrap64 (t271 * (wrap64 (a3)))))), .int .i64 t287, .slice Ao33 t288.length co33] 24 (0, 0)) (by (with_reducible repeat (first | refine blk_drewN ?_ _ | refine blk_drew ?_ | refine blk_alloc ?_ _)); exact BK308.out) hb)
                    have n17_ := Aside0.mk (blk_below (g := gb315) (o := .cells #[.int .i64 t309, .int .i64 t310, .slice Ao107 t311.length co107] 24 (0, 0)) (by (with_reducible repeat (first | refine blk_drewN ?_ _ | refine blk_drew ?_ | refine blk_alloc ?_ _)); exact BK315.out) hb)
                    have n18_ := Aside0.mk (blk_below (g := gb322) (o := .cells #[.int .i64 t316, .int .i64 t317, .slice Ao143 t318.length co143] 24 (0, 0)) (by (with_reducible repeat (first | refine blk_drewN ?_ _ | refine blk_drew ?_ | refine blk_alloc ?_ _)); exact BK322.out) hb)
                    have n19_ := Aside0.mk (below_step (by repeat (first | (with_reducible first | exact HB.out | apply below_alloc | apply pw_below_drewN | apply below_drew1 | refine below_set ?_ GE276.out | refine below_set ?_ GE285.out | refine below_set ?_ GE292.out | refine below_set ?_ GE299.out | refine below_set ?_ GE306.out | refine below_set ?_ GE308.out | refine below_set ?_ GE315.out | refine below_set ?_ GE322.out) | exact HB.out)) hb)
                    clear HO_277002
                    clear HO_286002
                    clear HO_293002
                    clear HO_300002
                    clear HO_307002
                    clear HO_309002
                    clear HO_316002
                    clear HO320
                    clear HO326
                    clear HO329
                    clear BK276
                    clear BK285
                    clear BK292
                    clear BK299
                    clear BK306
                    clear BK308
                    clear BK315
                    clear BK322
                    clear HB
                    have HO_277002 := n0_
                    have HO_286002 := n1_
                    have HO_293002 := n2_
                    have HO_300002 := n3_
                    have HO_307002 := n4_
                    have HO_309002 := n5_
                    have HO_316002 := n6_
                    have HO320 := n7_
                    have HO326 := n8_
                    have HO329 := n9_
                    have HO332 := n10_
                    have BK276 := n11_
                    have BK285 := n12_
                    have BK292 := n13_
                    have BK299 := n14_
                    have BK306 := n15_
                    have BK308 := n16_
                    have BK315 := n17_
                    have BK322 := n18_
                    have HB := n19_
                    clear n0_ n1_ n2_ n3_ n4_ n5_ n6_ n7_ n8_ n9_ n10_ n11_ n12_ n13_ n14_ n15_ n16_ n17_ n18_ n19_
                    (try clear hb)
                    (try clear hb2)
                    (try clear hk)
                    (try clear hi)
                    (try clear ho0)
                    obtain ⟨Ao152, co152, eo152⟩ := Kd.R_slice HO332.out
                    (first | subst eo152 | (injection eo152 with f1_ f2_ f3_; have f4_ := f1_.symm; have f5_ := f3_.symm; clear f1_ f2_ f3_; subst f4_; subst f5_))
                    refine hK.out _ _ ⟨(blk_cell BK322.out 0).trans rfl, (blk_cell BK322.out 1).trans rfl, (blk_cell BK322.out 2).trans rfl, (blk_cell BK308.out 0).trans rfl, (blk_cell BK308.out 1).trans rfl, (blk_cell BK308.out 2).trans rfl, (blk_cell BK315.out 0).trans rfl, (blk_cell BK315.out 1).trans rfl, (blk_cell BK315.out 2).trans rfl, (blk_cell BK285.out 0).trans rfl, (blk_cell BK285.out 1).trans rfl, (blk_cell BK285.out 2).trans rfl⟩ (fun hHeld => ?_)
                    clear hK K
                    refine norm_ (a' := ?_) ?_ ?_
                    rotate_left
                    · show Act.put _ (some 146) _ = _
                      simp only [Act.put, List.setIfInBounds_toArray, List.set_cons_zero, List.set_cons_succ, i64_w, i32_w]
                      rfl
                    refine pure_ (i := 16) (N := some 147) (v := ?_) (a' := ?_) #[true, true, true, true, true, true, true, true, true, true, true, true, true, true, true, true, true, false, false, false, false, false, false, false] rfl rfl (any_of HT_.out (by kernel_rfl)) (fun _ _ _ h => h) (Or.inl ⟨by rfl, ?_⟩) ?_ ?_
                    rotate_left
                    · intro w'
                      go_simp
                      with_reducible rfl
                    rotate_left
                    · simp only [Act.put, List.setIfInBounds_toArray, List.set_cons_zero, List.set_cons_succ, i64_w, i32_w]
                      rfl
                    refine pure_ (i := 17) (N := some 148) (v := ?_) (a' := ?_) #[true, true, true, true, true, true, true, true, true, true, true, true, true, true, true, true, true, true, false, false, false, false, false, false] rfl rfl (any_of HT_.out (by kernel_rfl)) (fun _ _ _ h => h) (Or.inl ⟨by rfl, ?_⟩) ?_ ?_
                    rotate_left
                    · intro w'
                      go_simp
                      with_reducible rfl
                    rotate_left
                    · simp only [Act.put, List.setIfInBounds_toArray, List.set_cons_zero, List.set_cons_succ, i64_w, i32_w]
                      rfl
                    refine pure_ (i := 18) (N := some 149) (v := ?_) (a' := ?_) #[true, true, true, true, true, true, true, true, true, true, true, true, true, true, true, true, true, true, true, false, false, false, false, false] rfl rfl (any_of HT_.out (by kernel_rfl)) (fun _ _ _ h => h) (Or.inl ⟨by rfl, ?_⟩) ?_ ?_
                    rotate_left
                    · intro w'
                      go_simp
                      with_reducible rfl
                    rotate_left
                    · simp only [Act.put, List.setIfInBounds_toArray, List.set_cons_zero, List.set_cons_succ, i64_w, i32_w]
                      rfl
                    refine pure_ (i := 19) (N := some 150) (v := ?_) (a' := ?_) #[true, true, true, true, true, true, true, true, true, true, true, true, true, true, true, true, true, true, true, true, false, false, false, false] rfl rfl (any_of HT_.out (by kernel_rfl)) (fun _ _ _ h => h) (Or.inl ⟨by rfl, ?_⟩) ?_ ?_
                    rotate_left
                    · intro w'
                      go_simp
                      with_reducible rfl
                    rotate_left
                    · simp only [Act.put, List.setIfInBounds_toArray, List.set_cons_zero, List.set_cons_succ, i64_w, i32_w]
                      rfl
                    refine pure_ (i := 20) (N := some 151) (v := ?_) (a' := ?_) #[true, true, true, true, true, true, true, true, true, true, true, true, true, true, true, true, true, true, true, true, true, false, false, false] rfl rfl (any_of HT_.out (by kernel_rfl)) (fun _ _ _ h => h) (Or.inl ⟨by rfl, ?_⟩) ?_ ?_
                    rotate_left
                    · intro w'
                      go_simp
                      with_reducible rfl
                    rotate_left
                    · simp only [Act.put, List.setIfInBounds_toArray, List.set_cons_zero, List.set_cons_succ, i64_w, i32_w]
                      rfl
                    refine one_ (i := 21) (N := some 152) #[true, true, true, true, true, true, true, true, true, true, true, true, true, true, true, true, true, true, true, true, true, true, false, false] rfl rfl (one_of HT_.out (by kernel_rfl)) (by decide) (fun K hK => ?_)
                    refine goes_ Try.func13 (by kernel_rfl) rfl #[] (by rfl) rfl rfl (by (try simp only [List.map_toArray, List.map_cons, List.map_nil]); first | done | rfl | (simp only [List.length_drop, List.length_take]; rfl)) ?_
                    with_reducible refine (shapesearchlaw09_awake.calls kj73  t333 _ A125.out).mono ?_
                    rintro e w153 ⟨rfl, hb⟩
                    refine ⟨_, rfl, ?_⟩
                    have n0_ := Aside0.mk (Kd.R_below (by (with_reducible repeat (first | apply Kd.R_alloc | apply Kd.R_drewN | apply Kd.R_drew)); exact HO_277002.out) hb)
                    have n1_ := Aside0.mk (Kd.R_below (by (with_reducible repeat (first | apply Kd.R_alloc | apply Kd.R_drewN | apply Kd.R_drew)); exact HO_286002.out) hb)
                    have n2_ := Aside0.mk (Kd.R_below (by (with_reducible repeat (first | apply Kd.R_alloc | apply Kd.R_drewN | apply Kd.R_drew)); exact HO_293002.out) hb)
                    have n3_ := Aside0.mk (Kd.R_below (by (with_reducible repeat (first | apply Kd.R_alloc | apply Kd.R_drewN | apply Kd.R_drew)); exact HO_300002.out) hb)
                    have n4_ := Aside0.mk (Kd.R_below (by (with_reducible repeat (first | apply Kd.R_alloc | apply Kd.R_drewN | apply Kd.R_drew)); exact HO_307002.out) hb)
                    have n5_ := Aside0.mk (Kd.R_below (by (with_reducible repeat (first | apply Kd.R_alloc | apply Kd.R_drewN | apply Kd.R_drew)); exact HO_309002.out) hb)
                    have n6_ := Aside0.mk (Kd.R_below (by (with_reducible repeat (first | apply Kd.R_alloc | apply Kd.R_drewN | apply Kd.R_drew)); exact HO_316002.out) hb)
                    have n7_ := Aside0.mk (Kd.R_below (by (with_reducible repeat (first | apply Kd.R_alloc | apply Kd.R_drewN | apply Kd.R_drew)); exact HO320.out) hb)
                    have n8_ := Aside0.mk (Kd.R_below (by (with_reducible repeat (first | apply Kd.R_alloc | apply Kd.R_drewN | apply Kd.R_drew)); exact HO326.out) hb)
                    have n9_ := Aside0.mk (Kd.R_below (by (with_reducible repeat (first | apply Kd.R_alloc | apply Kd.R_drewN | apply Kd.R_drew)); exact HO329.out) hb)
                    have n10_ := Aside0.mk (Kd.R_below (by (with_reducible repeat (first | apply Kd.R_alloc | apply Kd.R_drewN | apply Kd.R_drew)); exact HO332.out) hb)
                    have n11_ := Aside0.mk (blk_below (g := gb276) (o := .cells #[.int .i64 t270, .int .i64 t271, .slice Ao19 t272.length co19] 24 (0, 0)) (by (with_reducible repeat (first | refine blk_drewN ?_ _ | refine blk_drew ?_ | refine blk_alloc ?_ _)); exact BK276.out) hb)
                    have n12_ := Aside0.mk (blk_below (g := gb285) (o := .cells #[.int .i64 t279, .int .i64 t280, .slice Ao25 t281.length co25] 24 (0, 0)) (by (with_reducible repeat (first | refine blk_drewN ?_ _ | refine blk_drew ?_ | refine blk_alloc ?_ _)); exact BK285.out) hb)
                    have n13_ := Aside0.mk (blk_below (g := gb292) (o := .cells #[.int .i64 t286, .int .i64 t287, .slice Ao33 t288.length co33] 24 (0, 0)) (by (with_reducible repeat (first | refine blk_drewN ?_ _ | refine blk_drew ?_ | refine blk_alloc ?_ _)); exact BK292.out) hb)
                    have n14_ := Aside0.mk (blk_below (g := gb299) (o := .cells #[.int .i64 t293, .int .i64 t294, .slice Ao44 t295.length co44] 24 (0, 0)) (by (with_reducible repeat (first | refine blk_drewN ?_ _ | refine blk_drew ?_ | refine blk_alloc ?_ _)); exact BK299.out) hb)
                    have n15_ := Aside0.mk (blk_below (g := gb306) (o := .cells #[.int .i64 t300, .int .i64 t301, .slice Ao54 t302.length co54] 24 (0, 0)) (by (with_reducible repeat (first | refine blk_drewN ?_ _ | refine blk_drew ?_ | refine blk_alloc ?_ _)); exact BK306.out) hb)
                    have n16_ := Aside0.mk (blk_below (g := gb308) (o := .cells #[.int .i64 (wrap64 (t286 + (wrap64 (t271 * (wrap64 (a3)))))), .int .i64 t287, .slice Ao33 t288.length co33] 24 (0, 0)) (by (with_reducible repeat (first | refine blk_drewN ?_ _ | refine blk_drew ?_ | refine blk_alloc ?_ _)); exact BK308.out) hb)
                    have n17_ := Aside0.mk (blk_below (g := gb315) (o := .cells #[.int .i64 t309, .int .i64 t310, .slice Ao107 t311.length co107] 24 (0, 0)) (by (with_reducible repeat (first | refine blk_drewN ?_ _ | refine blk_drew ?_ | refine blk_alloc ?_ _)); exact BK315.out) hb)
                    have n18_ := Aside0.mk (blk_below (g := gb322) (o := .cells #[.int .i64 t316, .int .i64 t317, .slice Ao143 t318.length co143] 24 (0, 0)) (by (with_reducible repeat (first | refine blk_drewN ?_ _ | refine blk_drew ?_ | refine blk_alloc ?_ _)); exact BK322.out) hb)
                    have n19_ := Aside0.mk (below_step (by repeat (first | (with_reducible first | exact HB.out | apply below_alloc | apply pw_below_drewN | apply below_drew1 | refine below_set ?_ GE276.out | refine below_set ?_ GE285.out | refine below_set ?_ GE292.out | refine below_set ?_ GE299.out | refine below_set ?_ GE306.out | refine below_set ?_ GE308.out | refine below_set ?_ GE315.out | refine below_set ?_ GE322.out) | exact HB.out)) hb)
                    clear HO_277002
                    clear HO_286002
                    clear HO_293002
                    clear HO_300002
                    clear HO_307002
                    clear HO_309002
                    clear HO_316002
                    clear HO320
                    clear HO326
                    clear HO329
                    clear HO332
                    clear BK276
                    clear BK285
                    clear BK292
                    clear BK299
                    clear BK306
                    clear BK308
                    clear BK315
                    clear BK322
                    clear HB
                    have HO_277002 := n0_
                    have HO_286002 := n1_
                    have HO_293002 := n2_
                    have HO_300002 := n3_
                    have HO_307002 := n4_
                    have HO_309002 := n5_
                    have HO_316002 := n6_
                    have HO320 := n7_
                    have HO326 := n8_
                    have HO329 := n9_
                    have HO332 := n10_
                    have BK276 := n11_
                    have BK285 := n12_
                    have BK292 := n13_
                    have BK299 := n14_
                    have BK306 := n15_
                    have BK308 := n16_
                    have BK315 := n17_
                    have BK322 := n18_
                    have HB := n19_
                    clear n0_ n1_ n2_ n3_ n4_ n5_ n6_ n7_ n8_ n9_ n10_ n11_ n12_ n13_ n14_ n15_ n16_ n17_ n18_ n19_
                    (try clear hb)
                    (try clear hb2)
                    (try clear hk)
                    (try clear hi)
                    refine hK.out _ _ ⟨(blk_cell BK322.out 0).trans rfl, (blk_cell BK322.out 1).trans rfl, (blk_cell BK322.out 2).trans rfl, (blk_cell BK308.out 0).trans rfl, (blk_cell BK308.out 1).trans rfl, (blk_cell BK308.out 2).trans rfl, (blk_cell BK315.out 0).trans rfl, (blk_cell BK315.out 1).trans rfl, (blk_cell BK315.out 2).trans rfl, (blk_cell BK285.out 0).trans rfl, (blk_cell BK285.out 1).trans rfl, (blk_cell BK285.out 2).trans rfl⟩ (fun hHeld => ?_)
                    clear hK K
                    refine norm_ (a' := ?_) ?_ ?_
                    rotate_left
                    · show Act.put _ (some 152) _ = _
                      simp only [Act.put, List.setIfInBounds_toArray, List.set_cons_zero, List.set_cons_succ, i64_w, i32_w]
                      rfl
                    refine pure_ (i := 22) (N := some 153) (v := ?_) (a' := ?_) #[true, true, true, true, true, true, true, true, true, true, true, true, true, true, true, true, true, true, true, true, true, true, true, false] rfl rfl (any_of HT_.out (by kernel_rfl)) (fun _ _ _ h => h) (Or.inl ⟨by rfl, ?_⟩) ?_ ?_
                    rotate_left
                    · intro w'
                      go_simp
                      with_reducible rfl
                    rotate_left
                    · simp only [Act.put, List.setIfInBounds_toArray, List.set_cons_zero, List.set_cons_succ, i64_w, i32_w]
                      rfl
                    refine pure_ (i := 23) (N := some 8) (v := ?_) (a' := ?_) #[true, true, true, true, true, true, true, true, true, true, true, true, true, true, true, true, true, true, true, true, true, true, true, true] rfl rfl (any_of HT_.out (by kernel_rfl)) (fun _ _ _ h => h) (Or.inl ⟨by rfl, ?_⟩) ?_ ?_
                    rotate_left
                    · intro w'
                      go_simp
                      with_reducible rfl
                    rotate_left
                    · simp only [Act.put, List.setIfInBounds_toArray, List.set_cons_zero, List.set_cons_succ, i64_w, i32_w]
                      rfl
                    refine done_ (done_of HT_.out (by kernel_rfl)) ?_
                    (try clear hHeld); (try clear HS0_); (try clear HS1_); (try clear HS2_); (try clear HS3_); (try clear HS4_); (try clear HS5_); (try clear HS6_); (try clear HS7_); (try clear HS8_); (try clear HS9_); (try clear HS10_); (try clear HS11_)
                    try go_wp2
                    go_ret
                    exact ⟨by first | rfl | (simp [errW_none, errW_some] <;> rfl) | (simp [*, errW_none, errW_some] <;> rfl), by repeat (first | (with_reducible first | exact HB.out | apply below_alloc | apply pw_below_drewN | apply below_drew1 | refine below_set ?_ GE276.out | refine below_set ?_ GE285.out | refine below_set ?_ GE292.out | refine below_set ?_ GE299.out | refine below_set ?_ GE306.out | refine below_set ?_ GE308.out | refine below_set ?_ GE315.out | refine below_set ?_ GE322.out) | exact HB.out)⟩
                  · rw [if_neg c124] at H
                    exact absurd ((Option.some.inj H).trans hT.out) (by decide)
                · replace c120 := Bool.eq_false_iff.mpr c120
                  subst c120
                  have H1 : (some false) = some r := by rw [if_neg (show ¬ (false = true) by decide)] at H; exact H
                  exact absurd ((Option.some.inj H1).trans hT.out) (by decide)
              · rw [if_neg c118] at H
                exact absurd ((Option.some.inj H).trans hT.out) (by decide)
/-- THE ONE PURE STATEMENT of shapesearchlaw09_SeriesParts: yours. -/
def shapesearchlaw09_SeriesParts.Pure : Prop := ∀ (l0 : List Int) (a1 : Int) (a2 : Int) (a3 : Int), l0.length ≤ maxLen → l0.length * 8 ≤ 140737488351232 → (∀ x ∈ l0, (Lit.int .i64 x).wf = true) → (Lit.int .u8 a1).wf = true → (Lit.int .u8 a2).wf = true → (Lit.int .u8 a3).wf = true → ∃ k, shapesearchlaw09_SeriesParts.f k l0 a1 a2 a3 = some true
theorem shapesearchlaw09_SeriesParts.walk (P : shapesearchlaw09_SeriesParts.Pure) (a0 : Option Addr) (len0 cap0 : Nat) (z0 : List Int) (a1 : Int) (a2 : Int) (a3 : Int) (w : World) (w0 : (a0 = none ∧ len0 = 0 ∧ cap0 = 0 ∧ z0 = []) ∨ ∃ x, a0 = some x ∧ len0 ≤ cap0 ∧ cap0 ≤ maxLen ∧ z0.length = cap0 ∧ (∀ i, i < z0.length → w.cell? (x.add i) = some (.int .i64 (z0.getD i 0))) ∧ ∀ n ∈ z0, (Lit.int .i64 n).wf = true) (y0 : len0 * 8 ≤ 140737488351232) (w1 : (Lit.int .u8 a1).wf = true) (w2 : (Lit.int .u8 a2).wf = true) (w3 : (Lit.int .u8 a3).wf = true) :
    Calls Try.prog 3 #[.slice a0 len0 cap0, .int .u8 a1, .int .u8 a2, .int .u8 a3] w fun e w' => e = .returned (.bool true) ∧ Below w.heap.size w w' := by
  obtain ⟨l0, rfl, hr0, hm0, hw0, hc0⟩ := ReadsInt.ofRowC w0
  obtain ⟨k, h⟩ := P l0 a1 a2 a3 hm0 y0 hw0 w1 w2 w3
  refine (shapesearchlaw09_SeriesParts.calls k _ _ l0 a1 a2 a3 true w (Kd.C_of_reads (d := (0 : Int)) (h1 := fun _ => rfl) hr0) hc0 h ⟨rfl⟩).mono ?_
  rintro e w' ⟨rfl, hd⟩
  exact ⟨rfl, hd⟩

end Go.Proofs.Ytpcglagnkenkaaa.Q
