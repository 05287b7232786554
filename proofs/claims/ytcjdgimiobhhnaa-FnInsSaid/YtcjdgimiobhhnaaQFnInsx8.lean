-- written by mp.py, a program of this session, over the translation; Lean checks it
import Derived.Test.YtcjdgimiobhhnaaQFnInsx0
import Derived.Test.YtcjdgimiobhhnaaQFnInsx7
namespace Go.Proofs.Ytcjdgimiobhhnaa.QFnIns
open Go.RowKit Go.Proofs.YtcjdgimiobhhnaaW.PrintWords Go.Proofs.YtcjdgimiobhhnaaW.PrintLast Go.Proofs.YtcjdgimiobhhnaaW.PrintMore
attribute [local go_sem] max2_int min2_int max_two min_two max_three min_three max_four min_four   -- for this text's walks alone
set_option linter.unusedVariables false
set_option linter.unusedSimpArgs false

/-! ### spec_l21Ins: function 55 -/
mutual
def spec_l21Ins.j0 : Nat → Int → Int → Bool → List Int → Int → Int → Option (Int × Int × Int × Int × Int × Int × Int)
 | 0, _, _, _, _, _, _ => none
 | k + 1, x3, x7, x8, x1000, x1001, x1002 => if x8 = true then ((spec_l1Next.f x1000 x1001 x1002 13).bind fun bt198 => ((spec_func1.f x1000 bt198.2.1 bt198.2.2).bind fun bt201 => ((spec_func1.f x1000 bt201.2.1 bt201.2.2).bind fun bt204 => (some (wrap64 (1 + bt198.1), x3, bt201.1, bt204.1, 0, bt204.2.1, bt204.2.2))))) else (if x7 = 3 then (spec_l21Ins.j1 k x3 x7 (x7 == 3) x1000 x1001 x1002) else (spec_l21Ins.j1 k x3 x7 (x7 == 4) x1000 x1001 x1002))
def spec_l21Ins.j1 : Nat → Int → Int → Bool → List Int → Int → Int → Option (Int × Int × Int × Int × Int × Int × Int)
 | 0, _, _, _, _, _, _ => none
 | k + 1, x3, x7, x21, x1000, x1001, x1002 => if x21 = true then ((spec_l1Next.f x1000 x1001 x1002 13).bind fun bt207 => ((spec_func1.f x1000 bt207.2.1 bt207.2.2).bind fun bt210 => ((spec_l21Imm.f x1000 bt210.2.1 bt210.2.2).bind fun bt213 => (some (wrap64 (33 + bt207.1), x3, bt210.1, 0, bt213.1, bt213.2.1, bt213.2.2))))) else (if x7 = 5 then ((spec_func1.f x1000 x1001 x1002).bind fun bt216 => ((spec_func1.f x1000 bt216.2.1 bt216.2.2).bind fun bt219 => ((spec_l1Next.f x1000 bt219.2.1 bt219.2.2 10).bind fun bt222 => (some (14, x3, bt216.1, bt219.1, wrap64 (1 + bt222.1), bt222.2.1, bt222.2.2))))) else (if x7 = 6 then ((spec_func1.f x1000 x1001 x1002).bind fun bt225 => ((spec_l1Next.f x1000 bt225.2.1 bt225.2.2 10).bind fun bt228 => ((spec_l21Imm.f x1000 bt228.2.1 bt228.2.2).bind fun bt231 => (some (46, x3, bt225.1, wrap64 (1 + bt228.1), bt231.1, bt231.2.1, bt231.2.2))))) else (if x7 = 7 then ((spec_func1.f x1000 x1001 x1002).bind fun bt234 => ((spec_func1.f x1000 bt234.2.1 bt234.2.2).bind fun bt237 => ((spec_func1.f x1000 bt237.2.1 bt237.2.2).bind fun bt240 => (some (15, x3, bt234.1, bt237.1, bt240.1, bt240.2.1, bt240.2.2))))) else (if x7 = 8 then ((spec_l1Next.f x1000 x1001 x1002 2).bind fun bt243 => ((spec_func1.f x1000 bt243.2.1 bt243.2.2).bind fun bt246 => ((some (([1, 8, 16, 32] : List Int) : List Int)).bind fun y249 => ((spec_l1Next.f x1000 bt246.2.1 bt246.2.2 4).bind fun bt252 => (if 0 ≤ bt252.1 then (if bt252.1 < (y249.length : Int) then (some (wrap64 (16 + bt243.1), x3, bt246.1, 0, rd y249 bt252.1, bt252.2.1, bt252.2.2)) else (none)) else (none)))))) else (if x7 = 9 then ((some (([18, 30] : List Int) : List Int)).bind fun y256 => ((spec_l1Next.f x1000 x1001 x1002 2).bind fun bt259 => (if 0 ≤ bt259.1 then (if bt259.1 < (y256.length : Int) then ((spec_l21Imm.f x1000 bt259.2.1 bt259.2.2).bind fun bt263 => (some (rd y256 bt259.1, x3, 0, 0, bt263.1, bt263.2.1, bt263.2.2))) else (none)) else (none)))) else (if x7 = 10 then ((spec_func1.f x1000 x1001 x1002).bind fun bt266 => ((spec_l21Imm.f x1000 bt266.2.1 bt266.2.2).bind fun bt269 => (some (19, x3, bt266.1, 0, bt269.1, bt269.2.1, bt269.2.2)))) else (if x7 = 11 then (spec_l21Ins.j2 k x3 x7 (x7 == 11) x1000 x1001 x1002) else (spec_l21Ins.j2 k x3 x7 (x7 == 12) x1000 x1001 x1002))))))))
def spec_l21Ins.j2 : Nat → Int → Int → Bool → List Int → Int → Int → Option (Int × Int × Int × Int × Int × Int × Int)
 | 0, _, _, _, _, _, _ => none
 | k + 1, x3, x7, x98, x1000, x1001, x1002 => if x98 = true then ((spec_l1Next.f x1000 x1001 x1002 2).bind fun bt272 => ((spec_func1.f x1000 bt272.2.1 bt272.2.2).bind fun bt275 => ((some (([1, 2, 4, 8] : List Int) : List Int)).bind fun y278 => ((spec_l1Next.f x1000 bt275.2.1 bt275.2.2 4).bind fun bt281 => (if 0 ≤ bt281.1 then (if bt281.1 < (y278.length : Int) then ((some (([4096, 4100, 5000, 8, (-8), (-16), 1048576] : List Int) : List Int)).bind fun y285 => ((spec_l1Next.f x1000 bt281.2.1 bt281.2.2 7).bind fun bt288 => (if 0 ≤ bt288.1 then (if bt288.1 < (y285.length : Int) then (some (wrap64 (20 + bt272.1), x3, bt275.1, rd y278 bt281.1, rd y285 bt288.1, bt288.2.1, bt288.2.2)) else (none)) else (none)))) else (none)) else (none)))))) else (if x7 = 13 then ((some (([23, 26] : List Int) : List Int)).bind fun y292 => ((spec_l1Next.f x1000 x1001 x1002 2).bind fun bt295 => (if 0 ≤ bt295.1 then (if bt295.1 < (y292.length : Int) then ((spec_l1Next.f x1000 bt295.2.1 bt295.2.2 6).bind fun bt299 => (some (rd y292 bt295.1, 0, 0, 0, wrap64 (bt299.1 - 2), bt299.2.1, bt299.2.2))) else (none)) else (none)))) else (if x7 = 14 then ((spec_l1Next.f x1000 x1001 x1002 2).bind fun bt302 => ((spec_l1Next.f x1000 bt302.2.1 bt302.2.2 6).bind fun bt305 => (some (wrap64 (24 + bt302.1), x3, 0, 0, wrap64 (bt305.1 - 2), bt305.2.1, bt305.2.2)))) else ((spec_l1Chance.f x1000 x1001 x1002 2).bind fun bt308 => (if bt308.1 = true then ((some (([27, 29, 27] : List Int) : List Int)).bind fun y311 => ((spec_l1Next.f x1000 bt308.2.1 bt308.2.2 3).bind fun bt314 => (if 0 ≤ bt314.1 then (if bt314.1 < (y311.length : Int) then (some (rd y311 bt314.1, 0, 0, 0, 0, bt314.2.1, bt314.2.2)) else (none)) else (none)))) else ((some (([28, 22] : List Int) : List Int)).bind fun y318 => ((spec_l1Next.f x1000 bt308.2.1 bt308.2.2 2).bind fun bt321 => (if 0 ≤ bt321.1 then (if bt321.1 < (y318.length : Int) then (some (rd y318 bt321.1, x3, 0, 0, 0, bt321.2.1, bt321.2.2)) else (none)) else (none))))))))
end
def spec_l21Ins.f (k : Nat) (s0_0 : List Int) (s0_1 : Int) (s0_2 : Int) : Option (Int × Int × Int × Int × Int × Int × Int) := (spec_func1.f s0_0 s0_1 s0_2).bind fun bt192 => ((spec_l1Next.f s0_0 bt192.2.1 bt192.2.2 16).bind fun bt195 => (if bt195.1 = 0 then (spec_l21Ins.j0 k bt192.1 bt195.1 (bt195.1 == 0) s0_0 bt195.2.1 bt195.2.2) else (if bt195.1 = 1 then (spec_l21Ins.j0 k bt192.1 bt195.1 (bt195.1 == 1) s0_0 bt195.2.1 bt195.2.2) else (spec_l21Ins.j0 k bt192.1 bt195.1 (bt195.1 == 2) s0_0 bt195.2.1 bt195.2.2))))
theorem spec_l21Ins.mono_l : ∀ k, (∀ y0 y1 y2 y3 y4 y5, LeO (spec_l21Ins.j0 k y0 y1 y2 y3 y4 y5) (spec_l21Ins.j0 (k + 1) y0 y1 y2 y3 y4 y5)) ∧ (∀ y0 y1 y2 y3 y4 y5, LeO (spec_l21Ins.j1 k y0 y1 y2 y3 y4 y5) (spec_l21Ins.j1 (k + 1) y0 y1 y2 y3 y4 y5)) ∧ (∀ y0 y1 y2 y3 y4 y5, LeO (spec_l21Ins.j2 k y0 y1 y2 y3 y4 y5) (spec_l21Ins.j2 (k + 1) y0 y1 y2 y3 y4 y5))
 | 0 => ⟨fun _ _ _ _ _ _ r h => by simp [spec_l21Ins.j0] at h, fun _ _ _ _ _ _ r h => by simp [spec_l21Ins.j1] at h, fun _ _ _ _ _ _ r h => by simp [spec_l21Ins.j2] at h⟩
 | k + 1 => by
  obtain ⟨ih0, ih1, ih2⟩ := spec_l21Ins.mono_l k
  refine ⟨?_, ?_, ?_⟩
  ·intro y0 y1 y2 y3 y4 y5
   unfold spec_l21Ins.j0
   repeat' first
   | (with_reducible exact ih0 _ _ _ _ _ _)
   | (with_reducible exact ih1 _ _ _ _ _ _)
   | (with_reducible exact ih2 _ _ _ _ _ _)
   | (with_reducible exact LeO.refl _)
   | (with_reducible exact LeO.none _)
   | (with_reducible refine LeO.ite ?_ ?_)
   | (with_reducible refine LeO.bind ?_ (fun _ => ?_))
   | exact ih0 _ _ _ _ _ _
   | exact ih1 _ _ _ _ _ _
   | exact ih2 _ _ _ _ _ _
   | exact LeO.none _
   | refine LeO.ite ?_ ?_
   | refine LeO.bind ?_ (fun _ => ?_)
  ·intro y0 y1 y2 y3 y4 y5
   unfold spec_l21Ins.j1
   repeat' first
   | (with_reducible exact ih0 _ _ _ _ _ _)
   | (with_reducible exact ih1 _ _ _ _ _ _)
   | (with_reducible exact ih2 _ _ _ _ _ _)
   | (with_reducible exact LeO.refl _)
   | (with_reducible exact LeO.none _)
   | (with_reducible refine LeO.ite ?_ ?_)
   | (with_reducible refine LeO.bind ?_ (fun _ => ?_))
   | exact ih0 _ _ _ _ _ _
   | exact ih1 _ _ _ _ _ _
   | exact ih2 _ _ _ _ _ _
   | exact LeO.none _
   | refine LeO.ite ?_ ?_
   | refine LeO.bind ?_ (fun _ => ?_)
  ·intro y0 y1 y2 y3 y4 y5
   unfold spec_l21Ins.j2
   repeat' first
   | (with_reducible exact ih0 _ _ _ _ _ _)
   | (with_reducible exact ih1 _ _ _ _ _ _)
   | (with_reducible exact ih2 _ _ _ _ _ _)
   | (with_reducible exact LeO.refl _)
   | (with_reducible exact LeO.none _)
   | (with_reducible refine LeO.ite ?_ ?_)
   | (with_reducible refine LeO.bind ?_ (fun _ => ?_))
   | exact ih0 _ _ _ _ _ _
   | exact ih1 _ _ _ _ _ _
   | exact ih2 _ _ _ _ _ _
   | exact LeO.none _
   | refine LeO.ite ?_ ?_
   | refine LeO.bind ?_ (fun _ => ?_)
theorem spec_l21Ins.mono : ∀ a0 a1 a2 k, LeO (spec_l21Ins.f k a0 a1 a2) (spec_l21Ins.f (k + 1) a0 a1 a2) := by
 intro a0 a1 a2 k
 obtain ⟨ih0, ih1, ih2⟩ := spec_l21Ins.mono_l k
 unfold spec_l21Ins.f
 repeat' first
   | (with_reducible exact ih0 _ _ _ _ _ _)
   | (with_reducible exact ih1 _ _ _ _ _ _)
   | (with_reducible exact ih2 _ _ _ _ _ _)
   | (with_reducible exact LeO.refl _)
   | (with_reducible exact LeO.none _)
   | (with_reducible refine LeO.ite ?_ ?_)
   | (with_reducible refine LeO.bind ?_ (fun _ => ?_))
   | exact ih0 _ _ _ _ _ _
   | exact ih1 _ _ _ _ _ _
   | exact ih2 _ _ _ _ _ _
   | exact LeO.none _
   | refine LeO.ite ?_ ?_
   | refine LeO.bind ?_ (fun _ => ?_)
def spec_l21Ins.T19 : Bool × List (List Nat × List Nat) := (true, [([], []), ([], []), ([1], [1]), ([0, 2], [0, 2]), ([3], [3]), ([], []), ([], []), ([6, 2], [6]), ([4, 5, 7], [4, 5, 7]), ([8, 7, 0, 1, 2, 3, 4, 5, 6, 7, 8], [8])])
def spec_l21Ins.B19 : List Nat := [0, 0, 2, 7, 15, 0, 0, 70, 255, 511]
theorem spec_l21Ins.tab19 : rtab .any (opsOf Try.f55 19) = spec_l21Ins.T19 := by kernel_rfl
theorem spec_l21Ins.bits19 : waitsOk spec_l21Ins.T19.2 spec_l21Ins.B19 = true := by kernel_rfl
def spec_l21Ins.T24 : Bool × List (List Nat × List Nat) := (true, [([], []), ([0], [0]), ([1], [1]), ([], []), ([], []), ([4, 1], [4]), ([], []), ([], []), ([7, 5], [7]), ([6, 8], [6, 8]), ([9], [9]), ([], []), ([], []), ([12, 8], [12]), ([11, 13], [11, 13]), ([14], [14]), ([2, 3, 5, 10, 15], [2, 3, 5, 10, 15]), ([16, 13, 0, 1, 2, 3, 4, 5, 6, 7, 8, 9, 10, 11, 12, 13, 14, 15, 16], [16])])
def spec_l21Ins.B24 : List Nat := [0, 1, 3, 0, 0, 19, 0, 0, 179, 499, 1011, 0, 0, 4531, 14771, 31155, 65535, 131071]
theorem spec_l21Ins.tab24 : rtab .any (opsOf Try.f55 24) = spec_l21Ins.T24 := by kernel_rfl
theorem spec_l21Ins.bits24 : waitsOk spec_l21Ins.T24.2 spec_l21Ins.B24 = true := by kernel_rfl
def spec_l21Ins.T26 : Bool × List (List Nat × List Nat) := (true, [([], []), ([], []), ([1], [1]), ([0, 2], [0, 2]), ([3], [3]), ([], []), ([5, 2], [5]), ([6], [6]), ([4, 7], [4, 7]), ([8, 6, 0, 1, 2, 3, 4, 5, 6, 7, 8], [8])])
def spec_l21Ins.B26 : List Nat := [0, 0, 2, 7, 15, 0, 38, 102, 255, 511]
theorem spec_l21Ins.tab26 : rtab .any (opsOf Try.f55 26) = spec_l21Ins.T26 := by kernel_rfl
theorem spec_l21Ins.bits26 : waitsOk spec_l21Ins.T26.2 spec_l21Ins.B26 = true := by kernel_rfl
set_option maxHeartbeats 100000000 in
set_option maxRecDepth 100000 in
theorem spec_l21Ins.calls (k : Nat) (g : Nat) (s0_0 : List Int) (s0_1 : Int) (s0_2 : Int) (r1 : Int) (r2 : Int) (r3 : Int) (r4 : Int) (r5 : Int) (r6 : Int) (r7 : Int) (w0 w : World) (hI : IsS104 w0 w g s0_0 s0_1 s0_2) (hB : Below w0.heap.size w0 w) (h : spec_l21Ins.f k s0_0 s0_1 s0_2 = some (r1, r2, r3, r4, r5, r6, r7)) :
    Calls Try.prog 55 #[.pointer (some ⟨g, 0, none⟩)] w fun e w' => e = .returned (.agg #[.int .i64 r1, .int .i64 r2, .int .i64 r3, .int .i64 r4, .int .i64 r5]) ∧ IsS104 w0 w' g s0_0 r6 r7 ∧ Below w0.heap.size w0 w' ∧ KeepBut w w' g none := by
 have hu41 := Try.underlying41
 have HI0 := Aside0.mk hI
 have HK := Aside0.mk (KeepBut.refl w g none)
 have HL := Aside0.mk hB.size
 clear hI
 have HW0 := Aside0.mk hB.size
 have HB := Aside0.mk hB
 clear hB
 have H : ((spec_func1.f s0_0 s0_1 s0_2).bind fun bt192 => ((spec_l1Next.f s0_0 bt192.2.1 bt192.2.2 16).bind fun bt195 => (if bt195.1 = 0 then (spec_l21Ins.j0 k bt192.1 bt195.1 (bt195.1 == 0) s0_0 bt195.2.1 bt195.2.2) else (if bt195.1 = 1 then (spec_l21Ins.j0 k bt192.1 bt195.1 (bt195.1 == 1) s0_0 bt195.2.1 bt195.2.2) else (spec_l21Ins.j0 k bt192.1 bt195.1 (bt195.1 == 2) s0_0 bt195.2.1 bt195.2.2))))) = some (r1, r2, r3, r4, r5, r6, r7) := h
 clear h
 replace H := Option.bind_eq_some_iff.mp H
 obtain ⟨⟨t192, t193, t194⟩, A20, H⟩ := H
 replace H : ((spec_l1Next.f s0_0 t193 t194 16).bind fun bt195 => (if bt195.1 = 0 then (spec_l21Ins.j0 k t192 bt195.1 (bt195.1 == 0) s0_0 bt195.2.1 bt195.2.2) else (if bt195.1 = 1 then (spec_l21Ins.j0 k t192 bt195.1 (bt195.1 == 1) s0_0 bt195.2.1 bt195.2.2) else (spec_l21Ins.j0 k t192 bt195.1 (bt195.1 == 2) s0_0 bt195.2.1 bt195.2.2)))) = some (r1, r2, r3, r4, r5, r6, r7) := H
 have A2 := Aside0.mk A20
 clear A20
 replace H := Option.bind_eq_some_iff.mp H
 obtain ⟨⟨t195, t196, t197⟩, A30, H⟩ := H
 replace H : (if t195 = 0 then (spec_l21Ins.j0 k t192 t195 (t195 == 0) s0_0 t196 t197) else (if t195 = 1 then (spec_l21Ins.j0 k t192 t195 (t195 == 1) s0_0 t196 t197) else (spec_l21Ins.j0 k t192 t195 (t195 == 2) s0_0 t196 t197))) = some (r1, r2, r3, r4, r5, r6, r7) := H
 have A3 := Aside0.mk A30
 clear A30
 have HC4 := Aside0.mk H
 clear H
 go_enter Try.func55, Try.ntmps55
 go_upto_if 8 with (first | ((with_reducible refine gate_dst (N := 2) rfl ?_); refine box_event ?hg (N := 2) ?hd (cs := #[.int .i64 0, .int .i64 0, .int .i64 0, .int .i64 0, .int .i64 0]) (t := 41) ?hr ?_; (case hd => rfl); (case hg => rfl); (case hr => first | (go_simp; done) | (go_simp; rfl)); intro gb191 hg w5 hbox hb; have n0_ := Aside0.mk (IsS104.below (by repeat (first | (with_reducible first | exact HI0.out | apply IsS104.alloc | apply IsS104.drewN | apply IsS104.drew) | exact HI0.out)) hb); have n1_ := Aside0.mk (KeepBut.trans (by repeat (first | (with_reducible first | exact HK.out | apply KeepBut.set_ | apply keep_drewN | apply keep_drew | apply keep_alloc) | exact HK.out)) (KeepBut.of_below hb g none) (.inl rfl)); have n2_ := Aside0.mk (below_step (by repeat (first | (with_reducible first | exact HB.out | apply below_alloc | apply pw_below_drewN | apply below_drew1 | refine below_set ?_ (IsS104.ge HI0.out)) | exact HB.out)) hb); have n3_ := Aside0.mk (hbox); have n4_ := Aside0.mk ((by rw [hg]; exact (keep_size (w := w) (g := g) (row := none) (by repeat (first | (with_reducible first | exact HK.out | apply KeepBut.set_ | apply keep_drewN | apply keep_drew | apply keep_alloc) | exact HK.out))) : w.heap.size ≤ gb191)); have n5_ := Aside0.mk ((Nat.le_trans HW0.out (by rw [hg]; exact (keep_size (w := w) (g := g) (row := none) (by repeat (first | (with_reducible first | exact HK.out | apply KeepBut.set_ | apply keep_drewN | apply keep_drew | apply keep_alloc) | exact HK.out))) : w.heap.size ≤ gb191) : w0.heap.size ≤ gb191)); have n6_ := Aside0.mk ((by rw [hg]; exact Nat.ne_of_lt (IsS104.lt (show IsS104 w0 _ g s0_0 s0_1 s0_2 from by repeat (first | (with_reducible first | exact HI0.out | apply IsS104.alloc | apply IsS104.drewN | apply IsS104.drew) | exact HI0.out))) : g ≠ gb191)); have n7_ := Aside0.mk ((by rw [hg]; exact Nat.ne_of_gt (IsS104.lt (show IsS104 w0 _ g s0_0 s0_1 s0_2 from by repeat (first | (with_reducible first | exact HI0.out | apply IsS104.alloc | apply IsS104.drewN | apply IsS104.drew) | exact HI0.out))) : gb191 ≠ g)); clear HI0; clear HK; clear HB; have HI0 := n0_; have HK := n1_; have HB := n2_; have BK191 := n3_; have GW191 := n4_; have GE191 := n5_; have NB0_191 := n6_; have NB191_0 := n7_; clear n0_ n1_ n2_ n3_ n4_ n5_ n6_ n7_; clear hb hbox hg) | ((with_reducible refine gate_callee (f := 81) rfl ?_); refine goesL_ (some 5) rfl rfl Try.func81 (by kernel_rfl) rfl #[.pointer (some ⟨g, 0, none⟩)] rfl (by (try simp only [List.map_toArray, List.map_cons, List.map_nil]); first | done | rfl) ?_; (with_reducible refine (spec_func1.calls g s0_0 s0_1 s0_2 t192 t193 t194 w0 _ ?side1 ?side2 A2.out).mono ?_); (case side1 => repeat (first | (with_reducible first | exact HI0.out | apply IsS104.alloc | apply IsS104.drewN | apply IsS104.drew | refine IsS104.far ?_ NB0_191.out _) | exact HI0.out)); (case side2 => repeat (first | (with_reducible first | exact HB.out | apply below_alloc | apply pw_below_drewN | apply below_drew1 | refine below_set ?_ (IsS104.ge HI0.out) | refine below_set ?_ GE191.out) | exact HB.out)); rintro e w6 ⟨rfl, hi, hb, hk⟩; refine ⟨_, rfl, ?_⟩; have n0_ := Aside0.mk (KeepBut.blk hk (g' := gb191) (o := .cells #[.int .i64 0, .int .i64 0, .int .i64 0, .int .i64 0, .int .i64 0] 41 (0, 0)) (by exact BK191.out) NB191_0.out (by simp)); have n1_ := Aside0.mk (KeepBut.trans (by repeat (first | (with_reducible first | exact HK.out | apply KeepBut.set_ | apply keep_drewN | apply keep_drew | apply keep_alloc | refine keep_far ?_ GW191.out _) | exact HK.out)) hk (.inl rfl)); have n2_ := Aside0.mk (hb); have n3_ := Aside0.mk (hi); clear BK191; clear HK; clear HB; clear HI0; have BK191 := n0_; have HK := n1_; have HB := n2_; have HI0 := n3_; clear n0_ n1_ n2_ n3_; (try clear hb); (try clear hb2); (try clear hk); (try clear hi)) | ((with_reducible refine gate_callee (f := 68) rfl ?_); refine goesL_ (some 7) rfl rfl Try.func68 (by kernel_rfl) rfl #[.pointer (some ⟨g, 0, none⟩), .int .i64 16] rfl (by (try simp only [List.map_toArray, List.map_cons, List.map_nil]); first | done | rfl) ?_; (with_reducible refine (spec_l1Next.calls g s0_0 t193 t194 16 t195 t196 t197 w0 _ ?side1 ?side2 A3.out).mono ?_); (case side1 => repeat (first | (with_reducible first | exact HI0.out | apply IsS104.alloc | apply IsS104.drewN | apply IsS104.drew | refine IsS104.far ?_ NB0_191.out _) | exact HI0.out)); (case side2 => repeat (first | (with_reducible first | exact HB.out | apply below_alloc | apply pw_below_drewN | apply below_drew1 | refine below_set ?_ (IsS104.ge HI0.out) | refine below_set ?_ GE191.out) | exact HB.out)); rintro e w7 ⟨rfl, hi, hb, hk⟩; refine ⟨_, rfl, ?_⟩; have n0_ := Aside0.mk (KeepBut.blk hk (g' := gb191) (o := .cells #[.int .i64 0, .int .i64 0, .int .i64 0, .int .i64 0, .int .i64 0] 41 (0, 0)) (by exact BK191.out) NB191_0.out (by simp)); have n1_ := Aside0.mk (KeepBut.trans (by repeat (first | (with_reducible first | exact HK.out | apply KeepBut.set_ | apply keep_drewN | apply keep_drew | apply keep_alloc | refine keep_far ?_ GW191.out _) | exact HK.out)) hk (.inl rfl)); have n2_ := Aside0.mk (hb); have n3_ := Aside0.mk (hi); clear BK191; clear HK; clear HB; clear HI0; have BK191 := n0_; have HK := n1_; have HB := n2_; have HI0 := n3_; clear n0_ n1_ n2_ n3_; (try clear hb); (try clear hb2); (try clear hk); (try clear hi)))
 (try simp only [Act.put, List.setIfInBounds_toArray, List.set_cons_zero, List.set_cons_succ])
 go_cut [8] (fun v8 wc => ∃ (kq : Nat) (x8_3 : Bool), v8 = .bool x8_3 ∧ Aside0 (spec_l21Ins.j0 kq t192 t195 x8_3 s0_0 t196 t197 = some (r1, r2, r3, r4, r5, r6, r7)) ∧ Aside0 (kq ≤ k) ∧ Aside0 (wc.heap[gb191]? = some (.cells #[.int .i64 0, .int .i64 0, .int .i64 0, .int .i64 0, .int .i64 0] 41 (0, 0))) ∧ Aside0 (IsS104 w0 wc g s0_0 t196 t197) ∧ Aside0 (KeepBut w wc g none) ∧ Aside0 (Below w0.heap.size w0 wc))
 case first =>
  have H := HC4.out
  clear HC4
  by_cases c8 : t195 = 0
  ·rw [if_pos c8] at H
   have c8b0 : (t195 == 0) = true := beq_iff_eq.mpr c8
   have c8b1 : (t195 != 0) = false := bne_eq_false_iff_eq.mpr c8
   clear c8
   (first | rw [c8b0] | (simp only [i64_w, i32_w]; rw [c8b0]) | skip)
   have H' := Aside0.mk H
   clear H
   go_wp2
   go_meet
   case rel => exact ⟨_, ((t195 == 0)), (by first | rfl | (simp; done) | (simp [*]; done)), H', ⟨by first | omega | exact Nat.le_refl _⟩, ⟨by exact BK191.out⟩, ⟨by repeat (first | (with_reducible first | exact HI0.out | apply IsS104.alloc | apply IsS104.drewN | apply IsS104.drew | refine IsS104.far ?_ NB0_191.out _) | exact HI0.out)⟩, ⟨by repeat (first | (with_reducible first | exact HK.out | apply KeepBut.set_ | apply keep_drewN | apply keep_drew | apply keep_alloc | refine keep_far ?_ GW191.out _) | exact HK.out)⟩, ⟨by repeat (first | (with_reducible first | exact HB.out | apply below_alloc | apply pw_below_drewN | apply below_drew1 | refine below_set ?_ (IsS104.ge HI0.out) | refine below_set ?_ GE191.out) | exact HB.out)⟩⟩
  ·rw [if_neg c8] at H
   have c8b0 : (t195 == 0) = false := beq_eq_false_iff_ne.mpr c8
   have c8b1 : (t195 != 0) = true := bne_iff_ne.mpr c8
   (first | rw [c8b0] | (simp only [i64_w, i32_w]; rw [c8b0]) | skip)
   by_cases c9 : t195 = 1
   ·rw [if_pos c9] at H
    have c9b0 : (t195 == 1) = true := beq_iff_eq.mpr c9
    have c9b1 : (t195 != 1) = false := bne_eq_false_iff_eq.mpr c9
    clear c9
    have H' := Aside0.mk H
    clear H
    go_wp2
    go_meet
    case rel => exact ⟨_, ((t195 == 1)), (by first | rfl | (simp; done) | (simp [*]; done)), H', ⟨by first | omega | exact Nat.le_refl _⟩, ⟨by exact BK191.out⟩, ⟨by repeat (first | (with_reducible first | exact HI0.out | apply IsS104.alloc | apply IsS104.drewN | apply IsS104.drew | refine IsS104.far ?_ NB0_191.out _) | exact HI0.out)⟩, ⟨by repeat (first | (with_reducible first | exact HK.out | apply KeepBut.set_ | apply keep_drewN | apply keep_drew | apply keep_alloc | refine keep_far ?_ GW191.out _) | exact HK.out)⟩, ⟨by repeat (first | (with_reducible first | exact HB.out | apply below_alloc | apply pw_below_drewN | apply below_drew1 | refine below_set ?_ (IsS104.ge HI0.out) | refine below_set ?_ GE191.out) | exact HB.out)⟩⟩
   ·rw [if_neg c9] at H
    have c9b0 : (t195 == 1) = false := beq_eq_false_iff_ne.mpr c9
    have c9b1 : (t195 != 1) = true := bne_iff_ne.mpr c9
    have H' := Aside0.mk H
    clear H
    go_wp2
    go_meet
    case rel => exact ⟨_, ((t195 == 2)), (by first | rfl | (simp; done) | (simp [*]; done)), H', ⟨by first | omega | exact Nat.le_refl _⟩, ⟨by exact BK191.out⟩, ⟨by repeat (first | (with_reducible first | exact HI0.out | apply IsS104.alloc | apply IsS104.drewN | apply IsS104.drew | refine IsS104.far ?_ NB0_191.out _) | exact HI0.out)⟩, ⟨by repeat (first | (with_reducible first | exact HK.out | apply KeepBut.set_ | apply keep_drewN | apply keep_drew | apply keep_alloc | refine keep_far ?_ GW191.out _) | exact HK.out)⟩, ⟨by repeat (first | (with_reducible first | exact HB.out | apply below_alloc | apply pw_below_drewN | apply below_drew1 | refine below_set ?_ (IsS104.ge HI0.out) | refine below_set ?_ GE191.out) | exact HB.out)⟩⟩
 case rest =>
  clear HC4
  try clear c1
  try clear p2
  try clear c5
  try clear c6
  try clear c8
  try clear c8b0
  try clear c8b1
  try clear c9
  try clear c9b0
  try clear c9b1
  obtain ⟨kq, x8_3, rfl, HA, HJ3, BK191, HI0, HK, HB⟩ := hcut
  cases kq with
  | zero => exact absurd HA.out (by simp [spec_l21Ins.j0])
  | succ kj3 =>
   have H := HA.out
   clear HA
   simp only [spec_l21Ins.j0] at H
   by_cases c10 : x8_3 = true
   ·subst c10
    rw [if_pos rfl] at H
    replace H := Option.bind_eq_some_iff.mp H
    obtain ⟨⟨t198, t199, t200⟩, A110, H⟩ := H
    replace H : ((spec_func1.f s0_0 t199 t200).bind fun bt201 => ((spec_func1.f s0_0 bt201.2.1 bt201.2.2).bind fun bt204 => (some (wrap64 (1 + t198), t192, bt201.1, bt204.1, 0, bt204.2.1, bt204.2.2)))) = some (r1, r2, r3, r4, r5, r6, r7) := H
    have A11 := Aside0.mk A110
    clear A110
    replace H := Option.bind_eq_some_iff.mp H
    obtain ⟨⟨t201, t202, t203⟩, A120, H⟩ := H
    replace H : ((spec_func1.f s0_0 t202 t203).bind fun bt204 => (some (wrap64 (1 + t198), t192, t201, bt204.1, 0, bt204.2.1, bt204.2.2))) = some (r1, r2, r3, r4, r5, r6, r7) := H
    have A12 := Aside0.mk A120
    clear A120
    replace H := Option.bind_eq_some_iff.mp H
    obtain ⟨⟨t204, t205, t206⟩, A130, H⟩ := H
    replace H : (some (wrap64 (1 + t198), t192, t201, t204, 0, t205, t206)) = some (r1, r2, r3, r4, r5, r6, r7) := H
    have A13 := Aside0.mk A130
    clear A130
    simp only [Option.some.injEq, Prod.mk.injEq] at H
    obtain ⟨rfl, rfl, rfl, rfl, rfl, rfl, rfl⟩ := H
    go_wp2_with (first | ((with_reducible refine gate_callee (f := 68) rfl ?_); refine goesL_ (some 13) rfl rfl Try.func68 (by kernel_rfl) rfl #[.pointer (some ⟨g, 0, none⟩), .int .i64 13] rfl (by (try simp only [List.map_toArray, List.map_cons, List.map_nil]); first | done | rfl) ?_; (with_reducible refine (spec_l1Next.calls g s0_0 t196 t197 13 t198 t199 t200 w0 _ ?side1 ?side2 A11.out).mono ?_); (case side1 => repeat (first | (with_reducible first | exact HI0.out | apply IsS104.alloc | apply IsS104.drewN | apply IsS104.drew | refine IsS104.far ?_ NB0_191.out _) | exact HI0.out)); (case side2 => repeat (first | (with_reducible first | exact HB.out | apply below_alloc | apply pw_below_drewN | apply below_drew1 | refine below_set ?_ (IsS104.ge HI0.out) | refine below_set ?_ GE191.out) | exact HB.out)); rintro e w14 ⟨rfl, hi, hb, hk⟩; refine ⟨_, rfl, ?_⟩; have n0_ := Aside0.mk (KeepBut.blk hk (g' := gb191) (o := .cells #[.int .i64 0, .int .i64 0, .int .i64 0, .int .i64 0, .int .i64 0] 41 (0, 0)) (by exact BK191.out) NB191_0.out (by simp)); have n1_ := Aside0.mk (KeepBut.trans (by repeat (first | (with_reducible first | exact HK.out | apply KeepBut.set_ | apply keep_drewN | apply keep_drew | apply keep_alloc | refine keep_far ?_ GW191.out _) | exact HK.out)) hk (.inl rfl)); have n2_ := Aside0.mk (hb); have n3_ := Aside0.mk (hi); clear BK191; clear HK; clear HB; clear HI0; have BK191 := n0_; have HK := n1_; have HB := n2_; have HI0 := n3_; clear n0_ n1_ n2_ n3_; (try clear hb); (try clear hb2); (try clear hk); (try clear hi)) | ((with_reducible refine gate_callee (f := 81) rfl ?_); refine goesL_ (some 17) rfl rfl Try.func81 (by kernel_rfl) rfl #[.pointer (some ⟨g, 0, none⟩)] rfl (by (try simp only [List.map_toArray, List.map_cons, List.map_nil]); first | done | rfl) ?_; (with_reducible refine (spec_func1.calls g s0_0 t199 t200 t201 t202 t203 w0 _ ?side1 ?side2 A12.out).mono ?_); (case side1 => repeat (first | (with_reducible first | exact HI0.out | apply IsS104.alloc | apply IsS104.drewN | apply IsS104.drew | refine IsS104.far ?_ NB0_191.out _) | exact HI0.out)); (case side2 => repeat (first | (with_reducible first | exact HB.out | apply below_alloc | apply pw_below_drewN | apply below_drew1 | refine below_set ?_ (IsS104.ge HI0.out) | refine below_set ?_ GE191.out) | exact HB.out)); rintro e w15 ⟨rfl, hi, hb, hk⟩; refine ⟨_, rfl, ?_⟩; have n0_ := Aside0.mk (KeepBut.blk hk (g' := gb191) (o := .cells #[.int .i64 0, .int .i64 0, .int .i64 0, .int .i64 0, .int .i64 0] 41 (0, 0)) (by exact BK191.out) NB191_0.out (by simp)); have n1_ := Aside0.mk (KeepBut.trans (by repeat (first | (with_reducible first | exact HK.out | apply KeepBut.set_ | apply keep_drewN | apply keep_drew | apply keep_alloc | refine keep_far ?_ GW191.out _) | exact HK.out)) hk (.inl rfl)); have n2_ := Aside0.mk (hb); have n3_ := Aside0.mk (hi); clear BK191; clear HK; clear HB; clear HI0; have BK191 := n0_; have HK := n1_; have HB := n2_; have HI0 := n3_; clear n0_ n1_ n2_ n3_; (try clear hb); (try clear hb2); (try clear hk); (try clear hi)) | ((with_reducible refine gate_callee (f := 81) rfl ?_); refine goesL_ (some 19) rfl rfl Try.func81 (by kernel_rfl) rfl #[.pointer (some ⟨g, 0, none⟩)] rfl (by (try simp only [List.map_toArray, List.map_cons, List.map_nil]); first | done | rfl) ?_; (with_reducible refine (spec_func1.calls g s0_0 t202 t203 t204 t205 t206 w0 _ ?side1 ?side2 A13.out).mono ?_); (case side1 => repeat (first | (with_reducible first | exact HI0.out | apply IsS104.alloc | apply IsS104.drewN | apply IsS104.drew | refine IsS104.far ?_ NB0_191.out _) | exact HI0.out)); (case side2 => repeat (first | (with_reducible first | exact HB.out | apply below_alloc | apply pw_below_drewN | apply below_drew1 | refine below_set ?_ (IsS104.ge HI0.out) | refine below_set ?_ GE191.out) | exact HB.out)); rintro e w16 ⟨rfl, hi, hb, hk⟩; refine ⟨_, rfl, ?_⟩; have n0_ := Aside0.mk (KeepBut.blk hk (g' := gb191) (o := .cells #[.int .i64 0, .int .i64 0, .int .i64 0, .int .i64 0, .int .i64 0] 41 (0, 0)) (by exact BK191.out) NB191_0.out (by simp)); have n1_ := Aside0.mk (KeepBut.trans (by repeat (first | (with_reducible first | exact HK.out | apply KeepBut.set_ | apply keep_drewN | apply keep_drew | apply keep_alloc | refine keep_far ?_ GW191.out _) | exact HK.out)) hk (.inl rfl)); have n2_ := Aside0.mk (hb); have n3_ := Aside0.mk (hi); clear BK191; clear HK; clear HB; clear HI0; have BK191 := n0_; have HK := n1_; have HB := n2_; have HI0 := n3_; clear n0_ n1_ n2_ n3_; (try clear hb); (try clear hb2); (try clear hk); (try clear hi); have hnb17 := NB191_0.out; have hnc17 := NB0_191.out; have hcz18_0 : w16.cell? ⟨gb191, 0, none⟩ = some (.int .i64 0) := (blk_cell BK191.out 0).trans rfl; have hcz18_1 : w16.cell? ⟨gb191, 1, none⟩ = some (.int .i64 0) := (blk_cell BK191.out 1).trans rfl; have hcz18_2 : w16.cell? ⟨gb191, 2, none⟩ = some (.int .i64 0) := (blk_cell BK191.out 2).trans rfl; have hcz18_3 : w16.cell? ⟨gb191, 3, none⟩ = some (.int .i64 0) := (blk_cell BK191.out 3).trans rfl; have hcz18_4 : w16.cell? ⟨gb191, 4, none⟩ = some (.int .i64 0) := (blk_cell BK191.out 4).trans rfl; have hfz18_0 := blk_frozen BK191.out 0; have hfz18_1 := blk_frozen BK191.out 1; have hfz18_2 := blk_frozen BK191.out 2; have hfz18_3 := blk_frozen BK191.out 3; have hfz18_4 := blk_frozen BK191.out 4))
    refine bodyPost_ret (results_cell_row rfl _ _ gb191 41 #[.int .i64 (wrap64 (1 + t198)), .int .i64 t192, .int .i64 t201, .int .i64 t204, .int .i64 0] (0, 0) _ rfl (by refine blk_put (cs := #[.int .i64 (wrap64 (1 + t198)), .int .i64 t192, .int .i64 t201, .int .i64 t204, .int .i64 0]) ?_ 4 _ rfl; refine blk_put (cs := #[.int .i64 (wrap64 (1 + t198)), .int .i64 t192, .int .i64 t201, .int .i64 0, .int .i64 0]) ?_ 3 _ rfl; refine blk_put (cs := #[.int .i64 (wrap64 (1 + t198)), .int .i64 t192, .int .i64 0, .int .i64 0, .int .i64 0]) ?_ 2 _ rfl; refine blk_put (cs := #[.int .i64 (wrap64 (1 + t198)), .int .i64 0, .int .i64 0, .int .i64 0, .int .i64 0]) ?_ 1 _ rfl; refine blk_put (cs := #[.int .i64 0, .int .i64 0, .int .i64 0, .int .i64 0, .int .i64 0]) ?_ 0 _ rfl; exact BK191.out) Try.underlying41 rfl (by kernel_rfl)) rfl ?_
    exact ⟨by first | rfl | (simp [*] <;> rfl), by repeat (first | (with_reducible first | exact HI0.out | apply IsS104.alloc | apply IsS104.drewN | apply IsS104.drew | refine IsS104.far ?_ NB0_191.out _) | exact HI0.out), by repeat (first | (with_reducible first | exact HB.out | apply below_alloc | apply pw_below_drewN | apply below_drew1 | refine below_set ?_ (IsS104.ge HI0.out) | refine below_set ?_ GE191.out) | exact HB.out), by repeat (first | (with_reducible first | exact HK.out | apply KeepBut.set_ | apply keep_drewN | apply keep_drew | apply keep_alloc | refine keep_far ?_ GW191.out _) | exact HK.out)⟩
   ·replace c10 := Bool.eq_false_iff.mpr c10
    subst c10
    rw [if_neg (show ¬ (false = true) by decide)] at H
    have HC19 := Aside0.mk H
    clear H
    go_upto_if 21 with (fail)
    go_cut [21] (fun v21 wc => ∃ (kq : Nat) (x21_18 : Bool), v21 = .bool x21_18 ∧ Aside0 (spec_l21Ins.j1 kq t192 t195 x21_18 s0_0 t196 t197 = some (r1, r2, r3, r4, r5, r6, r7)) ∧ Aside0 (kq ≤ kj3) ∧ Aside0 (wc.heap[gb191]? = some (.cells #[.int .i64 0, .int .i64 0, .int .i64 0, .int .i64 0, .int .i64 0] 41 (0, 0))) ∧ Aside0 (IsS104 w0 wc g s0_0 t196 t197) ∧ Aside0 (KeepBut w wc g none) ∧ Aside0 (Below w0.heap.size w0 wc))
    case first =>
     have H := HC19.out
     clear HC19
     by_cases c20 : t195 = 3
     ·rw [if_pos c20] at H
      have c20b0 : (t195 == 3) = true := beq_iff_eq.mpr c20
      have c20b1 : (t195 != 3) = false := bne_eq_false_iff_eq.mpr c20
      clear c20
      (first | rw [c20b0] | (simp only [i64_w, i32_w]; rw [c20b0]) | skip)
      have H' := Aside0.mk H
      clear H
      go_wp2
      go_meet
      case rel => exact ⟨_, ((t195 == 3)), (by first | rfl | (simp; done) | (simp [*]; done)), H', ⟨by have := HJ3.out; first | omega | exact Nat.le_refl _⟩, ⟨by exact BK191.out⟩, ⟨by repeat (first | (with_reducible first | exact HI0.out | apply IsS104.alloc | apply IsS104.drewN | apply IsS104.drew | refine IsS104.far ?_ NB0_191.out _) | exact HI0.out)⟩, ⟨by repeat (first | (with_reducible first | exact HK.out | apply KeepBut.set_ | apply keep_drewN | apply keep_drew | apply keep_alloc | refine keep_far ?_ GW191.out _) | exact HK.out)⟩, ⟨by repeat (first | (with_reducible first | exact HB.out | apply below_alloc | apply pw_below_drewN | apply below_drew1 | refine below_set ?_ (IsS104.ge HI0.out) | refine below_set ?_ GE191.out) | exact HB.out)⟩⟩
     ·rw [if_neg c20] at H
      have c20b0 : (t195 == 3) = false := beq_eq_false_iff_ne.mpr c20
      have c20b1 : (t195 != 3) = true := bne_iff_ne.mpr c20
      (first | rw [c20b0] | (simp only [i64_w, i32_w]; rw [c20b0]) | skip)
      have H' := Aside0.mk H
      clear H
      go_wp2
      go_meet
      case rel => exact ⟨_, ((t195 == 4)), (by first | rfl | (simp; done) | (simp [*]; done)), H', ⟨by have := HJ3.out; first | omega | exact Nat.le_refl _⟩, ⟨by exact BK191.out⟩, ⟨by repeat (first | (with_reducible first | exact HI0.out | apply IsS104.alloc | apply IsS104.drewN | apply IsS104.drew | refine IsS104.far ?_ NB0_191.out _) | exact HI0.out)⟩, ⟨by repeat (first | (with_reducible first | exact HK.out | apply KeepBut.set_ | apply keep_drewN | apply keep_drew | apply keep_alloc | refine keep_far ?_ GW191.out _) | exact HK.out)⟩, ⟨by repeat (first | (with_reducible first | exact HB.out | apply below_alloc | apply pw_below_drewN | apply below_drew1 | refine below_set ?_ (IsS104.ge HI0.out) | refine below_set ?_ GE191.out) | exact HB.out)⟩⟩
    case rest =>
     clear HC19
     try clear c1
     try clear c2
     try clear p2
     try clear c5
     try clear c6
     try clear p6
     try clear c8
     try clear c8b0
     try clear c8b1
     try clear c9
     try clear c9b0
     try clear c9b1
     try clear c10
     try clear c17
     try clear c20
     try clear c20b0
     try clear c20b1
     try clear hcz18_0
     try clear hcz18_1
     try clear hcz18_2
     try clear hcz18_3
     try clear hcz18_4
     try clear hfz18_0
     try clear hfz18_1
     try clear hfz18_2
     try clear hfz18_3
     try clear hfz18_4
     try clear p2
     obtain ⟨kq, x21_18, rfl, HA, HJ18, BK191, HI0, HK, HB⟩ := hcut
     cases kq with
     | zero => exact absurd HA.out (by simp [spec_l21Ins.j1])
     | succ kj18 =>
      have H := HA.out
      clear HA
      simp only [spec_l21Ins.j1] at H
      by_cases c21 : x21_18 = true
      ·subst c21
       rw [if_pos rfl] at H
       replace H := Option.bind_eq_some_iff.mp H
       obtain ⟨⟨t207, t208, t209⟩, A220, H⟩ := H
       replace H : ((spec_func1.f s0_0 t208 t209).bind fun bt210 => ((spec_l21Imm.f s0_0 bt210.2.1 bt210.2.2).bind fun bt213 => (some (wrap64 (33 + t207), t192, bt210.1, 0, bt213.1, bt213.2.1, bt213.2.2)))) = some (r1, r2, r3, r4, r5, r6, r7) := H
       have A22 := Aside0.mk A220
       clear A220
       replace H := Option.bind_eq_some_iff.mp H
       obtain ⟨⟨t210, t211, t212⟩, A230, H⟩ := H
       replace H : ((spec_l21Imm.f s0_0 t211 t212).bind fun bt213 => (some (wrap64 (33 + t207), t192, t210, 0, bt213.1, bt213.2.1, bt213.2.2))) = some (r1, r2, r3, r4, r5, r6, r7) := H
       have A23 := Aside0.mk A230
       clear A230
       replace H := Option.bind_eq_some_iff.mp H
       obtain ⟨⟨t213, t214, t215⟩, A240, H⟩ := H
       replace H : (some (wrap64 (33 + t207), t192, t210, 0, t213, t214, t215)) = some (r1, r2, r3, r4, r5, r6, r7) := H
       have A24 := Aside0.mk A240
       clear A240
       simp only [Option.some.injEq, Prod.mk.injEq] at H
       obtain ⟨rfl, rfl, rfl, rfl, rfl, rfl, rfl⟩ := H
       go_wp2_with (first | ((with_reducible refine gate_callee (f := 68) rfl ?_); refine goesL_ (some 25) rfl rfl Try.func68 (by kernel_rfl) rfl #[.pointer (some ⟨g, 0, none⟩), .int .i64 13] rfl (by (try simp only [List.map_toArray, List.map_cons, List.map_nil]); first | done | rfl) ?_; (with_reducible refine (spec_l1Next.calls g s0_0 t196 t197 13 t207 t208 t209 w0 _ ?side1 ?side2 A22.out).mono ?_); (case side1 => repeat (first | (with_reducible first | exact HI0.out | apply IsS104.alloc | apply IsS104.drewN | apply IsS104.drew | refine IsS104.far ?_ NB0_191.out _) | exact HI0.out)); (case side2 => repeat (first | (with_reducible first | exact HB.out | apply below_alloc | apply pw_below_drewN | apply below_drew1 | refine below_set ?_ (IsS104.ge HI0.out) | refine below_set ?_ GE191.out) | exact HB.out)); rintro e w25 ⟨rfl, hi, hb, hk⟩; refine ⟨_, rfl, ?_⟩; have n0_ := Aside0.mk (KeepBut.blk hk (g' := gb191) (o := .cells #[.int .i64 0, .int .i64 0, .int .i64 0, .int .i64 0, .int .i64 0] 41 (0, 0)) (by exact BK191.out) NB191_0.out (by simp)); have n1_ := Aside0.mk (KeepBut.trans (by repeat (first | (with_reducible first | exact HK.out | apply KeepBut.set_ | apply keep_drewN | apply keep_drew | apply keep_alloc | refine keep_far ?_ GW191.out _) | exact HK.out)) hk (.inl rfl)); have n2_ := Aside0.mk (hb); have n3_ := Aside0.mk (hi); clear BK191; clear HK; clear HB; clear HI0; have BK191 := n0_; have HK := n1_; have HB := n2_; have HI0 := n3_; clear n0_ n1_ n2_ n3_; (try clear hb); (try clear hb2); (try clear hk); (try clear hi)) | ((with_reducible refine gate_callee (f := 81) rfl ?_); refine goesL_ (some 29) rfl rfl Try.func81 (by kernel_rfl) rfl #[.pointer (some ⟨g, 0, none⟩)] rfl (by (try simp only [List.map_toArray, List.map_cons, List.map_nil]); first | done | rfl) ?_; (with_reducible refine (spec_func1.calls g s0_0 t208 t209 t210 t211 t212 w0 _ ?side1 ?side2 A23.out).mono ?_); (case side1 => repeat (first | (with_reducible first | exact HI0.out | apply IsS104.alloc | apply IsS104.drewN | apply IsS104.drew | refine IsS104.far ?_ NB0_191.out _) | exact HI0.out)); (case side2 => repeat (first | (with_reducible first | exact HB.out | apply below_alloc | apply pw_below_drewN | apply below_drew1 | refine below_set ?_ (IsS104.ge HI0.out) | refine below_set ?_ GE191.out) | exact HB.out)); rintro e w26 ⟨rfl, hi, hb, hk⟩; refine ⟨_, rfl, ?_⟩; have n0_ := Aside0.mk (KeepBut.blk hk (g' := gb191) (o := .cells #[.int .i64 0, .int .i64 0, .int .i64 0, .int .i64 0, .int .i64 0] 41 (0, 0)) (by exact BK191.out) NB191_0.out (by simp)); have n1_ := Aside0.mk (KeepBut.trans (by repeat (first | (with_reducible first | exact HK.out | apply KeepBut.set_ | apply keep_drewN | apply keep_drew | apply keep_alloc | refine keep_far ?_ GW191.out _) | exact HK.out)) hk (.inl rfl)); have n2_ := Aside0.mk (hb); have n3_ := Aside0.mk (hi); clear BK191; clear HK; clear HB; clear HI0; have BK191 := n0_; have HK := n1_; have HB := n2_; have HI0 := n3_; clear n0_ n1_ n2_ n3_; (try clear hb); (try clear hb2); (try clear hk); (try clear hi)) | ((with_reducible refine gate_callee (f := 82) rfl ?_); refine goesL_ (some 31) rfl rfl Try.func82 (by kernel_rfl) rfl #[.pointer (some ⟨g, 0, none⟩)] rfl (by (try simp only [List.map_toArray, List.map_cons, List.map_nil]); first | done | rfl) ?_; (with_reducible refine (spec_l21Imm.calls g s0_0 t211 t212 t213 t214 t215 w0 _ ?side1 ?side2 A24.out).mono ?_); (case side1 => repeat (first | (with_reducible first | exact HI0.out | apply IsS104.alloc | apply IsS104.drewN | apply IsS104.drew | refine IsS104.far ?_ NB0_191.out _) | exact HI0.out)); (case side2 => repeat (first | (with_reducible first | exact HB.out | apply below_alloc | apply pw_below_drewN | apply below_drew1 | refine below_set ?_ (IsS104.ge HI0.out) | refine below_set ?_ GE191.out) | exact HB.out)); rintro e w27 ⟨rfl, hi, hb, hk⟩; refine ⟨_, rfl, ?_⟩; have n0_ := Aside0.mk (KeepBut.blk hk (g' := gb191) (o := .cells #[.int .i64 0, .int .i64 0, .int .i64 0, .int .i64 0, .int .i64 0] 41 (0, 0)) (by exact BK191.out) NB191_0.out (by simp)); have n1_ := Aside0.mk (KeepBut.trans (by repeat (first | (with_reducible first | exact HK.out | apply KeepBut.set_ | apply keep_drewN | apply keep_drew | apply keep_alloc | refine keep_far ?_ GW191.out _) | exact HK.out)) hk (.inl rfl)); have n2_ := Aside0.mk (hb); have n3_ := Aside0.mk (hi); clear BK191; clear HK; clear HB; clear HI0; have BK191 := n0_; have HK := n1_; have HB := n2_; have HI0 := n3_; clear n0_ n1_ n2_ n3_; (try clear hb); (try clear hb2); (try clear hk); (try clear hi); have hnb28 := NB191_0.out; have hnc28 := NB0_191.out; have hcz29_0 : w27.cell? ⟨gb191, 0, none⟩ = some (.int .i64 0) := (blk_cell BK191.out 0).trans rfl; have hcz29_1 : w27.cell? ⟨gb191, 1, none⟩ = some (.int .i64 0) := (blk_cell BK191.out 1).trans rfl; have hcz29_2 : w27.cell? ⟨gb191, 2, none⟩ = some (.int .i64 0) := (blk_cell BK191.out 2).trans rfl; have hcz29_3 : w27.cell? ⟨gb191, 3, none⟩ = some (.int .i64 0) := (blk_cell BK191.out 3).trans rfl; have hcz29_4 : w27.cell? ⟨gb191, 4, none⟩ = some (.int .i64 0) := (blk_cell BK191.out 4).trans rfl; have hfz29_0 := blk_frozen BK191.out 0; have hfz29_1 := blk_frozen BK191.out 1; have hfz29_2 := blk_frozen BK191.out 2; have hfz29_3 := blk_frozen BK191.out 3; have hfz29_4 := blk_frozen BK191.out 4))
       refine bodyPost_ret (results_cell_row rfl _ _ gb191 41 #[.int .i64 (wrap64 (33 + t207)), .int .i64 t192, .int .i64 t210, .int .i64 0, .int .i64 t213] (0, 0) _ rfl (by refine blk_put (cs := #[.int .i64 (wrap64 (33 + t207)), .int .i64 t192, .int .i64 t210, .int .i64 0, .int .i64 0]) ?_ 4 _ rfl; refine blk_put (cs := #[.int .i64 (wrap64 (33 + t207)), .int .i64 t192, .int .i64 t210, .int .i64 0, .int .i64 0]) ?_ 3 _ rfl; refine blk_put (cs := #[.int .i64 (wrap64 (33 + t207)), .int .i64 t192, .int .i64 0, .int .i64 0, .int .i64 0]) ?_ 2 _ rfl; refine blk_put (cs := #[.int .i64 (wrap64 (33 + t207)), .int .i64 0, .int .i64 0, .int .i64 0, .int .i64 0]) ?_ 1 _ rfl; refine blk_put (cs := #[.int .i64 0, .int .i64 0, .int .i64 0, .int .i64 0, .int .i64 0]) ?_ 0 _ rfl; exact BK191.out) Try.underlying41 rfl (by kernel_rfl)) rfl ?_
       exact ⟨by first | rfl | (simp [*] <;> rfl), by repeat (first | (with_reducible first | exact HI0.out | apply IsS104.alloc | apply IsS104.drewN | apply IsS104.drew | refine IsS104.far ?_ NB0_191.out _) | exact HI0.out), by repeat (first | (with_reducible first | exact HB.out | apply below_alloc | apply pw_below_drewN | apply below_drew1 | refine below_set ?_ (IsS104.ge HI0.out) | refine below_set ?_ GE191.out) | exact HB.out), by repeat (first | (with_reducible first | exact HK.out | apply KeepBut.set_ | apply keep_drewN | apply keep_drew | apply keep_alloc | refine keep_far ?_ GW191.out _) | exact HK.out)⟩
      ·replace c21 := Bool.eq_false_iff.mpr c21
       subst c21
       rw [if_neg (show ¬ (false = true) by decide)] at H
       by_cases c30 : t195 = 5
       ·rw [if_pos c30] at H
        have c30b0 : (t195 == 5) = true := beq_iff_eq.mpr c30
        have c30b1 : (t195 != 5) = false := bne_eq_false_iff_eq.mpr c30
        clear c30
        replace H := Option.bind_eq_some_iff.mp H
        obtain ⟨⟨t216, t217, t218⟩, A310, H⟩ := H
        replace H : ((spec_func1.f s0_0 t217 t218).bind fun bt219 => ((spec_l1Next.f s0_0 bt219.2.1 bt219.2.2 10).bind fun bt222 => (some (14, t192, t216, bt219.1, wrap64 (1 + bt222.1), bt222.2.1, bt222.2.2)))) = some (r1, r2, r3, r4, r5, r6, r7) := H
        have A31 := Aside0.mk A310
        clear A310
        replace H := Option.bind_eq_some_iff.mp H
        obtain ⟨⟨t219, t220, t221⟩, A320, H⟩ := H
        replace H : ((spec_l1Next.f s0_0 t220 t221 10).bind fun bt222 => (some (14, t192, t216, t219, wrap64 (1 + bt222.1), bt222.2.1, bt222.2.2))) = some (r1, r2, r3, r4, r5, r6, r7) := H
        have A32 := Aside0.mk A320
        clear A320
        replace H := Option.bind_eq_some_iff.mp H
        obtain ⟨⟨t222, t223, t224⟩, A330, H⟩ := H
        replace H : (some (14, t192, t216, t219, wrap64 (1 + t222), t223, t224)) = some (r1, r2, r3, r4, r5, r6, r7) := H
        have A33 := Aside0.mk A330
        clear A330
        simp only [Option.some.injEq, Prod.mk.injEq] at H
        obtain ⟨rfl, rfl, rfl, rfl, rfl, rfl, rfl⟩ := H
        go_wp2_with (first | ((with_reducible refine gate_callee (f := 81) rfl ?_); refine goesL_ (some 37) rfl rfl Try.func81 (by kernel_rfl) rfl #[.pointer (some ⟨g, 0, none⟩)] rfl (by (try simp only [List.map_toArray, List.map_cons, List.map_nil]); first | done | rfl) ?_; (with_reducible refine (spec_func1.calls g s0_0 t196 t197 t216 t217 t218 w0 _ ?side1 ?side2 A31.out).mono ?_); (case side1 => repeat (first | (with_reducible first | exact HI0.out | apply IsS104.alloc | apply IsS104.drewN | apply IsS104.drew | refine IsS104.far ?_ NB0_191.out _) | exact HI0.out)); (case side2 => repeat (first | (with_reducible first | exact HB.out | apply below_alloc | apply pw_below_drewN | apply below_drew1 | refine below_set ?_ (IsS104.ge HI0.out) | refine below_set ?_ GE191.out) | exact HB.out)); rintro e w34 ⟨rfl, hi, hb, hk⟩; refine ⟨_, rfl, ?_⟩; have n0_ := Aside0.mk (KeepBut.blk hk (g' := gb191) (o := .cells #[.int .i64 0, .int .i64 0, .int .i64 0, .int .i64 0, .int .i64 0] 41 (0, 0)) (by exact BK191.out) NB191_0.out (by simp)); have n1_ := Aside0.mk (KeepBut.trans (by repeat (first | (with_reducible first | exact HK.out | apply KeepBut.set_ | apply keep_drewN | apply keep_drew | apply keep_alloc | refine keep_far ?_ GW191.out _) | exact HK.out)) hk (.inl rfl)); have n2_ := Aside0.mk (hb); have n3_ := Aside0.mk (hi); clear BK191; clear HK; clear HB; clear HI0; have BK191 := n0_; have HK := n1_; have HB := n2_; have HI0 := n3_; clear n0_ n1_ n2_ n3_; (try clear hb); (try clear hb2); (try clear hk); (try clear hi)) | ((with_reducible refine gate_callee (f := 81) rfl ?_); refine goesL_ (some 39) rfl rfl Try.func81 (by kernel_rfl) rfl #[.pointer (some ⟨g, 0, none⟩)] rfl (by (try simp only [List.map_toArray, List.map_cons, List.map_nil]); first | done | rfl) ?_; (with_reducible refine (spec_func1.calls g s0_0 t217 t218 t219 t220 t221 w0 _ ?side1 ?side2 A32.out).mono ?_); (case side1 => repeat (first | (with_reducible first | exact HI0.out | apply IsS104.alloc | apply IsS104.drewN | apply IsS104.drew | refine IsS104.far ?_ NB0_191.out _) | exact HI0.out)); (case side2 => repeat (first | (with_reducible first | exact HB.out | apply below_alloc | apply pw_below_drewN | apply below_drew1 | refine below_set ?_ (IsS104.ge HI0.out) | refine below_set ?_ GE191.out) | exact HB.out)); rintro e w35 ⟨rfl, hi, hb, hk⟩; refine ⟨_, rfl, ?_⟩; have n0_ := Aside0.mk (KeepBut.blk hk (g' := gb191) (o := .cells #[.int .i64 0, .int .i64 0, .int .i64 0, .int .i64 0, .int .i64 0] 41 (0, 0)) (by exact BK191.out) NB191_0.out (by simp)); have n1_ := Aside0.mk (KeepBut.trans (by repeat (first | (with_reducible first | exact HK.out | apply KeepBut.set_ | apply keep_drewN | apply keep_drew | apply keep_alloc | refine keep_far ?_ GW191.out _) | exact HK.out)) hk (.inl rfl)); have n2_ := Aside0.mk (hb); have n3_ := Aside0.mk (hi); clear BK191; clear HK; clear HB; clear HI0; have BK191 := n0_; have HK := n1_; have HB := n2_; have HI0 := n3_; clear n0_ n1_ n2_ n3_; (try clear hb); (try clear hb2); (try clear hk); (try clear hi)) | ((with_reducible refine gate_callee (f := 68) rfl ?_); refine goesL_ (some 41) rfl rfl Try.func68 (by kernel_rfl) rfl #[.pointer (some ⟨g, 0, none⟩), .int .i64 10] rfl (by (try simp only [List.map_toArray, List.map_cons, List.map_nil]); first | done | rfl) ?_; (with_reducible refine (spec_l1Next.calls g s0_0 t220 t221 10 t222 t223 t224 w0 _ ?side1 ?side2 A33.out).mono ?_); (case side1 => repeat (first | (with_reducible first | exact HI0.out | apply IsS104.alloc | apply IsS104.drewN | apply IsS104.drew | refine IsS104.far ?_ NB0_191.out _) | exact HI0.out)); (case side2 => repeat (first | (with_reducible first | exact HB.out | apply below_alloc | apply pw_below_drewN | apply below_drew1 | refine below_set ?_ (IsS104.ge HI0.out) | refine below_set ?_ GE191.out) | exact HB.out)); rintro e w36 ⟨rfl, hi, hb, hk⟩; refine ⟨_, rfl, ?_⟩; have n0_ := Aside0.mk (KeepBut.blk hk (g' := gb191) (o := .cells #[.int .i64 0, .int .i64 0, .int .i64 0, .int .i64 0, .int .i64 0] 41 (0, 0)) (by exact BK191.out) NB191_0.out (by simp)); have n1_ := Aside0.mk (KeepBut.trans (by repeat (first | (with_reducible first | exact HK.out | apply KeepBut.set_ | apply keep_drewN | apply keep_drew | apply keep_alloc | refine keep_far ?_ GW191.out _) | exact HK.out)) hk (.inl rfl)); have n2_ := Aside0.mk (hb); have n3_ := Aside0.mk (hi); clear BK191; clear HK; clear HB; clear HI0; have BK191 := n0_; have HK := n1_; have HB := n2_; have HI0 := n3_; clear n0_ n1_ n2_ n3_; (try clear hb); (try clear hb2); (try clear hk); (try clear hi); have hnb37 := NB191_0.out; have hnc37 := NB0_191.out; have hcz38_0 : w36.cell? ⟨gb191, 0, none⟩ = some (.int .i64 0) := (blk_cell BK191.out 0).trans rfl; have hcz38_1 : w36.cell? ⟨gb191, 1, none⟩ = some (.int .i64 0) := (blk_cell BK191.out 1).trans rfl; have hcz38_2 : w36.cell? ⟨gb191, 2, none⟩ = some (.int .i64 0) := (blk_cell BK191.out 2).trans rfl; have hcz38_3 : w36.cell? ⟨gb191, 3, none⟩ = some (.int .i64 0) := (blk_cell BK191.out 3).trans rfl; have hcz38_4 : w36.cell? ⟨gb191, 4, none⟩ = some (.int .i64 0) := (blk_cell BK191.out 4).trans rfl; have hfz38_0 := blk_frozen BK191.out 0; have hfz38_1 := blk_frozen BK191.out 1; have hfz38_2 := blk_frozen BK191.out 2; have hfz38_3 := blk_frozen BK191.out 3; have hfz38_4 := blk_frozen BK191.out 4))
        refine bodyPost_ret (results_cell_row rfl _ _ gb191 41 #[.int .i64 14, .int .i64 t192, .int .i64 t216, .int .i64 t219, .int .i64 (wrap64 (1 + t222))] (0, 0) _ rfl (by refine blk_put (cs := #[.int .i64 14, .int .i64 t192, .int .i64 t216, .int .i64 t219, .int .i64 0]) ?_ 4 _ rfl; refine blk_put (cs := #[.int .i64 14, .int .i64 t192, .int .i64 t216, .int .i64 0, .int .i64 0]) ?_ 3 _ rfl; refine blk_put (cs := #[.int .i64 14, .int .i64 t192, .int .i64 0, .int .i64 0, .int .i64 0]) ?_ 2 _ rfl; refine blk_put (cs := #[.int .i64 14, .int .i64 0, .int .i64 0, .int .i64 0, .int .i64 0]) ?_ 1 _ rfl; refine blk_put (cs := #[.int .i64 0, .int .i64 0, .int .i64 0, .int .i64 0, .int .i64 0]) ?_ 0 _ rfl; exact BK191.out) Try.underlying41 rfl (by kernel_rfl)) rfl ?_
        exact ⟨by first | rfl | (simp [*] <;> rfl), by repeat (first | (with_reducible first | exact HI0.out | apply IsS104.alloc | apply IsS104.drewN | apply IsS104.drew | refine IsS104.far ?_ NB0_191.out _) | exact HI0.out), by repeat (first | (with_reducible first | exact HB.out | apply below_alloc | apply pw_below_drewN | apply below_drew1 | refine below_set ?_ (IsS104.ge HI0.out) | refine below_set ?_ GE191.out) | exact HB.out), by repeat (first | (with_reducible first | exact HK.out | apply KeepBut.set_ | apply keep_drewN | apply keep_drew | apply keep_alloc | refine keep_far ?_ GW191.out _) | exact HK.out)⟩
       ·rw [if_neg c30] at H
        have c30b0 : (t195 == 5) = false := beq_eq_false_iff_ne.mpr c30
        have c30b1 : (t195 != 5) = true := bne_iff_ne.mpr c30
        by_cases c39 : t195 = 6
        ·rw [if_pos c39] at H
         have c39b0 : (t195 == 6) = true := beq_iff_eq.mpr c39
         have c39b1 : (t195 != 6) = false := bne_eq_false_iff_eq.mpr c39
         clear c39
         replace H := Option.bind_eq_some_iff.mp H
         obtain ⟨⟨t225, t226, t227⟩, A400, H⟩ := H
         replace H : ((spec_l1Next.f s0_0 t226 t227 10).bind fun bt228 => ((spec_l21Imm.f s0_0 bt228.2.1 bt228.2.2).bind fun bt231 => (some (46, t192, t225, wrap64 (1 + bt228.1), bt231.1, bt231.2.1, bt231.2.2)))) = some (r1, r2, r3, r4, r5, r6, r7) := H
         have A40 := Aside0.mk A400
         clear A400
         replace H := Option.bind_eq_some_iff.mp H
         obtain ⟨⟨t228, t229, t230⟩, A410, H⟩ := H
         replace H : ((spec_l21Imm.f s0_0 t229 t230).bind fun bt231 => (some (46, t192, t225, wrap64 (1 + t228), bt231.1, bt231.2.1, bt231.2.2))) = some (r1, r2, r3, r4, r5, r6, r7) := H
         have A41 := Aside0.mk A410
         clear A410
         replace H := Option.bind_eq_some_iff.mp H
         obtain ⟨⟨t231, t232, t233⟩, A420, H⟩ := H
         replace H : (some (46, t192, t225, wrap64 (1 + t228), t231, t232, t233)) = some (r1, r2, r3, r4, r5, r6, r7) := H
         have A42 := Aside0.mk A420
         clear A420
         simp only [Option.some.injEq, Prod.mk.injEq] at H
         obtain ⟨rfl, rfl, rfl, rfl, rfl, rfl, rfl⟩ := H
         go_wp2_with (first | ((with_reducible refine gate_callee (f := 81) rfl ?_); refine goesL_ (some 48) rfl rfl Try.func81 (by kernel_rfl) rfl #[.pointer (some ⟨g, 0, none⟩)] rfl (by (try simp only [List.map_toArray, List.map_cons, List.map_nil]); first | done | rfl) ?_; (with_reducible refine (spec_func1.calls g s0_0 t196 t197 t225 t226 t227 w0 _ ?side1 ?side2 A40.out).mono ?_); (case side1 => repeat (first | (with_reducible first | exact HI0.out | apply IsS104.alloc | apply IsS104.drewN | apply IsS104.drew | refine IsS104.far ?_ NB0_191.out _) | exact HI0.out)); (case side2 => repeat (first | (with_reducible first | exact HB.out | apply below_alloc | apply pw_below_drewN | apply below_drew1 | refine below_set ?_ (IsS104.ge HI0.out) | refine below_set ?_ GE191.out) | exact HB.out)); rintro e w43 ⟨rfl, hi, hb, hk⟩; refine ⟨_, rfl, ?_⟩; have n0_ := Aside0.mk (KeepBut.blk hk (g' := gb191) (o := .cells #[.int .i64 0, .int .i64 0, .int .i64 0, .int .i64 0, .int .i64 0] 41 (0, 0)) (by exact BK191.out) NB191_0.out (by simp)); have n1_ := Aside0.mk (KeepBut.trans (by repeat (first | (with_reducible first | exact HK.out | apply KeepBut.set_ | apply keep_drewN | apply keep_drew | apply keep_alloc | refine keep_far ?_ GW191.out _) | exact HK.out)) hk (.inl rfl)); have n2_ := Aside0.mk (hb); have n3_ := Aside0.mk (hi); clear BK191; clear HK; clear HB; clear HI0; have BK191 := n0_; have HK := n1_; have HB := n2_; have HI0 := n3_; clear n0_ n1_ n2_ n3_; (try clear hb); (try clear hb2); (try clear hk); (try clear hi)) | ((with_reducible refine gate_callee (f := 68) rfl ?_); refine goesL_ (some 50) rfl rfl Try.func68 (by kernel_rfl) rfl #[.pointer (some ⟨g, 0, none⟩), .int .i64 10] rfl (by (try simp only [List.map_toArray, List.map_cons, List.map_nil]); first | done | rfl) ?_; (with_reducible refine (spec_l1Next.calls g s0_0 t226 t227 10 t228 t229 t230 w0 _ ?side1 ?side2 A41.out).mono ?_); (case side1 => repeat (first | (with_reducible first | exact HI0.out | apply IsS104.alloc | apply IsS104.drewN | apply IsS104.drew | refine IsS104.far ?_ NB0_191.out _) | exact HI0.out)); (case side2 => repeat (first | (with_reducible first | exact HB.out | apply below_alloc | apply pw_below_drewN | apply below_drew1 | refine below_set ?_ (IsS104.ge HI0.out) | refine below_set ?_ GE191.out) | exact HB.out)); rintro e w44 ⟨rfl, hi, hb, hk⟩; refine ⟨_, rfl, ?_⟩; have n0_ := Aside0.mk (KeepBut.blk hk (g' := gb191) (o := .cells #[.int .i64 0, .int .i64 0, .int .i64 0, .int .i64 0, .int .i64 0] 41 (0, 0)) (by exact BK191.out) NB191_0.out (by simp)); have n1_ := Aside0.mk (KeepBut.trans (by repeat (first | (with_reducible first | exact HK.out | apply KeepBut.set_ | apply keep_drewN | apply keep_drew | apply keep_alloc | refine keep_far ?_ GW191.out _) | exact HK.out)) hk (.inl rfl)); have n2_ := Aside0.mk (hb); have n3_ := Aside0.mk (hi); clear BK191; clear HK; clear HB; clear HI0; have BK191 := n0_; have HK := n1_; have HB := n2_; have HI0 := n3_; clear n0_ n1_ n2_ n3_; (try clear hb); (try clear hb2); (try clear hk); (try clear hi)) | ((with_reducible refine gate_callee (f := 82) rfl ?_); refine goesL_ (some 53) rfl rfl Try.func82 (by kernel_rfl) rfl #[.pointer (some ⟨g, 0, none⟩)] rfl (by (try simp only [List.map_toArray, List.map_cons, List.map_nil]); first | done | rfl) ?_; (with_reducible refine (spec_l21Imm.calls g s0_0 t229 t230 t231 t232 t233 w0 _ ?side1 ?side2 A42.out).mono ?_); (case side1 => repeat (first | (with_reducible first | exact HI0.out | apply IsS104.alloc | apply IsS104.drewN | apply IsS104.drew | refine IsS104.far ?_ NB0_191.out _) | exact HI0.out)); (case side2 => repeat (first | (with_reducible first | exact HB.out | apply below_alloc | apply pw_below_drewN | apply below_drew1 | refine below_set ?_ (IsS104.ge HI0.out) | refine below_set ?_ GE191.out) | exact HB.out)); rintro e w45 ⟨rfl, hi, hb, hk⟩; refine ⟨_, rfl, ?_⟩; have n0_ := Aside0.mk (KeepBut.blk hk (g' := gb191) (o := .cells #[.int .i64 0, .int .i64 0, .int .i64 0, .int .i64 0, .int .i64 0] 41 (0, 0)) (by exact BK191.out) NB191_0.out (by simp)); have n1_ := Aside0.mk (KeepBut.trans (by repeat (first | (with_reducible first | exact HK.out | apply KeepBut.set_ | apply keep_drewN | apply keep_drew | apply keep_alloc | refine keep_far ?_ GW191.out _) | exact HK.out)) hk (.inl rfl)); have n2_ := Aside0.mk (hb); have n3_ := Aside0.mk (hi); clear BK191; clear HK; clear HB; clear HI0; have BK191 := n0_; have HK := n1_; have HB := n2_; have HI0 := n3_; clear n0_ n1_ n2_ n3_; (try clear hb); (try clear hb2); (try clear hk); (try clear hi); have hnb46 := NB191_0.out; have hnc46 := NB0_191.out; have hcz47_0 : w45.cell? ⟨gb191, 0, none⟩ = some (.int .i64 0) := (blk_cell BK191.out 0).trans rfl; have hcz47_1 : w45.cell? ⟨gb191, 1, none⟩ = some (.int .i64 0) := (blk_cell BK191.out 1).trans rfl; have hcz47_2 : w45.cell? ⟨gb191, 2, none⟩ = some (.int .i64 0) := (blk_cell BK191.out 2).trans rfl; have hcz47_3 : w45.cell? ⟨gb191, 3, none⟩ = some (.int .i64 0) := (blk_cell BK191.out 3).trans rfl; have hcz47_4 : w45.cell? ⟨gb191, 4, none⟩ = some (.int .i64 0) := (blk_cell BK191.out 4).trans rfl; have hfz47_0 := blk_frozen BK191.out 0; have hfz47_1 := blk_frozen BK191.out 1; have hfz47_2 := blk_frozen BK191.out 2; have hfz47_3 := blk_frozen BK191.out 3; have hfz47_4 := blk_frozen BK191.out 4))
         refine bodyPost_ret (results_cell_row rfl _ _ gb191 41 #[.int .i64 46, .int .i64 t192, .int .i64 t225, .int .i64 (wrap64 (1 + t228)), .int .i64 t231] (0, 0) _ rfl (by refine blk_put (cs := #[.int .i64 46, .int .i64 t192, .int .i64 t225, .int .i64 (wrap64 (1 + t228)), .int .i64 0]) ?_ 4 _ rfl; refine blk_put (cs := #[.int .i64 46, .int .i64 t192, .int .i64 t225, .int .i64 0, .int .i64 0]) ?_ 3 _ rfl; refine blk_put (cs := #[.int .i64 46, .int .i64 t192, .int .i64 0, .int .i64 0, .int .i64 0]) ?_ 2 _ rfl; refine blk_put (cs := #[.int .i64 46, .int .i64 0, .int .i64 0, .int .i64 0, .int .i64 0]) ?_ 1 _ rfl; refine blk_put (cs := #[.int .i64 0, .int .i64 0, .int .i64 0, .int .i64 0, .int .i64 0]) ?_ 0 _ rfl; exact BK191.out) Try.underlying41 rfl (by kernel_rfl)) rfl ?_
         exact ⟨by first | rfl | (simp [*] <;> rfl), by repeat (first | (with_reducible first | exact HI0.out | apply IsS104.alloc | apply IsS104.drewN | apply IsS104.drew | refine IsS104.far ?_ NB0_191.out _) | exact HI0.out), by repeat (first | (with_reducible first | exact HB.out | apply below_alloc | apply pw_below_drewN | apply below_drew1 | refine below_set ?_ (IsS104.ge HI0.out) | refine below_set ?_ GE191.out) | exact HB.out), by repeat (first | (with_reducible first | exact HK.out | apply KeepBut.set_ | apply keep_drewN | apply keep_drew | apply keep_alloc | refine keep_far ?_ GW191.out _) | exact HK.out)⟩
        ·rw [if_neg c39] at H
         have c39b0 : (t195 == 6) = false := beq_eq_false_iff_ne.mpr c39
         have c39b1 : (t195 != 6) = true := bne_iff_ne.mpr c39
         by_cases c48 : t195 = 7
         ·rw [if_pos c48] at H
          have c48b0 : (t195 == 7) = true := beq_iff_eq.mpr c48
          have c48b1 : (t195 != 7) = false := bne_eq_false_iff_eq.mpr c48
          clear c48
          replace H := Option.bind_eq_some_iff.mp H
          obtain ⟨⟨t234, t235, t236⟩, A490, H⟩ := H
          replace H : ((spec_func1.f s0_0 t235 t236).bind fun bt237 => ((spec_func1.f s0_0 bt237.2.1 bt237.2.2).bind fun bt240 => (some (15, t192, t234, bt237.1, bt240.1, bt240.2.1, bt240.2.2)))) = some (r1, r2, r3, r4, r5, r6, r7) := H
          have A49 := Aside0.mk A490
          clear A490
          replace H := Option.bind_eq_some_iff.mp H
          obtain ⟨⟨t237, t238, t239⟩, A500, H⟩ := H
          replace H : ((spec_func1.f s0_0 t238 t239).bind fun bt240 => (some (15, t192, t234, t237, bt240.1, bt240.2.1, bt240.2.2))) = some (r1, r2, r3, r4, r5, r6, r7) := H
          have A50 := Aside0.mk A500
          clear A500
          replace H := Option.bind_eq_some_iff.mp H
          obtain ⟨⟨t240, t241, t242⟩, A510, H⟩ := H
          replace H : (some (15, t192, t234, t237, t240, t241, t242)) = some (r1, r2, r3, r4, r5, r6, r7) := H
          have A51 := Aside0.mk A510
          clear A510
          simp only [Option.some.injEq, Prod.mk.injEq] at H
          obtain ⟨rfl, rfl, rfl, rfl, rfl, rfl, rfl⟩ := H
          go_wp2_with (first | ((with_reducible refine gate_callee (f := 81) rfl ?_); refine goesL_ (some 59) rfl rfl Try.func81 (by kernel_rfl) rfl #[.pointer (some ⟨g, 0, none⟩)] rfl (by (try simp only [List.map_toArray, List.map_cons, List.map_nil]); first | done | rfl) ?_; (with_reducible refine (spec_func1.calls g s0_0 t196 t197 t234 t235 t236 w0 _ ?side1 ?side2 A49.out).mono ?_); (case side1 => repeat (first | (with_reducible first | exact HI0.out | apply IsS104.alloc | apply IsS104.drewN | apply IsS104.drew | refine IsS104.far ?_ NB0_191.out _) | exact HI0.out)); (case side2 => repeat (first | (with_reducible first | exact HB.out | apply below_alloc | apply pw_below_drewN | apply below_drew1 | refine below_set ?_ (IsS104.ge HI0.out) | refine below_set ?_ GE191.out) | exact HB.out)); rintro e w52 ⟨rfl, hi, hb, hk⟩; refine ⟨_, rfl, ?_⟩; have n0_ := Aside0.mk (KeepBut.blk hk (g' := gb191) (o := .cells #[.int .i64 0, .int .i64 0, .int .i64 0, .int .i64 0, .int .i64 0] 41 (0, 0)) (by exact BK191.out) NB191_0.out (by simp)); have n1_ := Aside0.mk (KeepBut.trans (by repeat (first | (with_reducible first | exact HK.out | apply KeepBut.set_ | apply keep_drewN | apply keep_drew | apply keep_alloc | refine keep_far ?_ GW191.out _) | exact HK.out)) hk (.inl rfl)); have n2_ := Aside0.mk (hb); have n3_ := Aside0.mk (hi); clear BK191; clear HK; clear HB; clear HI0; have BK191 := n0_; have HK := n1_; have HB := n2_; have HI0 := n3_; clear n0_ n1_ n2_ n3_; (try clear hb); (try clear hb2); (try clear hk); (try clear hi)) | ((with_reducible refine gate_callee (f := 81) rfl ?_); refine goesL_ (some 61) rfl rfl Try.func81 (by kernel_rfl) rfl #[.pointer (some ⟨g, 0, none⟩)] rfl (by (try simp only [List.map_toArray, List.map_cons, List.map_nil]); first | done | rfl) ?_; (with_reducible refine (spec_func1.calls g s0_0 t235 t236 t237 t238 t239 w0 _ ?side1 ?side2 A50.out).mono ?_); (case side1 => repeat (first | (with_reducible first | exact HI0.out | apply IsS104.alloc | apply IsS104.drewN | apply IsS104.drew | refine IsS104.far ?_ NB0_191.out _) | exact HI0.out)); (case side2 => repeat (first | (with_reducible first | exact HB.out | apply below_alloc | apply pw_below_drewN | apply below_drew1 | refine below_set ?_ (IsS104.ge HI0.out) | refine below_set ?_ GE191.out) | exact HB.out)); rintro e w53 ⟨rfl, hi, hb, hk⟩; refine ⟨_, rfl, ?_⟩; have n0_ := Aside0.mk (KeepBut.blk hk (g' := gb191) (o := .cells #[.int .i64 0, .int .i64 0, .int .i64 0, .int .i64 0, .int .i64 0] 41 (0, 0)) (by exact BK191.out) NB191_0.out (by simp)); have n1_ := Aside0.mk (KeepBut.trans (by repeat (first | (with_reducible first | exact HK.out | apply KeepBut.set_ | apply keep_drewN | apply keep_drew | apply keep_alloc | refine keep_far ?_ GW191.out _) | exact HK.out)) hk (.inl rfl)); have n2_ := Aside0.mk (hb); have n3_ := Aside0.mk (hi); clear BK191; clear HK; clear HB; clear HI0; have BK191 := n0_; have HK := n1_; have HB := n2_; have HI0 := n3_; clear n0_ n1_ n2_ n3_; (try clear hb); (try clear hb2); (try clear hk); (try clear hi)) | ((with_reducible refine gate_callee (f := 81) rfl ?_); refine goesL_ (some 63) rfl rfl Try.func81 (by kernel_rfl) rfl #[.pointer (some ⟨g, 0, none⟩)] rfl (by (try simp only [List.map_toArray, List.map_cons, List.map_nil]); first | done | rfl) ?_; (with_reducible refine (spec_func1.calls g s0_0 t238 t239 t240 t241 t242 w0 _ ?side1 ?side2 A51.out).mono ?_); (case side1 => repeat (first | (with_reducible first | exact HI0.out | apply IsS104.alloc | apply IsS104.drewN | apply IsS104.drew | refine IsS104.far ?_ NB0_191.out _) | exact HI0.out)); (case side2 => repeat (first | (with_reducible first | exact HB.out | apply below_alloc | apply pw_below_drewN | apply below_drew1 | refine below_set ?_ (IsS104.ge HI0.out) | refine below_set ?_ GE191.out) | exact HB.out)); rintro e w54 ⟨rfl, hi, hb, hk⟩; refine ⟨_, rfl, ?_⟩; have n0_ := Aside0.mk (KeepBut.blk hk (g' := gb191) (o := .cells #[.int .i64 0, .int .i64 0, .int .i64 0, .int .i64 0, .int .i64 0] 41 (0, 0)) (by exact BK191.out) NB191_0.out (by simp)); have n1_ := Aside0.mk (KeepBut.trans (by repeat (first | (with_reducible first | exact HK.out | apply KeepBut.set_ | apply keep_drewN | apply keep_drew | apply keep_alloc | refine keep_far ?_ GW191.out _) | exact HK.out)) hk (.inl rfl)); have n2_ := Aside0.mk (hb); have n3_ := Aside0.mk (hi); clear BK191; clear HK; clear HB; clear HI0; have BK191 := n0_; have HK := n1_; have HB := n2_; have HI0 := n3_; clear n0_ n1_ n2_ n3_; (try clear hb); (try clear hb2); (try clear hk); (try clear hi); have hnb55 := NB191_0.out; have hnc55 := NB0_191.out; have hcz56_0 : w54.cell? ⟨gb191, 0, none⟩ = some (.int .i64 0) := (blk_cell BK191.out 0).trans rfl; have hcz56_1 : w54.cell? ⟨gb191, 1, none⟩ = some (.int .i64 0) := (blk_cell BK191.out 1).trans rfl; have hcz56_2 : w54.cell? ⟨gb191, 2, none⟩ = some (.int .i64 0) := (blk_cell BK191.out 2).trans rfl; have hcz56_3 : w54.cell? ⟨gb191, 3, none⟩ = some (.int .i64 0) := (blk_cell BK191.out 3).trans rfl; have hcz56_4 : w54.cell? ⟨gb191, 4, none⟩ = some (.int .i64 0) := (blk_cell BK191.out 4).trans rfl; have hfz56_0 := blk_frozen BK191.out 0; have hfz56_1 := blk_frozen BK191.out 1; have hfz56_2 := blk_frozen BK191.out 2; have hfz56_3 := blk_frozen BK191.out 3; have hfz56_4 := blk_frozen BK191.out 4))
          refine bodyPost_ret (results_cell_row rfl _ _ gb191 41 #[.int .i64 15, .int .i64 t192, .int .i64 t234, .int .i64 t237, .int .i64 t240] (0, 0) _ rfl (by refine blk_put (cs := #[.int .i64 15, .int .i64 t192, .int .i64 t234, .int .i64 t237, .int .i64 0]) ?_ 4 _ rfl; refine blk_put (cs := #[.int .i64 15, .int .i64 t192, .int .i64 t234, .int .i64 0, .int .i64 0]) ?_ 3 _ rfl; refine blk_put (cs := #[.int .i64 15, .int .i64 t192, .int .i64 0, .int .i64 0, .int .i64 0]) ?_ 2 _ rfl; refine blk_put (cs := #[.int .i64 15, .int .i64 0, .int .i64 0, .int .i64 0, .int .i64 0]) ?_ 1 _ rfl; refine blk_put (cs := #[.int .i64 0, .int .i64 0, .int .i64 0, .int .i64 0, .int .i64 0]) ?_ 0 _ rfl; exact BK191.out) Try.underlying41 rfl (by kernel_rfl)) rfl ?_
          exact ⟨by first | rfl | (simp [*] <;> rfl), by repeat (first | (with_reducible first | exact HI0.out | apply IsS104.alloc | apply IsS104.drewN | apply IsS104.drew | refine IsS104.far ?_ NB0_191.out _) | exact HI0.out), by repeat (first | (with_reducible first | exact HB.out | apply below_alloc | apply pw_below_drewN | apply below_drew1 | refine below_set ?_ (IsS104.ge HI0.out) | refine below_set ?_ GE191.out) | exact HB.out), by repeat (first | (with_reducible first | exact HK.out | apply KeepBut.set_ | apply keep_drewN | apply keep_drew | apply keep_alloc | refine keep_far ?_ GW191.out _) | exact HK.out)⟩
         ·rw [if_neg c48] at H
          have c48b0 : (t195 == 7) = false := beq_eq_false_iff_ne.mpr c48
          have c48b1 : (t195 != 7) = true := bne_iff_ne.mpr c48
          by_cases c57 : t195 = 8
          ·rw [if_pos c57] at H
           have c57b0 : (t195 == 8) = true := beq_iff_eq.mpr c57
           have c57b1 : (t195 != 8) = false := bne_eq_false_iff_eq.mpr c57
           clear c57
           replace H := Option.bind_eq_some_iff.mp H
           obtain ⟨⟨t243, t244, t245⟩, A580, H⟩ := H
           replace H : ((spec_func1.f s0_0 t244 t245).bind fun bt246 => ((some (([1, 8, 16, 32] : List Int) : List Int)).bind fun y249 => ((spec_l1Next.f s0_0 bt246.2.1 bt246.2.2 4).bind fun bt252 => (if 0 ≤ bt252.1 then (if bt252.1 < (y249.length : Int) then (some (wrap64 (16 + t243), t192, bt246.1, 0, rd y249 bt252.1, bt252.2.1, bt252.2.2)) else (none)) else (none))))) = some (r1, r2, r3, r4, r5, r6, r7) := H
           have A58 := Aside0.mk A580
           clear A580
           replace H := Option.bind_eq_some_iff.mp H
           obtain ⟨⟨t246, t247, t248⟩, A590, H⟩ := H
           replace H : ((some (([1, 8, 16, 32] : List Int) : List Int)).bind fun y249 => ((spec_l1Next.f s0_0 t247 t248 4).bind fun bt252 => (if 0 ≤ bt252.1 then (if bt252.1 < (y249.length : Int) then (some (wrap64 (16 + t243), t192, t246, 0, rd y249 bt252.1, bt252.2.1, bt252.2.2)) else (none)) else (none)))) = some (r1, r2, r3, r4, r5, r6, r7) := H
           have A59 := Aside0.mk A590
           clear A590
           obtain ⟨y249, hy249⟩ : ∃ y_ : List Int, y_ = (([1, 8, 16, 32] : List Int)) := ⟨_, rfl⟩
           replace H : ((spec_l1Next.f s0_0 t247 t248 4).bind fun bt252 => (if 0 ≤ bt252.1 then (if bt252.1 < (y249.length : Int) then (some (wrap64 (16 + t243), t192, t246, 0, rd y249 bt252.1, bt252.2.1, bt252.2.2)) else (none)) else (none))) = some (r1, r2, r3, r4, r5, r6, r7) := by first | (rw [hy249]; with_reducible exact H) | (have H2_ := (Option.bind_some _ _).symm.trans H; rw [hy249]; with_reducible exact H2_) | (have H2_ := (Option.bind_some _ _).symm.trans H; with_reducible exact H2_) | with_reducible exact H | (rw [hy249]; exact H) | exact H
           have Ny249 := Aside0.mk hy249
           clear hy249
           replace H := Option.bind_eq_some_iff.mp H
           obtain ⟨⟨t252, t253, t254⟩, A600, H⟩ := H
           replace H : (if 0 ≤ t252 then (if t252 < (y249.length : Int) then (some (wrap64 (16 + t243), t192, t246, 0, rd y249 t252, t253, t254)) else (none)) else (none)) = some (r1, r2, r3, r4, r5, r6, r7) := H
           have A60 := Aside0.mk A600
           clear A600
           by_cases c61 : 0 ≤ t252
           ·rw [if_pos c61] at H
            have c61b0 : decide (0 ≤ t252) = true := decide_eq_true c61
            clear c61
            by_cases c62 : t252 < (y249.length : Int)
            ·rw [if_pos c62] at H
             have c62b0 : decide (t252 < (y249.length : Int)) = true := decide_eq_true c62
             clear c62
             simp only [Option.some.injEq, Prod.mk.injEq] at H
             obtain ⟨rfl, rfl, rfl, rfl, rfl, rfl, rfl⟩ := H
             go_wp2_with (first | ((with_reducible refine gate_callee (f := 68) rfl ?_); refine goesL_ (some 68) rfl rfl Try.func68 (by kernel_rfl) rfl #[.pointer (some ⟨g, 0, none⟩), .int .i64 2] rfl (by (try simp only [List.map_toArray, List.map_cons, List.map_nil]); first | done | rfl) ?_; (with_reducible refine (spec_l1Next.calls g s0_0 t196 t197 2 t243 t244 t245 w0 _ ?side1 ?side2 A58.out).mono ?_); (case side1 => repeat (first | (with_reducible first | exact HI0.out | apply IsS104.alloc | apply IsS104.drewN | apply IsS104.drew | refine IsS104.far ?_ NB0_191.out _) | exact HI0.out)); (case side2 => repeat (first | (with_reducible first | exact HB.out | apply below_alloc | apply pw_below_drewN | apply below_drew1 | refine below_set ?_ (IsS104.ge HI0.out) | refine below_set ?_ GE191.out) | exact HB.out)); rintro e w63 ⟨rfl, hi, hb, hk⟩; refine ⟨_, rfl, ?_⟩; have n0_ := Aside0.mk (KeepBut.blk hk (g' := gb191) (o := .cells #[.int .i64 0, .int .i64 0, .int .i64 0, .int .i64 0, .int .i64 0] 41 (0, 0)) (by exact BK191.out) NB191_0.out (by simp)); have n1_ := Aside0.mk (KeepBut.trans (by repeat (first | (with_reducible first | exact HK.out | apply KeepBut.set_ | apply keep_drewN | apply keep_drew | apply keep_alloc | refine keep_far ?_ GW191.out _) | exact HK.out)) hk (.inl rfl)); have n2_ := Aside0.mk (hb); have n3_ := Aside0.mk (hi); clear BK191; clear HK; clear HB; clear HI0; have BK191 := n0_; have HK := n1_; have HB := n2_; have HI0 := n3_; clear n0_ n1_ n2_ n3_; (try clear hb); (try clear hb2); (try clear hk); (try clear hi)) | ((with_reducible refine gate_callee (f := 81) rfl ?_); refine goesL_ (some 72) rfl rfl Try.func81 (by kernel_rfl) rfl #[.pointer (some ⟨g, 0, none⟩)] rfl (by (try simp only [List.map_toArray, List.map_cons, List.map_nil]); first | done | rfl) ?_; (with_reducible refine (spec_func1.calls g s0_0 t244 t245 t246 t247 t248 w0 _ ?side1 ?side2 A59.out).mono ?_); (case side1 => repeat (first | (with_reducible first | exact HI0.out | apply IsS104.alloc | apply IsS104.drewN | apply IsS104.drew | refine IsS104.far ?_ NB0_191.out _) | exact HI0.out)); (case side2 => repeat (first | (with_reducible first | exact HB.out | apply below_alloc | apply pw_below_drewN | apply below_drew1 | refine below_set ?_ (IsS104.ge HI0.out) | refine below_set ?_ GE191.out) | exact HB.out)); rintro e w64 ⟨rfl, hi, hb, hk⟩; refine ⟨_, rfl, ?_⟩; have n0_ := Aside0.mk (KeepBut.blk hk (g' := gb191) (o := .cells #[.int .i64 0, .int .i64 0, .int .i64 0, .int .i64 0, .int .i64 0] 41 (0, 0)) (by exact BK191.out) NB191_0.out (by simp)); have n1_ := Aside0.mk (KeepBut.trans (by repeat (first | (with_reducible first | exact HK.out | apply KeepBut.set_ | apply keep_drewN | apply keep_drew | apply keep_alloc | refine keep_far ?_ GW191.out _) | exact HK.out)) hk (.inl rfl)); have n2_ := Aside0.mk (hb); have n3_ := Aside0.mk (hi); clear BK191; clear HK; clear HB; clear HI0; have BK191 := n0_; have HK := n1_; have HB := n2_; have HI0 := n3_; clear n0_ n1_ n2_ n3_; (try clear hb); (try clear hb2); (try clear hk); (try clear hi)) | ((with_reducible refine gate_dst (N := 73) rfl ?_); refine Kd.R_lit (Kd.int .i64) _ 2 ?hg (N := 73) ?hd (xs := ([1, 8, 16, 32] : List Int)) (inner := [.int .i64 1, .int .i64 8, .int .i64 16, .int .i64 32]) (ok := fun _ => True) (okp := fun _ => True) ?hr ?hp (fun _ hk => hk) trivial (Below.refl _ _) (Nat.le_refl _) (by simp) ?_; (case hd => rfl); (case hg => rfl); (case hr => first | (go_simp; done) | (go_simp; rfl)); (case hp => exact (Reps.one (show Kd.M (Kd.int .i64) _ _ _ 1 [.int .i64 1] from rfl) (Reps.one (show Kd.M (Kd.int .i64) _ _ _ 8 [.int .i64 8] from rfl) (Reps.one (show Kd.M (Kd.int .i64) _ _ _ 16 [.int .i64 16] from rfl) (Reps.one (show Kd.M (Kd.int .i64) _ _ _ 32 [.int .i64 32] from rfl) (Reps.none _ _)))))); intro v250 w65 ho66 hb hg_ hnew_; clear hg_ hnew_; (first | rw [← Ny249.out] at ho66 | (simp only [Int.reduceToNat] at ho66; rw [← Ny249.out] at ho66)); have n0_ := Aside0.mk (Kd.R_lower ho66 (keep_size (w := w) (g := g) (row := none) (by repeat (first | (with_reducible first | exact HK.out | apply KeepBut.set_ | apply keep_drewN | apply keep_drew | apply keep_alloc | refine keep_far ?_ GW191.out _) | exact HK.out)))); have n1_ := Aside0.mk (blk_below (g := gb191) (o := .cells #[.int .i64 0, .int .i64 0, .int .i64 0, .int .i64 0, .int .i64 0] 41 (0, 0)) (by exact BK191.out) hb); have n2_ := Aside0.mk (IsS104.below (by repeat (first | (with_reducible first | exact HI0.out | apply IsS104.alloc | apply IsS104.drewN | apply IsS104.drew | refine IsS104.far ?_ NB0_191.out _) | exact HI0.out)) hb); have n3_ := Aside0.mk (KeepBut.trans (by repeat (first | (with_reducible first | exact HK.out | apply KeepBut.set_ | apply keep_drewN | apply keep_drew | apply keep_alloc | refine keep_far ?_ GW191.out _) | exact HK.out)) (KeepBut.of_below hb g none) (.inl rfl)); have n4_ := Aside0.mk (below_step (by repeat (first | (with_reducible first | exact HB.out | apply below_alloc | apply pw_below_drewN | apply below_drew1 | refine below_set ?_ (IsS104.ge HI0.out) | refine below_set ?_ GE191.out) | exact HB.out)) hb); clear BK191; clear HI0; clear HK; clear HB; have HO251 := n0_; have BK191 := n1_; have HI0 := n2_; have HK := n3_; have HB := n4_; clear n0_ n1_ n2_ n3_ n4_; clear hb ho66) | ((with_reducible refine gate_callee (f := 68) rfl ?_); refine goesL_ (some 75) rfl rfl Try.func68 (by kernel_rfl) rfl #[.pointer (some ⟨g, 0, none⟩), .int .i64 4] rfl (by (try simp only [List.map_toArray, List.map_cons, List.map_nil]); first | done | rfl) ?_; (with_reducible refine (spec_l1Next.calls g s0_0 t247 t248 4 t252 t253 t254 w0 _ ?side1 ?side2 A60.out).mono ?_); (case side1 => repeat (first | (with_reducible first | exact HI0.out | apply IsS104.alloc | apply IsS104.drewN | apply IsS104.drew | refine IsS104.far ?_ NB0_191.out _) | exact HI0.out)); (case side2 => repeat (first | (with_reducible first | exact HB.out | apply below_alloc | apply pw_below_drewN | apply below_drew1 | refine below_set ?_ (IsS104.ge HI0.out) | refine below_set ?_ GE191.out) | exact HB.out)); rintro e w67 ⟨rfl, hi, hb, hk⟩; refine ⟨_, rfl, ?_⟩; have n0_ := Aside0.mk (KeepBut.blk hk (g' := gb191) (o := .cells #[.int .i64 0, .int .i64 0, .int .i64 0, .int .i64 0, .int .i64 0] 41 (0, 0)) (by exact BK191.out) NB191_0.out (by simp)); have n1_ := Aside0.mk (Kd.R_mono (Kd.R_keep (IsS104.apart (show IsS104 w0 _ g s0_0 t247 t248 from by repeat (first | (with_reducible first | exact HI0.out | apply IsS104.alloc | apply IsS104.drewN | apply IsS104.drew | refine IsS104.far ?_ NB0_191.out _) | exact HI0.out)) (by exact HO251.out) (by decide)) hk (fun _ h => h.2)) (fun _ h => h.1)); have n2_ := Aside0.mk (KeepBut.trans (by repeat (first | (with_reducible first | exact HK.out | apply KeepBut.set_ | apply keep_drewN | apply keep_drew | apply keep_alloc | refine keep_far ?_ GW191.out _) | exact HK.out)) hk (.inl rfl)); have n3_ := Aside0.mk (hb); have n4_ := Aside0.mk (hi); clear BK191; clear HO251; clear HK; clear HB; clear HI0; have BK191 := n0_; have HO251 := n1_; have HK := n2_; have HB := n3_; have HI0 := n4_; clear n0_ n1_ n2_ n3_ n4_; (try clear hb); (try clear hb2); (try clear hk); (try clear hi); obtain ⟨Ao68, co68, eo68⟩ := Kd.R_slice HO251.out; subst eo68; have p255 : 0 ≤ (t252 : Int) := of_decide_eq_true (by first | (with_reducible assumption) | assumption); have q255 : t252 < (y249.length : Int) := of_decide_eq_true (by first | (with_reducible assumption) | assumption); obtain ⟨ad255, e255, hx255_0⟩ := Kd.at_int (Kd.R_reads' HO251.out).2.2 t252 p255 q255; cases e255; replace p255 := eq_true p255; replace q255 := eq_true q255; have hnb69 := NB191_0.out; have hnc69 := NB0_191.out; have hcz70_0 : w67.cell? ⟨gb191, 0, none⟩ = some (.int .i64 0) := (blk_cell BK191.out 0).trans rfl; have hcz70_1 : w67.cell? ⟨gb191, 1, none⟩ = some (.int .i64 0) := (blk_cell BK191.out 1).trans rfl; have hcz70_2 : w67.cell? ⟨gb191, 2, none⟩ = some (.int .i64 0) := (blk_cell BK191.out 2).trans rfl; have hcz70_3 : w67.cell? ⟨gb191, 3, none⟩ = some (.int .i64 0) := (blk_cell BK191.out 3).trans rfl; have hcz70_4 : w67.cell? ⟨gb191, 4, none⟩ = some (.int .i64 0) := (blk_cell BK191.out 4).trans rfl; have hfz70_0 := blk_frozen BK191.out 0; have hfz70_1 := blk_frozen BK191.out 1; have hfz70_2 := blk_frozen BK191.out 2; have hfz70_3 := blk_frozen BK191.out 3; have hfz70_4 := blk_frozen BK191.out 4))
             refine bodyPost_ret (results_cell_row rfl _ _ gb191 41 #[.int .i64 (wrap64 (16 + t243)), .int .i64 t192, .int .i64 t246, .int .i64 0, .int .i64 (rd y249 t252)] (0, 0) _ rfl (by refine blk_put (cs := #[.int .i64 (wrap64 (16 + t243)), .int .i64 t192, .int .i64 t246, .int .i64 0, .int .i64 0]) ?_ 4 _ rfl; refine blk_put (cs := #[.int .i64 (wrap64 (16 + t243)), .int .i64 t192, .int .i64 t246, .int .i64 0, .int .i64 0]) ?_ 3 _ rfl; refine blk_put (cs := #[.int .i64 (wrap64 (16 + t243)), .int .i64 t192, .int .i64 0, .int .i64 0, .int .i64 0]) ?_ 2 _ rfl; refine blk_put (cs := #[.int .i64 (wrap64 (16 + t243)), .int .i64 0, .int .i64 0, .int .i64 0, .int .i64 0]) ?_ 1 _ rfl; refine blk_put (cs := #[.int .i64 0, .int .i64 0, .int .i64 0, .int .i64 0, .int .i64 0]) ?_ 0 _ rfl; exact BK191.out) Try.underlying41 rfl (by kernel_rfl)) rfl ?_
             exact ⟨by first | rfl | (simp [*] <;> rfl), by repeat (first | (with_reducible first | exact HI0.out | apply IsS104.alloc | apply IsS104.drewN | apply IsS104.drew | refine IsS104.far ?_ NB0_191.out _) | exact HI0.out), by repeat (first | (with_reducible first | exact HB.out | apply below_alloc | apply pw_below_drewN | apply below_drew1 | refine below_set ?_ (IsS104.ge HI0.out) | refine below_set ?_ GE191.out) | exact HB.out), by repeat (first | (with_reducible first | exact HK.out | apply KeepBut.set_ | apply keep_drewN | apply keep_drew | apply keep_alloc | refine keep_far ?_ GW191.out _) | exact HK.out)⟩
            ·rw [if_neg c62] at H
             exact absurd H (by simp)
           ·rw [if_neg c61] at H
            exact absurd H (by simp)
          ·rw [if_neg c57] at H
           have c57b0 : (t195 == 8) = false := beq_eq_false_iff_ne.mpr c57
           have c57b1 : (t195 != 8) = true := bne_iff_ne.mpr c57
           by_cases c71 : t195 = 9
           ·rw [if_pos c71] at H
            have c71b0 : (t195 == 9) = true := beq_iff_eq.mpr c71
            have c71b1 : (t195 != 9) = false := bne_eq_false_iff_eq.mpr c71
            clear c71
            obtain ⟨y256, hy256⟩ : ∃ y_ : List Int, y_ = (([18, 30] : List Int)) := ⟨_, rfl⟩
            replace H : ((spec_l1Next.f s0_0 t196 t197 2).bind fun bt259 => (if 0 ≤ bt259.1 then (if bt259.1 < (y256.length : Int) then ((spec_l21Imm.f s0_0 bt259.2.1 bt259.2.2).bind fun bt263 => (some (rd y256 bt259.1, t192, 0, 0, bt263.1, bt263.2.1, bt263.2.2))) else (none)) else (none))) = some (r1, r2, r3, r4, r5, r6, r7) := by first | (rw [hy256]; with_reducible exact H) | (have H2_ := (Option.bind_some _ _).symm.trans H; rw [hy256]; with_reducible exact H2_) | (have H2_ := (Option.bind_some _ _).symm.trans H; with_reducible exact H2_) | with_reducible exact H | (rw [hy256]; exact H) | exact H
            have Ny256 := Aside0.mk hy256
            clear hy256
            replace H := Option.bind_eq_some_iff.mp H
            obtain ⟨⟨t259, t260, t261⟩, A720, H⟩ := H
            replace H : (if 0 ≤ t259 then (if t259 < (y256.length : Int) then ((spec_l21Imm.f s0_0 t260 t261).bind fun bt263 => (some (rd y256 t259, t192, 0, 0, bt263.1, bt263.2.1, bt263.2.2))) else (none)) else (none)) = some (r1, r2, r3, r4, r5, r6, r7) := H
            have A72 := Aside0.mk A720
            clear A720
            by_cases c73 : 0 ≤ t259
            ·rw [if_pos c73] at H
             have c73b0 : decide (0 ≤ t259) = true := decide_eq_true c73
             clear c73
             by_cases c74 : t259 < (y256.length : Int)
             ·rw [if_pos c74] at H
              have c74b0 : decide (t259 < (y256.length : Int)) = true := decide_eq_true c74
              clear c74
              replace H := Option.bind_eq_some_iff.mp H
              obtain ⟨⟨t263, t264, t265⟩, A750, H⟩ := H
              replace H : (some (rd y256 t259, t192, 0, 0, t263, t264, t265)) = some (r1, r2, r3, r4, r5, r6, r7) := H
              have A75 := Aside0.mk A750
              clear A750
              simp only [Option.some.injEq, Prod.mk.injEq] at H
              obtain ⟨rfl, rfl, rfl, rfl, rfl, rfl, rfl⟩ := H
              try go_wp2
              have pi262 : (0 ≤ (t259 : Int)) = True := eq_true (of_decide_eq_true (by first | (with_reducible assumption) | assumption))
              have qi262 : (t259 < (y256.length : Int)) = True := eq_true (of_decide_eq_true (by first | (with_reducible assumption) | assumption))
              have n0_ := Aside0.mk (blk_drew BK191.out)
              have n1_ := Aside0.mk (IsS104.drew HI0.out)
              have n2_ := Aside0.mk (keep_drew HK.out)
              have n3_ := Aside0.mk (below_drew1 HB.out)
              clear BK191
              clear HI0
              clear HK
              clear HB
              have BK191 := n0_
              have HI0 := n1_
              have HK := n2_
              have HB := n3_
              clear n0_ n1_ n2_ n3_
              refine start_ (n := 10) (S := fun w' => True) (ds := []) #[false, false, false, false, false, false, false, false, false, false] (by kernel_rfl) rfl rfl trivial (fun hHeld => ?_); refine with_tabW spec_l21Ins.tab19 spec_l21Ins.bits19 (fun HT_ HW_ => ?_)
              generalize wc.drew = w76 at BK191 HI0 HK HB hHeld ⊢
              refine pure_ (i := 1) (N := some 82) (v := ?_) (a' := ?_) #[false, true, false, false, false, false, false, false, false, false] rfl rfl (any_of HT_.out (by kernel_rfl)) (fun _ _ _ h => h) (Or.inl ⟨by rfl, ?_⟩) ?_ ?_
              rotate_left
              ·intro w'
               go_simp
               with_reducible rfl
              rotate_left
              ·simp only [Act.put, List.setIfInBounds_toArray, List.set_cons_zero, List.set_cons_succ, i64_w, i32_w]
               rfl
              refine pure_ (i := 5) (N := some 86) (v := ?_) (a' := ?_) #[false, true, false, false, false, true, false, false, false, false] rfl rfl (any_of HT_.out (by kernel_rfl)) (fun _ _ _ h => h) (Or.inl ⟨by rfl, ?_⟩) ?_ ?_
              rotate_left
              ·intro w'
               go_simp
               with_reducible rfl
              rotate_left
              ·simp only [Act.put, List.setIfInBounds_toArray, List.set_cons_zero, List.set_cons_succ, i64_w, i32_w]
               rfl
              refine pure_ (i := 6) (N := some 87) (v := ?_) (a' := ?_) #[false, true, false, false, false, true, true, false, false, false] rfl rfl (any_of HT_.out (by kernel_rfl)) (fun _ _ _ h => h) (Or.inl ⟨by rfl, ?_⟩) ?_ ?_
              rotate_left
              ·intro w'
               go_simp
               with_reducible rfl
              rotate_left
              ·simp only [Act.put, List.setIfInBounds_toArray, List.set_cons_zero, List.set_cons_succ, i64_w, i32_w]
               rfl
              refine inv_at [0, 2, 3, 4, 7, 8, 9] (fun a0_ b a w' => ∃ (v257 : Value) (adz_v257 : Addr) (m3_ : Value), a = putSel a0_ b [(0, 81, v257), (2, 83, .int .i64 t259), (3, 84, m3_), (4, 85, .int .i64 (rd y256 t259)), (7, 88, .int .i64 t263), (8, 89, .agg #[.int .i64 (rd y256 t259), .int .i64 t192, .int .i64 0, .int .i64 0, .int .i64 t263])] ∧ (b 9 = false → w'.heap[gb191]? = some (.cells #[.int .i64 0, .int .i64 0, .int .i64 0, .int .i64 0, .int .i64 0] 41 (0, 0))) ∧ (b 2 = false → IsS104 w0 w' g s0_0 t196 t197) ∧ (KeepBut w w' g none) ∧ (Below w0.heap.size w0 w') ∧ (b 0 = true → Kd.R (Kd.int .i64) 2 w' w.heap.size (fun _ => True) v257 y256) ∧ (b 0 = true → ∃ c_, (v257 : Value) = .slice (some adz_v257) y256.length c_) ∧ (b 2 = true → b 7 = false → IsS104 w0 w' g s0_0 t260 t261) ∧ (b 7 = true → IsS104 w0 w' g s0_0 t264 t265) ∧ (b 9 = true → w'.heap[gb191]? = some (.cells #[.int .i64 (rd y256 t259), .int .i64 t192, .int .i64 0, .int .i64 0, .int .i64 t263] 41 (0, 0))) ∧ (b 3 = true → (m3_ : Value) = .pointer (some (adz_v257.add (t259).toNat)))) HT_.out HW_.out (by kernel_rfl) (by kernel_rfl) ?_ ?_ ?_
              ·exact ⟨.bool false, ⟨0, 0, none⟩, .bool false, by simp only [putSel, Bool.false_eq_true, if_false], fun _ => BK191.out, fun _ => HI0.out, HK.out, HB.out, fun h_ => absurd h_ (by decide), fun h_ => absurd h_ (by decide), fun h_ => absurd h_ (by decide), fun h_ => absurd h_ (by decide), fun h_ => absurd h_ (by decide), fun h_ => absurd h_ (by decide)⟩
              ·skip
               clear BK191 HB HI0 HK
               refine steps_cons ?_ ?_
               ·rintro b a w' ⟨v257, adz_v257, m3_, ha, Q_BK191, Q_HI0, Q_HK, Q_HB, Q_HO258, Q_HA_HO258, Q_HI0_e2, Q_HI0_e7, Q_BK191_e9, Q_X3_⟩ hb_ hon hoff
                refine ⟨_, rfl, fun K hK => ?_⟩
                replace ha := Aside0.mk ha
                have BK191 := Aside0.mk (Q_BK191 (hoff 9 (by kernel_rfl)))
                have HK := Aside0.mk Q_HK
                have HB := Aside0.mk Q_HB
                refine Kd.R_lit_step (Kd.int .i64) _ 2 ?hg (N := 81) ?hd (xs := ([18, 30] : List Int)) (inner := [.int .i64 18, .int .i64 30]) (ok := fun _ => True) (okp := fun _ => True) ?hr ?hp (fun _ hk => hk) trivial (Below.refl _ _) (Nat.le_refl _) (by simp) ?_; (case hd => rfl); (case hg => rfl); (case hr => first | (go_simp; done) | (go_simp; rfl)); (case hp => exact (Reps.one (show Kd.M (Kd.int .i64) _ _ _ 18 [.int .i64 18] from rfl) (Reps.one (show Kd.M (Kd.int .i64) _ _ _ 30 [.int .i64 30] from rfl) (Reps.none _ _))))
                intro v257 w77 ho78 hb hg_ hnew_
                clear hg_ hnew_
                (first | rw [← Ny256.out] at ho78 | (simp only [Int.reduceToNat] at ho78; rw [← Ny256.out] at ho78))
                have n0_ := Aside0.mk (Kd.R_lower ho78 (keep_size (w := w) (g := g) (row := none) (by repeat (first | (with_reducible first | exact HK.out | apply KeepBut.set_ | apply keep_drewN | apply keep_drew | apply keep_alloc | refine keep_far ?_ GW191.out _) | exact HK.out))))
                have n1_ := Aside0.mk (blk_below (g := gb191) (o := .cells #[.int .i64 0, .int .i64 0, .int .i64 0, .int .i64 0, .int .i64 0] 41 (0, 0)) (by exact BK191.out) hb)
                have n3_ := Aside0.mk (KeepBut.trans (by repeat (first | (with_reducible first | exact HK.out | apply KeepBut.set_ | apply keep_drewN | apply keep_drew | apply keep_alloc | refine keep_far ?_ GW191.out _) | exact HK.out)) (KeepBut.of_below hb g none) (.inl rfl))
                have n4_ := Aside0.mk (below_step (by repeat (first | (with_reducible first | exact HB.out | apply below_alloc | apply pw_below_drewN | apply below_drew1 | refine below_set ?_ GE191.out) | exact HB.out)) hb)
                have z_HI0 := fun (h0_ : b 2 = false) => (show IsS104 w0 w77 g s0_0 t196 t197 from by first | exact (IsS104.below (by repeat (first | (with_reducible first | exact (Q_HI0 h0_) | apply IsS104.alloc | apply IsS104.drewN | apply IsS104.drew | refine IsS104.far ?_ NB0_191.out _) | exact (Q_HI0 h0_))) hb))
                have z_HI0_e2 := fun (h0_ : b 2 = true) (h1_ : b 7 = false) => (show IsS104 w0 w77 g s0_0 t260 t261 from by first | exact (IsS104.below (by repeat (first | (with_reducible first | exact (Q_HI0_e2 h0_ h1_) | apply IsS104.alloc | apply IsS104.drewN | apply IsS104.drew | refine IsS104.far ?_ NB0_191.out _) | exact (Q_HI0_e2 h0_ h1_))) hb))
                have z_HI0_e7 := fun (h0_ : b 7 = true) => (show IsS104 w0 w77 g s0_0 t264 t265 from by first | exact (IsS104.below (by repeat (first | (with_reducible first | exact (Q_HI0_e7 h0_) | apply IsS104.alloc | apply IsS104.drewN | apply IsS104.drew | refine IsS104.far ?_ NB0_191.out _) | exact (Q_HI0_e7 h0_))) hb))
                clear BK191
                clear HK
                clear HB
                have HO258 := n0_
                have BK191 := n1_
                have HK := n3_
                have HB := n4_
                clear n0_ n1_ n3_ n4_
                clear hb ho78
                obtain ⟨Ao79, co79, eo79⟩ := Kd.R_slice HO258.out
                subst eo79
                obtain ⟨ado79, fo79, _⟩ := Kd.at_int (Kd.R_reads' HO258.out).2.2 0 (by decide) (by rw [Ny256.out]; simp)
                cases fo79
                refine hK.out _ _ ⟨.slice (some ado79) y256.length co79, ado79, m3_, (by rw [ha.out]; exact putSel_upk 0 hb_ rfl rfl rfl), fun _ => (by exact BK191.out), z_HI0, (by repeat (first | (with_reducible first | exact HK.out | apply KeepBut.set_ | apply keep_drewN | apply keep_drew | apply keep_alloc | refine keep_far ?_ GW191.out _) | exact HK.out)), (by repeat (first | (with_reducible first | exact HB.out | apply below_alloc | apply pw_below_drewN | apply below_drew1 | refine below_set ?_ GE191.out) | exact HB.out)), fun _ => (by exact HO258.out), fun _ => ⟨_, rfl⟩, z_HI0_e2, z_HI0_e7, fun h0_ => absurd ((hoff 9 (by kernel_rfl)).symm.trans h0_) (by decide), fun h0_ => absurd ((hoff 3 (by kernel_rfl)).symm.trans h0_) (by decide)⟩
               refine steps_cons ?_ ?_
               ·rintro b a w' ⟨v257, adz_v257, m3_, ha, Q_BK191, Q_HI0, Q_HK, Q_HB, Q_HO258, Q_HA_HO258, Q_HI0_e2, Q_HI0_e7, Q_BK191_e9, Q_X3_⟩ hb_ hon hoff
                refine ⟨_, rfl, fun K hK => ?_⟩
                have e82 : a.tmps[82]? = some (.pointer (some ⟨g, 0, none⟩)) := by rw [ha]; exact (putSel_off rfl).trans rfl
                replace ha := Aside0.mk ha
                have BK191 := Aside0.mk (Q_BK191 (hoff 9 (by kernel_rfl)))
                have HI0 := Aside0.mk (Q_HI0 hb_)
                have HK := Aside0.mk Q_HK
                have HB := Aside0.mk Q_HB
                refine goes_ Try.func68 (by kernel_rfl) rfl #[.pointer (some ⟨g, 0, none⟩), .int .i64 2] (by rfl) rfl rfl (by first | (simp only [List.map_toArray, List.map_cons, List.map_nil, Act.eval, Array.getD_eq_getD_getElem?, Option.getD_some, e82]; done) | (simp only [List.map_toArray, List.map_cons, List.map_nil, Act.eval, Array.getD_eq_getD_getElem?, Option.getD_some, e82]; rfl)) ?_
                with_reducible refine (spec_l1Next.calls g s0_0 t196 t197 2 t259 t260 t261 w0 _ ?side1 ?side2 A72.out).mono ?_
                (case side1 => repeat (first | (with_reducible first | exact HI0.out | apply IsS104.alloc | apply IsS104.drewN | apply IsS104.drew | refine IsS104.far ?_ NB0_191.out _) | exact HI0.out))
                (case side2 => repeat (first | (with_reducible first | exact HB.out | apply below_alloc | apply pw_below_drewN | apply below_drew1 | refine below_set ?_ (IsS104.ge HI0.out) | refine below_set ?_ GE191.out) | exact HB.out))
                rintro e w77 ⟨rfl, hi, hb, hk⟩
                refine ⟨_, rfl, ?_⟩
                have n0_ := Aside0.mk (KeepBut.blk hk (g' := gb191) (o := .cells #[.int .i64 0, .int .i64 0, .int .i64 0, .int .i64 0, .int .i64 0] 41 (0, 0)) (by exact BK191.out) NB191_0.out (by simp))
                have n1_ := Aside0.mk (KeepBut.trans (by repeat (first | (with_reducible first | exact HK.out | apply KeepBut.set_ | apply keep_drewN | apply keep_drew | apply keep_alloc | refine keep_far ?_ GW191.out _) | exact HK.out)) hk (.inl rfl))
                have n2_ := Aside0.mk (hb)
                have n3_ := Aside0.mk (hi)
                have z_HO258 := fun (h0_ : b 0 = true) => (show Kd.R (Kd.int .i64) 2 w77 w.heap.size (fun _ => True) v257 y256 from by first | exact (Kd.R_mono (Kd.R_keep (IsS104.apart (show IsS104 w0 _ g s0_0 t196 t197 from by repeat (first | (with_reducible first | exact HI0.out | apply IsS104.alloc | apply IsS104.drewN | apply IsS104.drew | refine IsS104.far ?_ NB0_191.out _) | exact HI0.out)) (by exact (Q_HO258 h0_)) (by decide)) hk (fun _ h => h.2)) (fun _ h => h.1)) | exact Kd.R_mono (Kd.R_mono (Kd.R_keep (IsS104.apart (show IsS104 w0 _ g s0_0 t196 t197 from by repeat (first | (with_reducible first | exact HI0.out | apply IsS104.alloc | apply IsS104.drewN | apply IsS104.drew | refine IsS104.far ?_ NB0_191.out _) | exact HI0.out)) (by exact (Q_HO258 h0_)) (by decide)) hk (fun _ h => h.2)) (fun _ h => h.1)) (fun _ h_ => by first | trivial | exact h_ | exact h_.1))
                clear BK191
                clear HK
                clear HB
                clear HI0
                have BK191 := n0_
                have HK := n1_
                have HB := n2_
                have HI0 := n3_
                clear n0_ n1_ n2_ n3_
                (try clear hb)
                (try clear hb2)
                (try clear hk)
                (try clear hi)
                refine hK.out _ _ ⟨v257, adz_v257, m3_, (by rw [ha.out]; exact putSel_upk 1 hb_ rfl rfl rfl), fun _ => (by exact BK191.out), fun h0_ => absurd ((up_self b 2).symm.trans h0_) (by decide), (by repeat (first | (with_reducible first | exact HK.out | apply KeepBut.set_ | apply keep_drewN | apply keep_drew | apply keep_alloc | refine keep_far ?_ GW191.out _) | exact HK.out)), (by repeat (first | (with_reducible first | exact HB.out | apply below_alloc | apply pw_below_drewN | apply below_drew1 | refine below_set ?_ (IsS104.ge HI0.out) | refine below_set ?_ GE191.out) | exact HB.out)), z_HO258, Q_HA_HO258, fun _ _ => (by repeat (first | (with_reducible first | exact HI0.out | apply IsS104.alloc | apply IsS104.drewN | apply IsS104.drew | refine IsS104.far ?_ NB0_191.out _) | exact HI0.out)), fun h0_ => absurd ((hoff 7 (by kernel_rfl)).symm.trans h0_) (by decide), fun h0_ => absurd ((hoff 9 (by kernel_rfl)).symm.trans h0_) (by decide), fun h0_ => absurd ((hoff 3 (by kernel_rfl)).symm.trans h0_) (by decide)⟩
               refine steps_cons ?_ ?_
               ·rintro b a w' ⟨v257, adz_v257, m3_, ha, Q_BK191, Q_HI0, Q_HK, Q_HB, Q_HO258, Q_HA_HO258, Q_HI0_e2, Q_HI0_e7, Q_BK191_e9, Q_X3_⟩ hb_ hon hoff
                refine ⟨_, rfl, fun K hK => ?_⟩
                have e81 : a.tmps[81]? = some (v257) := by rw [ha]; exact putSel_on (e := (0, 81, v257)) 0 rfl rfl (hon 0 (by kernel_rfl)) rfl
                have e83 : a.tmps[83]? = some (.int .i64 t259) := by rw [ha]; exact putSel_on (e := (2, 83, .int .i64 t259)) 1 rfl rfl (hon 2 (by kernel_rfl)) rfl
                replace ha := Aside0.mk ha
                have BK191 := Aside0.mk (Q_BK191 (hoff 9 (by kernel_rfl)))
                have HK := Aside0.mk Q_HK
                have HB := Aside0.mk Q_HB
                have HO258 := Aside0.mk (Q_HO258 (hon 0 (by kernel_rfl)))
                have HA_HO258 := Aside0.mk (Q_HA_HO258 (hon 0 (by kernel_rfl)))
                obtain ⟨c_, hv_⟩ := HA_HO258.out
                rw [hv_] at e81
                refine value_ (w1 := w') (v := .pointer (some (adz_v257.add (t259).toNat))) (by rfl) rfl ?_ ?_
                ·go_simp
                 (try simp only [i64_w])
                 try rfl
                refine hK.out _ _ ⟨v257, adz_v257, (.pointer (some (adz_v257.add (t259).toNat))), (by rw [ha.out]; exact putSel_upk 2 hb_ rfl rfl rfl), Q_BK191, fun h0_ => absurd ((hon 2 (by kernel_rfl)).symm.trans h0_) (by decide), Q_HK, Q_HB, Q_HO258, Q_HA_HO258, Q_HI0_e2, Q_HI0_e7, fun h0_ => absurd ((hoff 9 (by kernel_rfl)).symm.trans h0_) (by decide), fun _ => rfl⟩
               refine steps_cons ?_ ?_
               ·rintro b a w' ⟨v257, adz_v257, m3_, ha, Q_BK191, Q_HI0, Q_HK, Q_HB, Q_HO258, Q_HA_HO258, Q_HI0_e2, Q_HI0_e7, Q_BK191_e9, Q_X3_⟩ hb_ hon hoff
                refine ⟨_, rfl, fun K hK => ?_⟩
                have e84 : a.tmps[84]? = some (m3_) := by rw [ha]; exact putSel_on (e := (3, 84, m3_)) 2 rfl rfl (hon 3 (by kernel_rfl)) rfl
                rw [Q_X3_ (hon 3 (by kernel_rfl))] at e84
                replace ha := Aside0.mk ha
                have BK191 := Aside0.mk (Q_BK191 (hoff 9 (by kernel_rfl)))
                have HK := Aside0.mk Q_HK
                have HB := Aside0.mk Q_HB
                have HO258 := Aside0.mk (Q_HO258 (hon 0 (by kernel_rfl)))
                have HA_HO258 := Aside0.mk (Q_HA_HO258 (hon 0 (by kernel_rfl)))
                obtain ⟨c_, hv_⟩ := HA_HO258.out
                have hF_ := HO258.out
                rw [hv_] at hF_
                obtain ⟨ad_, ea_, hx_⟩ := Kd.at_int (Kd.R_reads' hF_).2.2 t259 (of_eq_true pi262) (of_eq_true qi262)
                cases ea_
                refine value_ (w1 := w') (v := .int .i64 (rd y256 t259)) (by rfl) rfl ?_ ?_
                ·go_simp
                 (try simp only [i64_w])
                 try rfl
                refine hK.out _ _ ⟨v257, adz_v257, m3_, (by rw [ha.out]; exact putSel_upk 3 hb_ rfl rfl rfl), Q_BK191, fun h0_ => absurd ((hon 2 (by kernel_rfl)).symm.trans h0_) (by decide), Q_HK, Q_HB, Q_HO258, Q_HA_HO258, Q_HI0_e2, Q_HI0_e7, fun h0_ => absurd ((hoff 9 (by kernel_rfl)).symm.trans h0_) (by decide), Q_X3_⟩
               refine steps_cons ?_ ?_
               ·rintro b a w' ⟨v257, adz_v257, m3_, ha, Q_BK191, Q_HI0, Q_HK, Q_HB, Q_HO258, Q_HA_HO258, Q_HI0_e2, Q_HI0_e7, Q_BK191_e9, Q_X3_⟩ hb_ hon hoff
                refine ⟨_, rfl, fun K hK => ?_⟩
                have e87 : a.tmps[87]? = some (.pointer (some ⟨g, 0, none⟩)) := by rw [ha]; exact (putSel_off rfl).trans rfl
                replace ha := Aside0.mk ha
                have BK191 := Aside0.mk (Q_BK191 (hoff 9 (by kernel_rfl)))
                have HK := Aside0.mk Q_HK
                have HB := Aside0.mk Q_HB
                have HI0 := Aside0.mk (Q_HI0_e2 (hon 2 (by kernel_rfl)) hb_)
                refine goes_ Try.func82 (by kernel_rfl) rfl #[.pointer (some ⟨g, 0, none⟩)] (by rfl) rfl rfl (by first | (simp only [List.map_toArray, List.map_cons, List.map_nil, Act.eval, Array.getD_eq_getD_getElem?, Option.getD_some, e87]; done) | (simp only [List.map_toArray, List.map_cons, List.map_nil, Act.eval, Array.getD_eq_getD_getElem?, Option.getD_some, e87]; rfl)) ?_
                with_reducible refine (spec_l21Imm.calls g s0_0 t260 t261 t263 t264 t265 w0 _ ?side1 ?side2 A75.out).mono ?_
                (case side1 => repeat (first | (with_reducible first | exact HI0.out | apply IsS104.alloc | apply IsS104.drewN | apply IsS104.drew | refine IsS104.far ?_ NB0_191.out _) | exact HI0.out))
                (case side2 => repeat (first | (with_reducible first | exact HB.out | apply below_alloc | apply pw_below_drewN | apply below_drew1 | refine below_set ?_ (IsS104.ge HI0.out) | refine below_set ?_ GE191.out) | exact HB.out))
                rintro e w79 ⟨rfl, hi, hb, hk⟩
                refine ⟨_, rfl, ?_⟩
                have n0_ := Aside0.mk (KeepBut.blk hk (g' := gb191) (o := .cells #[.int .i64 0, .int .i64 0, .int .i64 0, .int .i64 0, .int .i64 0] 41 (0, 0)) (by exact BK191.out) NB191_0.out (by simp))
                have n1_ := Aside0.mk (KeepBut.trans (by repeat (first | (with_reducible first | exact HK.out | apply KeepBut.set_ | apply keep_drewN | apply keep_drew | apply keep_alloc | refine keep_far ?_ GW191.out _) | exact HK.out)) hk (.inl rfl))
                have n2_ := Aside0.mk (hb)
                have n3_ := Aside0.mk (hi)
                have z_HO258 := fun (h0_ : b 0 = true) => (show Kd.R (Kd.int .i64) 2 w79 w.heap.size (fun _ => True) v257 y256 from by first | exact (Kd.R_mono (Kd.R_keep (IsS104.apart (show IsS104 w0 _ g s0_0 t260 t261 from by repeat (first | (with_reducible first | exact HI0.out | apply IsS104.alloc | apply IsS104.drewN | apply IsS104.drew | refine IsS104.far ?_ NB0_191.out _) | exact HI0.out)) (by exact (Q_HO258 h0_)) (by decide)) hk (fun _ h => h.2)) (fun _ h => h.1)) | exact Kd.R_mono (Kd.R_mono (Kd.R_keep (IsS104.apart (show IsS104 w0 _ g s0_0 t260 t261 from by repeat (first | (with_reducible first | exact HI0.out | apply IsS104.alloc | apply IsS104.drewN | apply IsS104.drew | refine IsS104.far ?_ NB0_191.out _) | exact HI0.out)) (by exact (Q_HO258 h0_)) (by decide)) hk (fun _ h => h.2)) (fun _ h => h.1)) (fun _ h_ => by first | trivial | exact h_ | exact h_.1))
                clear BK191
                clear HK
                clear HB
                clear HI0
                have BK191 := n0_
                have HK := n1_
                have HB := n2_
                have HI0 := n3_
                clear n0_ n1_ n2_ n3_
                (try clear hb)
                (try clear hb2)
                (try clear hk)
                (try clear hi)
                refine hK.out _ _ ⟨v257, adz_v257, m3_, (by rw [ha.out]; exact putSel_upk 4 hb_ rfl rfl rfl), fun _ => (by exact BK191.out), fun h0_ => absurd ((hon 2 (by kernel_rfl)).symm.trans h0_) (by decide), (by repeat (first | (with_reducible first | exact HK.out | apply KeepBut.set_ | apply keep_drewN | apply keep_drew | apply keep_alloc | refine keep_far ?_ GW191.out _) | exact HK.out)), (by repeat (first | (with_reducible first | exact HB.out | apply below_alloc | apply pw_below_drewN | apply below_drew1 | refine below_set ?_ (IsS104.ge HI0.out) | refine below_set ?_ GE191.out) | exact HB.out)), z_HO258, Q_HA_HO258, fun _ h1_ => absurd ((up_self b 7).symm.trans h1_) (by decide), fun _ => (by repeat (first | (with_reducible first | exact HI0.out | apply IsS104.alloc | apply IsS104.drewN | apply IsS104.drew | refine IsS104.far ?_ NB0_191.out _) | exact HI0.out)), fun h0_ => absurd ((hoff 9 (by kernel_rfl)).symm.trans h0_) (by decide), Q_X3_⟩
               refine steps_cons ?_ ?_
               ·rintro b a w' ⟨v257, adz_v257, m3_, ha, Q_BK191, Q_HI0, Q_HK, Q_HB, Q_HO258, Q_HA_HO258, Q_HI0_e2, Q_HI0_e7, Q_BK191_e9, Q_X3_⟩ hb_ hon hoff
                refine ⟨_, rfl, fun K hK => ?_⟩
                have e85 : a.tmps[85]? = some (.int .i64 (rd y256 t259)) := by rw [ha]; exact putSel_on (e := (4, 85, .int .i64 (rd y256 t259))) 3 rfl rfl (hon 4 (by kernel_rfl)) rfl
                have e86 : a.tmps[86]? = some (.int .i64 t192) := by rw [ha]; exact (putSel_off rfl).trans rfl
                have e88 : a.tmps[88]? = some (.int .i64 t263) := by rw [ha]; exact putSel_on (e := (7, 88, .int .i64 t263)) 4 rfl rfl (hon 7 (by kernel_rfl)) rfl
                replace ha := Aside0.mk ha
                have BK191 := Aside0.mk (Q_BK191 (hoff 9 (by kernel_rfl)))
                have HK := Aside0.mk Q_HK
                have HB := Aside0.mk Q_HB
                have HO258 := Aside0.mk (Q_HO258 (hon 0 (by kernel_rfl)))
                have HA_HO258 := Aside0.mk (Q_HA_HO258 (hon 0 (by kernel_rfl)))
                have HI0 := Aside0.mk (Q_HI0_e7 (hon 7 (by kernel_rfl)))
                refine value_ (w1 := w') (v := .agg #[.int .i64 (rd y256 t259), .int .i64 t192, .int .i64 0, .int .i64 0, .int .i64 t263]) (by rfl) rfl ?_ ?_
                ·go_simp
                 (try simp only [i64_w])
                 try rfl
                refine hK.out _ _ ⟨v257, adz_v257, m3_, (by rw [ha.out]; exact putSel_upk 5 hb_ rfl rfl rfl), Q_BK191, fun h0_ => absurd ((hon 2 (by kernel_rfl)).symm.trans h0_) (by decide), Q_HK, Q_HB, Q_HO258, Q_HA_HO258, fun _ h1_ => absurd ((hon 7 (by kernel_rfl)).symm.trans h1_) (by decide), Q_HI0_e7, fun h0_ => absurd ((hoff 9 (by kernel_rfl)).symm.trans h0_) (by decide), Q_X3_⟩
               refine steps_cons ?_ ?_
               ·rintro b a w' ⟨v257, adz_v257, m3_, ha, Q_BK191, Q_HI0, Q_HK, Q_HB, Q_HO258, Q_HA_HO258, Q_HI0_e2, Q_HI0_e7, Q_BK191_e9, Q_X3_⟩ hb_ hon hoff
                refine ⟨_, rfl, fun K hK => ?_⟩
                have e2 : a.tmps[2]? = some (.pointer (some ⟨gb191, 0, none⟩)) := by rw [ha]; exact (putSel_off rfl).trans rfl
                have e89 : a.tmps[89]? = some (.agg #[.int .i64 (rd y256 t259), .int .i64 t192, .int .i64 0, .int .i64 0, .int .i64 t263]) := by rw [ha]; exact putSel_on (e := (8, 89, .agg #[.int .i64 (rd y256 t259), .int .i64 t192, .int .i64 0, .int .i64 0, .int .i64 t263])) 5 rfl rfl (hon 8 (by kernel_rfl)) rfl
                replace ha := Aside0.mk ha
                have BK191 := Aside0.mk (Q_BK191 hb_)
                have HK := Aside0.mk Q_HK
                have HB := Aside0.mk Q_HB
                have HO258 := Aside0.mk (Q_HO258 (hon 0 (by kernel_rfl)))
                have HA_HO258 := Aside0.mk (Q_HA_HO258 (hon 0 (by kernel_rfl)))
                have HI0 := Aside0.mk (Q_HI0_e7 (hon 7 (by kernel_rfl)))
                obtain ⟨co83, eo83⟩ := HA_HO258.out
                clear HA_HO258
                subst eo83
                have hs84 : w'.cell? ⟨gb191, 0, none⟩ = some (.int .i64 0) := (blk_cell BK191.out 0).trans rfl
                have hfs84 := blk_frozen BK191.out 0
                have hs85 : w'.cell? ⟨gb191, 1, none⟩ = some (.int .i64 0) := (blk_cell BK191.out 1).trans rfl
                have hfs85 := blk_frozen BK191.out 1
                have hs86 : w'.cell? ⟨gb191, 2, none⟩ = some (.int .i64 0) := (blk_cell BK191.out 2).trans rfl
                have hfs86 := blk_frozen BK191.out 2
                have hs87 : w'.cell? ⟨gb191, 3, none⟩ = some (.int .i64 0) := (blk_cell BK191.out 3).trans rfl
                have hfs87 := blk_frozen BK191.out 3
                have hs88 : w'.cell? ⟨gb191, 4, none⟩ = some (.int .i64 0) := (blk_cell BK191.out 4).trans rfl
                have hfs88 := blk_frozen BK191.out 4
                refine skip_ (w1 := ?_) (by rfl) rfl ?_ ?_
                rotate_left
                ·go_simp
                 rfl
                refine hK.out _ _ ⟨.slice (some adz_v257) y256.length co83, adz_v257, m3_, (by rw [ha.out]; exact putSel_none (v := undef) rfl), fun h0_ => absurd ((up_self b 9).symm.trans h0_) (by decide), fun h0_ => absurd ((hon 2 (by kernel_rfl)).symm.trans h0_) (by decide), (by repeat (first | (with_reducible first | exact HK.out | apply KeepBut.set_ | apply keep_drewN | apply keep_drew | apply keep_alloc | refine keep_far ?_ GW191.out _) | exact HK.out)), (by repeat (first | (with_reducible first | exact HB.out | apply below_alloc | apply pw_below_drewN | apply below_drew1 | refine below_set ?_ (IsS104.ge HI0.out) | refine below_set ?_ GE191.out) | exact HB.out)), fun _ => (by exact Kd.R_mono (Kd.R_far (p := ⟨gb191, 4, none⟩) (Kd.R_far (p := ⟨gb191, 3, none⟩) (Kd.R_far (p := ⟨gb191, 2, none⟩) (Kd.R_far (p := ⟨gb191, 1, none⟩) (Kd.R_far (p := ⟨gb191, 0, none⟩) (Kd.R_types HO258.out BK191.out (by decide)) (fun _ hk => hk.2) (.int .i64 (rd y256 t259))) (fun _ hk => hk.2) (.int .i64 t192)) (fun _ hk => hk.2) (.int .i64 0)) (fun _ hk => hk.2) (.int .i64 0)) (fun _ hk => hk.2) (.int .i64 t263)) (fun _ hk => trivial)), fun _ => ⟨_, rfl⟩, fun _ h1_ => absurd ((hon 7 (by kernel_rfl)).symm.trans h1_) (by decide), fun _ => (by repeat (first | (with_reducible first | exact HI0.out | apply IsS104.alloc | apply IsS104.drewN | apply IsS104.drew | refine IsS104.far ?_ NB0_191.out _) | exact HI0.out)), fun _ => (by refine blk_put (cs := #[.int .i64 (rd y256 t259), .int .i64 t192, .int .i64 0, .int .i64 0, .int .i64 0]) ?_ 4 _ rfl; refine blk_put (cs := #[.int .i64 (rd y256 t259), .int .i64 t192, .int .i64 0, .int .i64 0, .int .i64 0]) ?_ 3 _ rfl; refine blk_put (cs := #[.int .i64 (rd y256 t259), .int .i64 t192, .int .i64 0, .int .i64 0, .int .i64 0]) ?_ 2 _ rfl; refine blk_put (cs := #[.int .i64 (rd y256 t259), .int .i64 0, .int .i64 0, .int .i64 0, .int .i64 0]) ?_ 1 _ rfl; refine blk_put (cs := #[.int .i64 0, .int .i64 0, .int .i64 0, .int .i64 0, .int .i64 0]) ?_ 0 _ rfl; exact BK191.out), Q_X3_⟩
               exact steps_nil
              rintro b a w87 hall ⟨v257, adz_v257, m3_, ha, Q_BK191, Q_HI0, Q_HK, Q_HB, Q_HO258, Q_HA_HO258, Q_HI0_e2, Q_HI0_e7, Q_BK191_e9, Q_X3_⟩
              clear BK191 HB HI0 HK
              have hb0_ := hall 0 (by kernel_rfl)
              have hb2_ := hall 2 (by kernel_rfl)
              have hb3_ := hall 3 (by kernel_rfl)
              have hb4_ := hall 4 (by kernel_rfl)
              have hb7_ := hall 7 (by kernel_rfl)
              have hb8_ := hall 8 (by kernel_rfl)
              have hb9_ := hall 9 (by kernel_rfl)
              subst ha
              obtain rfl := Q_X3_ hb3_
              simp only [putSel, hb0_, hb2_, hb3_, hb4_, hb7_, hb8_, hb9_, if_true, Act.put, List.setIfInBounds_toArray, List.set_cons_zero, List.set_cons_succ]
              clear Q_BK191
              clear Q_HI0
              have HK := Aside0.mk Q_HK
              clear Q_HK
              have HB := Aside0.mk Q_HB
              clear Q_HB
              have HO258 := Aside0.mk (Q_HO258 hb0_)
              clear Q_HO258
              have HA_HO258 := Aside0.mk (Q_HA_HO258 hb0_)
              clear Q_HA_HO258
              clear Q_HI0_e2
              have HI0 := Aside0.mk (Q_HI0_e7 hb7_)
              clear Q_HI0_e7
              have BK191 := Aside0.mk (Q_BK191_e9 hb9_)
              clear Q_BK191_e9
              clear hall hb0_ hb2_ hb3_ hb4_ hb7_ hb8_ hb9_
              obtain ⟨co88, eo88⟩ := HA_HO258.out
              clear HA_HO258
              subst eo88
              try go_wp2
              refine bodyPost_ret (results_cell_row rfl _ _ gb191 41 #[.int .i64 (rd y256 t259), .int .i64 t192, .int .i64 0, .int .i64 0, .int .i64 t263] (0, 0) _ rfl (by exact BK191.out) Try.underlying41 rfl (by kernel_rfl)) rfl ?_
              exact ⟨by first | rfl | (simp [*] <;> rfl), by repeat (first | (with_reducible first | exact HI0.out | apply IsS104.alloc | apply IsS104.drewN | apply IsS104.drew | refine IsS104.far ?_ NB0_191.out _) | exact HI0.out), by repeat (first | (with_reducible first | exact HB.out | apply below_alloc | apply pw_below_drewN | apply below_drew1 | refine below_set ?_ (IsS104.ge HI0.out) | refine below_set ?_ GE191.out) | exact HB.out), by repeat (first | (with_reducible first | exact HK.out | apply KeepBut.set_ | apply keep_drewN | apply keep_drew | apply keep_alloc | refine keep_far ?_ GW191.out _) | exact HK.out)⟩
             ·rw [if_neg c74] at H
              exact absurd H (by simp)
            ·rw [if_neg c73] at H
             exact absurd H (by simp)
           ·rw [if_neg c71] at H
            have c71b0 : (t195 == 9) = false := beq_eq_false_iff_ne.mpr c71
            have c71b1 : (t195 != 9) = true := bne_iff_ne.mpr c71
            by_cases c89 : t195 = 10
            ·rw [if_pos c89] at H
             have c89b0 : (t195 == 10) = true := beq_iff_eq.mpr c89
             have c89b1 : (t195 != 10) = false := bne_eq_false_iff_eq.mpr c89
             clear c89
             replace H := Option.bind_eq_some_iff.mp H
             obtain ⟨⟨t266, t267, t268⟩, A900, H⟩ := H
             replace H : ((spec_l21Imm.f s0_0 t267 t268).bind fun bt269 => (some (19, t192, t266, 0, bt269.1, bt269.2.1, bt269.2.2))) = some (r1, r2, r3, r4, r5, r6, r7) := H
             have A90 := Aside0.mk A900
             clear A900
             replace H := Option.bind_eq_some_iff.mp H
             obtain ⟨⟨t269, t270, t271⟩, A910, H⟩ := H
             replace H : (some (19, t192, t266, 0, t269, t270, t271)) = some (r1, r2, r3, r4, r5, r6, r7) := H
             have A91 := Aside0.mk A910
             clear A910
             simp only [Option.some.injEq, Prod.mk.injEq] at H
             obtain ⟨rfl, rfl, rfl, rfl, rfl, rfl, rfl⟩ := H
             go_wp2_with (first | ((with_reducible refine gate_callee (f := 81) rfl ?_); refine goesL_ (some 94) rfl rfl Try.func81 (by kernel_rfl) rfl #[.pointer (some ⟨g, 0, none⟩)] rfl (by (try simp only [List.map_toArray, List.map_cons, List.map_nil]); first | done | rfl) ?_; (with_reducible refine (spec_func1.calls g s0_0 t196 t197 t266 t267 t268 w0 _ ?side1 ?side2 A90.out).mono ?_); (case side1 => repeat (first | (with_reducible first | exact HI0.out | apply IsS104.alloc | apply IsS104.drewN | apply IsS104.drew | refine IsS104.far ?_ NB0_191.out _) | exact HI0.out)); (case side2 => repeat (first | (with_reducible first | exact HB.out | apply below_alloc | apply pw_below_drewN | apply below_drew1 | refine below_set ?_ (IsS104.ge HI0.out) | refine below_set ?_ GE191.out) | exact HB.out)); rintro e w92 ⟨rfl, hi, hb, hk⟩; refine ⟨_, rfl, ?_⟩; have n0_ := Aside0.mk (KeepBut.blk hk (g' := gb191) (o := .cells #[.int .i64 0, .int .i64 0, .int .i64 0, .int .i64 0, .int .i64 0] 41 (0, 0)) (by exact BK191.out) NB191_0.out (by simp)); have n1_ := Aside0.mk (KeepBut.trans (by repeat (first | (with_reducible first | exact HK.out | apply KeepBut.set_ | apply keep_drewN | apply keep_drew | apply keep_alloc | refine keep_far ?_ GW191.out _) | exact HK.out)) hk (.inl rfl)); have n2_ := Aside0.mk (hb); have n3_ := Aside0.mk (hi); clear BK191; clear HK; clear HB; clear HI0; have BK191 := n0_; have HK := n1_; have HB := n2_; have HI0 := n3_; clear n0_ n1_ n2_ n3_; (try clear hb); (try clear hb2); (try clear hk); (try clear hi)) | ((with_reducible refine gate_callee (f := 82) rfl ?_); refine goesL_ (some 96) rfl rfl Try.func82 (by kernel_rfl) rfl #[.pointer (some ⟨g, 0, none⟩)] rfl (by (try simp only [List.map_toArray, List.map_cons, List.map_nil]); first | done | rfl) ?_; (with_reducible refine (spec_l21Imm.calls g s0_0 t267 t268 t269 t270 t271 w0 _ ?side1 ?side2 A91.out).mono ?_); (case side1 => repeat (first | (with_reducible first | exact HI0.out | apply IsS104.alloc | apply IsS104.drewN | apply IsS104.drew | refine IsS104.far ?_ NB0_191.out _) | exact HI0.out)); (case side2 => repeat (first | (with_reducible first | exact HB.out | apply below_alloc | apply pw_below_drewN | apply below_drew1 | refine below_set ?_ (IsS104.ge HI0.out) | refine below_set ?_ GE191.out) | exact HB.out)); rintro e w93 ⟨rfl, hi, hb, hk⟩; refine ⟨_, rfl, ?_⟩; have n0_ := Aside0.mk (KeepBut.blk hk (g' := gb191) (o := .cells #[.int .i64 0, .int .i64 0, .int .i64 0, .int .i64 0, .int .i64 0] 41 (0, 0)) (by exact BK191.out) NB191_0.out (by simp)); have n1_ := Aside0.mk (KeepBut.trans (by repeat (first | (with_reducible first | exact HK.out | apply KeepBut.set_ | apply keep_drewN | apply keep_drew | apply keep_alloc | refine keep_far ?_ GW191.out _) | exact HK.out)) hk (.inl rfl)); have n2_ := Aside0.mk (hb); have n3_ := Aside0.mk (hi); clear BK191; clear HK; clear HB; clear HI0; have BK191 := n0_; have HK := n1_; have HB := n2_; have HI0 := n3_; clear n0_ n1_ n2_ n3_; (try clear hb); (try clear hb2); (try clear hk); (try clear hi); have hnb94 := NB191_0.out; have hnc94 := NB0_191.out; have hcz95_0 : w93.cell? ⟨gb191, 0, none⟩ = some (.int .i64 0) := (blk_cell BK191.out 0).trans rfl; have hcz95_1 : w93.cell? ⟨gb191, 1, none⟩ = some (.int .i64 0) := (blk_cell BK191.out 1).trans rfl; have hcz95_2 : w93.cell? ⟨gb191, 2, none⟩ = some (.int .i64 0) := (blk_cell BK191.out 2).trans rfl; have hcz95_3 : w93.cell? ⟨gb191, 3, none⟩ = some (.int .i64 0) := (blk_cell BK191.out 3).trans rfl; have hcz95_4 : w93.cell? ⟨gb191, 4, none⟩ = some (.int .i64 0) := (blk_cell BK191.out 4).trans rfl; have hfz95_0 := blk_frozen BK191.out 0; have hfz95_1 := blk_frozen BK191.out 1; have hfz95_2 := blk_frozen BK191.out 2; have hfz95_3 := blk_frozen BK191.out 3; have hfz95_4 := blk_frozen BK191.out 4))
             refine bodyPost_ret (results_cell_row rfl _ _ gb191 41 #[.int .i64 19, .int .i64 t192, .int .i64 t266, .int .i64 0, .int .i64 t269] (0, 0) _ rfl (by refine blk_put (cs := #[.int .i64 19, .int .i64 t192, .int .i64 t266, .int .i64 0, .int .i64 0]) ?_ 4 _ rfl; refine blk_put (cs := #[.int .i64 19, .int .i64 t192, .int .i64 t266, .int .i64 0, .int .i64 0]) ?_ 3 _ rfl; refine blk_put (cs := #[.int .i64 19, .int .i64 t192, .int .i64 0, .int .i64 0, .int .i64 0]) ?_ 2 _ rfl; refine blk_put (cs := #[.int .i64 19, .int .i64 0, .int .i64 0, .int .i64 0, .int .i64 0]) ?_ 1 _ rfl; refine blk_put (cs := #[.int .i64 0, .int .i64 0, .int .i64 0, .int .i64 0, .int .i64 0]) ?_ 0 _ rfl; exact BK191.out) Try.underlying41 rfl (by kernel_rfl)) rfl ?_
             exact ⟨by first | rfl | (simp [*] <;> rfl), by repeat (first | (with_reducible first | exact HI0.out | apply IsS104.alloc | apply IsS104.drewN | apply IsS104.drew | refine IsS104.far ?_ NB0_191.out _) | exact HI0.out), by repeat (first | (with_reducible first | exact HB.out | apply below_alloc | apply pw_below_drewN | apply below_drew1 | refine below_set ?_ (IsS104.ge HI0.out) | refine below_set ?_ GE191.out) | exact HB.out), by repeat (first | (with_reducible first | exact HK.out | apply KeepBut.set_ | apply keep_drewN | apply keep_drew | apply keep_alloc | refine keep_far ?_ GW191.out _) | exact HK.out)⟩
            ·rw [if_neg c89] at H
             have c89b0 : (t195 == 10) = false := beq_eq_false_iff_ne.mpr c89
             have c89b1 : (t195 != 10) = true := bne_iff_ne.mpr c89
             have HC96 := Aside0.mk H
             clear H
             go_upto_if 98 with (fail)
             go_cut [98] (fun v98 wc => ∃ (kq : Nat) (x98_95 : Bool), v98 = .bool x98_95 ∧ Aside0 (spec_l21Ins.j2 kq t192 t195 x98_95 s0_0 t196 t197 = some (r1, r2, r3, r4, r5, r6, r7)) ∧ Aside0 (kq ≤ kj18) ∧ Aside0 (wc.heap[gb191]? = some (.cells #[.int .i64 0, .int .i64 0, .int .i64 0, .int .i64 0, .int .i64 0] 41 (0, 0))) ∧ Aside0 (IsS104 w0 wc g s0_0 t196 t197) ∧ Aside0 (KeepBut w wc g none) ∧ Aside0 (Below w0.heap.size w0 wc))
             case first =>
              have H := HC96.out
              clear HC96
              by_cases c97 : t195 = 11
              ·rw [if_pos c97] at H
               have c97b0 : (t195 == 11) = true := beq_iff_eq.mpr c97
               have c97b1 : (t195 != 11) = false := bne_eq_false_iff_eq.mpr c97
               clear c97
               (first | rw [c97b0] | (simp only [i64_w, i32_w]; rw [c97b0]) | skip)
               have H' := Aside0.mk H
               clear H
               go_wp2
               go_meet
               case rel => exact ⟨_, ((t195 == 11)), (by first | rfl | (simp; done) | (simp [*]; done)), H', ⟨by have := HJ3.out; have := HJ18.out; first | omega | exact Nat.le_refl _⟩, ⟨by exact BK191.out⟩, ⟨by repeat (first | (with_reducible first | exact HI0.out | apply IsS104.alloc | apply IsS104.drewN | apply IsS104.drew | refine IsS104.far ?_ NB0_191.out _) | exact HI0.out)⟩, ⟨by repeat (first | (with_reducible first | exact HK.out | apply KeepBut.set_ | apply keep_drewN | apply keep_drew | apply keep_alloc | refine keep_far ?_ GW191.out _) | exact HK.out)⟩, ⟨by repeat (first | (with_reducible first | exact HB.out | apply below_alloc | apply pw_below_drewN | apply below_drew1 | refine below_set ?_ (IsS104.ge HI0.out) | refine below_set ?_ GE191.out) | exact HB.out)⟩⟩
              ·rw [if_neg c97] at H
               have c97b0 : (t195 == 11) = false := beq_eq_false_iff_ne.mpr c97
               have c97b1 : (t195 != 11) = true := bne_iff_ne.mpr c97
               (first | rw [c97b0] | (simp only [i64_w, i32_w]; rw [c97b0]) | skip)
               have H' := Aside0.mk H
               clear H
               go_wp2
               go_meet
               case rel => exact ⟨_, ((t195 == 12)), (by first | rfl | (simp; done) | (simp [*]; done)), H', ⟨by have := HJ3.out; have := HJ18.out; first | omega | exact Nat.le_refl _⟩, ⟨by exact BK191.out⟩, ⟨by repeat (first | (with_reducible first | exact HI0.out | apply IsS104.alloc | apply IsS104.drewN | apply IsS104.drew | refine IsS104.far ?_ NB0_191.out _) | exact HI0.out)⟩, ⟨by repeat (first | (with_reducible first | exact HK.out | apply KeepBut.set_ | apply keep_drewN | apply keep_drew | apply keep_alloc | refine keep_far ?_ GW191.out _) | exact HK.out)⟩, ⟨by repeat (first | (with_reducible first | exact HB.out | apply below_alloc | apply pw_below_drewN | apply below_drew1 | refine below_set ?_ (IsS104.ge HI0.out) | refine below_set ?_ GE191.out) | exact HB.out)⟩⟩
             case rest =>
              clear HC96
              try clear c1
              try clear c2
              try clear p2
              try clear q2
              try clear hx2
              try clear qi2
              try clear c3
              try clear c4
              try clear c5
              try clear c6
              try clear p6
              try clear c7
              try clear c8
              try clear c8b0
              try clear c8b1
              try clear c9
              try clear c9b0
              try clear c9b1
              try clear c10
              try clear c17
              try clear c20
              try clear c20b0
              try clear c20b1
              try clear c21
              try clear p25
              try clear q25
              try clear hx25
              try clear qi26
              try clear c28
              try clear c30
              try clear c30b0
              try clear c30b1
              try clear c37
              try clear c39
              try clear c39b0
              try clear c39b1
              try clear c46
              try clear c48
              try clear c48b0
              try clear c48b1
              try clear c55
              try clear c57
              try clear c57b0
              try clear c57b1
              try clear c61
              try clear c61b0
              try clear c62
              try clear c62b0
              try clear p64
              try clear c68
              try clear c69
              try clear c71
              try clear c71b0
              try clear c71b1
              try clear c73
              try clear c73b0
              try clear c74
              try clear c74b0
              try clear c81
              try clear c82
              try clear c89
              try clear c89b0
              try clear c89b1
              try clear c94
              try clear c97
              try clear c97b0
              try clear c97b1
              try clear hcz18_0
              try clear hcz18_1
              try clear hcz18_2
              try clear hcz18_3
              try clear hcz18_4
              try clear hcz29_0
              try clear hcz29_1
              try clear hcz29_2
              try clear hcz29_3
              try clear hcz29_4
              try clear hcz38_0
              try clear hcz38_1
              try clear hcz38_2
              try clear hcz38_3
              try clear hcz38_4
              try clear hcz47_0
              try clear hcz47_1
              try clear hcz47_2
              try clear hcz47_3
              try clear hcz47_4
              try clear hcz56_0
              try clear hcz56_1
              try clear hcz56_2
              try clear hcz56_3
              try clear hcz56_4
              try clear hcz70_0
              try clear hcz70_1
              try clear hcz70_2
              try clear hcz70_3
              try clear hcz70_4
              try clear hcz95_0
              try clear hcz95_1
              try clear hcz95_2
              try clear hcz95_3
              try clear hcz95_4
              try clear hfz18_0
              try clear hfz18_1
              try clear hfz18_2
              try clear hfz18_3
              try clear hfz18_4
              try clear hfz29_0
              try clear hfz29_1
              try clear hfz29_2
              try clear hfz29_3
              try clear hfz29_4
              try clear hfz38_0
              try clear hfz38_1
              try clear hfz38_2
              try clear hfz38_3
              try clear hfz38_4
              try clear hfz47_0
              try clear hfz47_1
              try clear hfz47_2
              try clear hfz47_3
              try clear hfz47_4
              try clear hfz56_0
              try clear hfz56_1
              try clear hfz56_2
              try clear hfz56_3
              try clear hfz56_4
              try clear hfz70_0
              try clear hfz70_1
              try clear hfz70_2
              try clear hfz70_3
              try clear hfz70_4
              try clear hfz95_0
              try clear hfz95_1
              try clear hfz95_2
              try clear hfz95_3
              try clear hfz95_4
              try clear hx255_0
              try clear p2
              try clear p255
              try clear p6
              try clear q255
              obtain ⟨kq, x98_95, rfl, HA, HJ95, BK191, HI0, HK, HB⟩ := hcut
              cases kq with
              | zero => exact absurd HA.out (by simp [spec_l21Ins.j2])
              | succ kj95 =>
               have H := HA.out
               clear HA
               simp only [spec_l21Ins.j2] at H
               by_cases c98 : x98_95 = true
               ·subst c98
                rw [if_pos rfl] at H
                replace H := Option.bind_eq_some_iff.mp H
                obtain ⟨⟨t272, t273, t274⟩, A990, H⟩ := H
                replace H : ((spec_func1.f s0_0 t273 t274).bind fun bt275 => ((some (([1, 2, 4, 8] : List Int) : List Int)).bind fun y278 => ((spec_l1Next.f s0_0 bt275.2.1 bt275.2.2 4).bind fun bt281 => (if 0 ≤ bt281.1 then (if bt281.1 < (y278.length : Int) then ((some (([4096, 4100, 5000, 8, (-8), (-16), 1048576] : List Int) : List Int)).bind fun y285 => ((spec_l1Next.f s0_0 bt281.2.1 bt281.2.2 7).bind fun bt288 => (if 0 ≤ bt288.1 then (if bt288.1 < (y285.length : Int) then (some (wrap64 (20 + t272), t192, bt275.1, rd y278 bt281.1, rd y285 bt288.1, bt288.2.1, bt288.2.2)) else (none)) else (none)))) else (none)) else (none))))) = some (r1, r2, r3, r4, r5, r6, r7) := H
                have A99 := Aside0.mk A990
                clear A990
                replace H := Option.bind_eq_some_iff.mp H
                obtain ⟨⟨t275, t276, t277⟩, A1000, H⟩ := H
                replace H : ((some (([1, 2, 4, 8] : List Int) : List Int)).bind fun y278 => ((spec_l1Next.f s0_0 t276 t277 4).bind fun bt281 => (if 0 ≤ bt281.1 then (if bt281.1 < (y278.length : Int) then ((some (([4096, 4100, 5000, 8, (-8), (-16), 1048576] : List Int) : List Int)).bind fun y285 => ((spec_l1Next.f s0_0 bt281.2.1 bt281.2.2 7).bind fun bt288 => (if 0 ≤ bt288.1 then (if bt288.1 < (y285.length : Int) then (some (wrap64 (20 + t272), t192, t275, rd y278 bt281.1, rd y285 bt288.1, bt288.2.1, bt288.2.2)) else (none)) else (none)))) else (none)) else (none)))) = some (r1, r2, r3, r4, r5, r6, r7) := H
                have A100 := Aside0.mk A1000
                clear A1000
                obtain ⟨y278, hy278⟩ : ∃ y_ : List Int, y_ = (([1, 2, 4, 8] : List Int)) := ⟨_, rfl⟩
                replace H : ((spec_l1Next.f s0_0 t276 t277 4).bind fun bt281 => (if 0 ≤ bt281.1 then (if bt281.1 < (y278.length : Int) then ((some (([4096, 4100, 5000, 8, (-8), (-16), 1048576] : List Int) : List Int)).bind fun y285 => ((spec_l1Next.f s0_0 bt281.2.1 bt281.2.2 7).bind fun bt288 => (if 0 ≤ bt288.1 then (if bt288.1 < (y285.length : Int) then (some (wrap64 (20 + t272), t192, t275, rd y278 bt281.1, rd y285 bt288.1, bt288.2.1, bt288.2.2)) else (none)) else (none)))) else (none)) else (none))) = some (r1, r2, r3, r4, r5, r6, r7) := by first | (rw [hy278]; with_reducible exact H) | (have H2_ := (Option.bind_some _ _).symm.trans H; rw [hy278]; with_reducible exact H2_) | (have H2_ := (Option.bind_some _ _).symm.trans H; with_reducible exact H2_) | with_reducible exact H | (rw [hy278]; exact H) | exact H
                have Ny278 := Aside0.mk hy278
                clear hy278
                replace H := Option.bind_eq_some_iff.mp H
                obtain ⟨⟨t281, t282, t283⟩, A1010, H⟩ := H
                replace H : (if 0 ≤ t281 then (if t281 < (y278.length : Int) then ((some (([4096, 4100, 5000, 8, (-8), (-16), 1048576] : List Int) : List Int)).bind fun y285 => ((spec_l1Next.f s0_0 t282 t283 7).bind fun bt288 => (if 0 ≤ bt288.1 then (if bt288.1 < (y285.length : Int) then (some (wrap64 (20 + t272), t192, t275, rd y278 t281, rd y285 bt288.1, bt288.2.1, bt288.2.2)) else (none)) else (none)))) else (none)) else (none)) = some (r1, r2, r3, r4, r5, r6, r7) := H
                have A101 := Aside0.mk A1010
                clear A1010
                by_cases c102 : 0 ≤ t281
                ·rw [if_pos c102] at H
                 have c102b0 : decide (0 ≤ t281) = true := decide_eq_true c102
                 clear c102
                 by_cases c103 : t281 < (y278.length : Int)
                 ·rw [if_pos c103] at H
                  have c103b0 : decide (t281 < (y278.length : Int)) = true := decide_eq_true c103
                  clear c103
                  obtain ⟨y285, hy285⟩ : ∃ y_ : List Int, y_ = (([4096, 4100, 5000, 8, (-8), (-16), 1048576] : List Int)) := ⟨_, rfl⟩
                  replace H : ((spec_l1Next.f s0_0 t282 t283 7).bind fun bt288 => (if 0 ≤ bt288.1 then (if bt288.1 < (y285.length : Int) then (some (wrap64 (20 + t272), t192, t275, rd y278 t281, rd y285 bt288.1, bt288.2.1, bt288.2.2)) else (none)) else (none))) = some (r1, r2, r3, r4, r5, r6, r7) := by first | (rw [hy285]; with_reducible exact H) | (have H2_ := (Option.bind_some _ _).symm.trans H; rw [hy285]; with_reducible exact H2_) | (have H2_ := (Option.bind_some _ _).symm.trans H; with_reducible exact H2_) | with_reducible exact H | (rw [hy285]; exact H) | exact H
                  have Ny285 := Aside0.mk hy285
                  clear hy285
                  replace H := Option.bind_eq_some_iff.mp H
                  obtain ⟨⟨t288, t289, t290⟩, A1040, H⟩ := H
                  replace H : (if 0 ≤ t288 then (if t288 < (y285.length : Int) then (some (wrap64 (20 + t272), t192, t275, rd y278 t281, rd y285 t288, t289, t290)) else (none)) else (none)) = some (r1, r2, r3, r4, r5, r6, r7) := H
                  have A104 := Aside0.mk A1040
                  clear A1040
                  by_cases c105 : 0 ≤ t288
                  ·rw [if_pos c105] at H
                   have c105b0 : decide (0 ≤ t288) = true := decide_eq_true c105
                   clear c105
                   by_cases c106 : t288 < (y285.length : Int)
                   ·rw [if_pos c106] at H
                    have c106b0 : decide (t288 < (y285.length : Int)) = true := decide_eq_true c106
                    clear c106
                    simp only [Option.some.injEq, Prod.mk.injEq] at H
                    obtain ⟨rfl, rfl, rfl, rfl, rfl, rfl, rfl⟩ := H
                    try go_wp2
                    have pi284 : (0 ≤ (t281 : Int)) = True := eq_true (of_decide_eq_true (by first | (with_reducible assumption) | assumption))
                    have qi284 : (t281 < (y278.length : Int)) = True := eq_true (of_decide_eq_true (by first | (with_reducible assumption) | assumption))
                    have pi291 : (0 ≤ (t288 : Int)) = True := eq_true (of_decide_eq_true (by first | (with_reducible assumption) | assumption))
                    have qi291 : (t288 < (y285.length : Int)) = True := eq_true (of_decide_eq_true (by first | (with_reducible assumption) | assumption))
                    have n0_ := Aside0.mk (blk_drew BK191.out)
                    have n1_ := Aside0.mk (IsS104.drew HI0.out)
                    have n2_ := Aside0.mk (keep_drew HK.out)
                    have n3_ := Aside0.mk (below_drew1 HB.out)
                    clear BK191
                    clear HI0
                    clear HK
                    clear HB
                    have BK191 := n0_
                    have HI0 := n1_
                    have HK := n2_
                    have HB := n3_
                    clear n0_ n1_ n2_ n3_
                    refine start_ (n := 18) (S := fun w' => True) (ds := []) #[false, false, false, false, false, false, false, false, false, false, false, false, false, false, false, false, false, false] (by kernel_rfl) rfl rfl trivial (fun hHeld => ?_); refine with_tabW spec_l21Ins.tab24 spec_l21Ins.bits24 (fun HT_ HW_ => ?_)
                    generalize wc.drew = w107 at BK191 HI0 HK HB hHeld ⊢
                    refine pure_ (i := 0) (N := some 101) (v := ?_) (a' := ?_) #[true, false, false, false, false, false, false, false, false, false, false, false, false, false, false, false, false, false] rfl rfl (any_of HT_.out (by kernel_rfl)) (fun _ _ _ h => h) (Or.inl ⟨by rfl, ?_⟩) ?_ ?_
                    rotate_left
                    ·intro w'
                     go_simp
                     with_reducible rfl
                    rotate_left
                    ·simp only [Act.put, List.setIfInBounds_toArray, List.set_cons_zero, List.set_cons_succ, i64_w, i32_w]
                     rfl
                    refine pure_ (i := 3) (N := some 104) (v := ?_) (a' := ?_) #[true, false, false, true, false, false, false, false, false, false, false, false, false, false, false, false, false, false] rfl rfl (any_of HT_.out (by kernel_rfl)) (fun _ _ _ h => h) (Or.inl ⟨by rfl, ?_⟩) ?_ ?_
                    rotate_left
                    ·intro w'
                     go_simp
                     with_reducible rfl
                    rotate_left
                    ·simp only [Act.put, List.setIfInBounds_toArray, List.set_cons_zero, List.set_cons_succ, i64_w, i32_w]
                     rfl
                    refine pure_ (i := 4) (N := some 105) (v := ?_) (a' := ?_) #[true, false, false, true, true, false, false, false, false, false, false, false, false, false, false, false, false, false] rfl rfl (any_of HT_.out (by kernel_rfl)) (fun _ _ _ h => h) (Or.inl ⟨by rfl, ?_⟩) ?_ ?_
                    rotate_left
                    ·intro w'
                     go_simp
                     with_reducible rfl
                    rotate_left
                    ·simp only [Act.put, List.setIfInBounds_toArray, List.set_cons_zero, List.set_cons_succ, i64_w, i32_w]
                     rfl
                    refine pure_ (i := 7) (N := some 108) (v := ?_) (a' := ?_) #[true, false, false, true, true, false, false, true, false, false, false, false, false, false, false, false, false, false] rfl rfl (any_of HT_.out (by kernel_rfl)) (fun _ _ _ h => h) (Or.inl ⟨by rfl, ?_⟩) ?_ ?_
                    rotate_left
                    ·intro w'
                     go_simp
                     with_reducible rfl
                    rotate_left
                    ·simp only [Act.put, List.setIfInBounds_toArray, List.set_cons_zero, List.set_cons_succ, i64_w, i32_w]
                     rfl
                    refine pure_ (i := 12) (N := some 113) (v := ?_) (a' := ?_) #[true, false, false, true, true, false, false, true, false, false, false, false, true, false, false, false, false, false] rfl rfl (any_of HT_.out (by kernel_rfl)) (fun _ _ _ h => h) (Or.inl ⟨by rfl, ?_⟩) ?_ ?_
                    rotate_left
                    ·intro w'
                     go_simp
                     with_reducible rfl
                    rotate_left
                    ·simp only [Act.put, List.setIfInBounds_toArray, List.set_cons_zero, List.set_cons_succ, i64_w, i32_w]
                     rfl
                    refine inv_at [1, 2, 5, 6, 8, 9, 10, 11, 13, 14, 15, 16, 17] (fun a0_ b a w' => ∃ (v279 : Value) (adz_v279 : Addr) (v286 : Value) (adz_v286 : Addr) (m9_ : Value) (m14_ : Value), a = putSel a0_ b [(1, 102, .int .i64 t272), (2, 103, .int .i64 (wrap64 (20 + t272))), (5, 106, .int .i64 t275), (6, 107, v279), (8, 109, .int .i64 t281), (9, 110, m9_), (10, 111, .int .i64 (rd y278 t281)), (11, 112, v286), (13, 114, .int .i64 t288), (14, 115, m14_), (15, 116, .int .i64 (rd y285 t288)), (16, 117, .agg #[.int .i64 (wrap64 (20 + t272)), .int .i64 t192, .int .i64 t275, .int .i64 (rd y278 t281), .int .i64 (rd y285 t288)])] ∧ (b 17 = false → w'.heap[gb191]? = some (.cells #[.int .i64 0, .int .i64 0, .int .i64 0, .int .i64 0, .int .i64 0] 41 (0, 0))) ∧ (b 1 = false → IsS104 w0 w' g s0_0 t196 t197) ∧ (KeepBut w w' g none) ∧ (Below w0.heap.size w0 w') ∧ (b 1 = true → b 5 = false → IsS104 w0 w' g s0_0 t273 t274) ∧ (b 5 = true → b 8 = false → IsS104 w0 w' g s0_0 t276 t277) ∧ (b 6 = true → Kd.R (Kd.int .i64) 2 w' w.heap.size (fun _ => True) v279 y278) ∧ (b 6 = true → ∃ c_, (v279 : Value) = .slice (some adz_v279) y278.length c_) ∧ (b 8 = true → b 13 = false → IsS104 w0 w' g s0_0 t282 t283) ∧ (b 11 = true → Kd.R (Kd.int .i64) 2 w' w.heap.size (fun _ => True) v286 y285) ∧ (b 11 = true → ∃ c_, (v286 : Value) = .slice (some adz_v286) y285.length c_) ∧ (b 13 = true → IsS104 w0 w' g s0_0 t289 t290) ∧ (b 17 = true → w'.heap[gb191]? = some (.cells #[.int .i64 (wrap64 (20 + t272)), .int .i64 t192, .int .i64 t275, .int .i64 (rd y278 t281), .int .i64 (rd y285 t288)] 41 (0, 0))) ∧ (b 9 = true → (m9_ : Value) = .pointer (some (adz_v279.add (t281).toNat))) ∧ (b 14 = true → (m14_ : Value) = .pointer (some (adz_v286.add (t288).toNat)))) HT_.out HW_.out (by kernel_rfl) (by kernel_rfl) ?_ ?_ ?_
                    ·exact ⟨.bool false, ⟨0, 0, none⟩, .bool false, ⟨0, 0, none⟩, .bool false, .bool false, by simp only [putSel, Bool.false_eq_true, if_false], fun _ => BK191.out, fun _ => HI0.out, HK.out, HB.out, fun h_ => absurd h_ (by decide), fun h_ => absurd h_ (by decide), fun h_ => absurd h_ (by decide), fun h_ => absurd h_ (by decide), fun h_ => absurd h_ (by decide), fun h_ => absurd h_ (by decide), fun h_ => absurd h_ (by decide), fun h_ => absurd h_ (by decide), fun h_ => absurd h_ (by decide), fun h_ => absurd h_ (by decide), fun h_ => absurd h_ (by decide)⟩
                    ·skip
                     clear BK191 HB HI0 HK
                     refine steps_cons ?_ ?_
                     ·rintro b a w' ⟨v279, adz_v279, v286, adz_v286, m9_, m14_, ha, Q_BK191, Q_HI0, Q_HK, Q_HB, Q_HI0_e1, Q_HI0_e5, Q_HO280, Q_HA_HO280, Q_HI0_e8, Q_HO287, Q_HA_HO287, Q_HI0_e13, Q_BK191_e17, Q_X9_, Q_X14_⟩ hb_ hon hoff
                      refine ⟨_, rfl, fun K hK => ?_⟩
                      have e101 : a.tmps[101]? = some (.pointer (some ⟨g, 0, none⟩)) := by rw [ha]; exact (putSel_off rfl).trans rfl
                      replace ha := Aside0.mk ha
                      have BK191 := Aside0.mk (Q_BK191 (hoff 17 (by kernel_rfl)))
                      have HI0 := Aside0.mk (Q_HI0 hb_)
                      have HK := Aside0.mk Q_HK
                      have HB := Aside0.mk Q_HB
                      refine goes_ Try.func68 (by kernel_rfl) rfl #[.pointer (some ⟨g, 0, none⟩), .int .i64 2] (by rfl) rfl rfl (by first | (simp only [List.map_toArray, List.map_cons, List.map_nil, Act.eval, Array.getD_eq_getD_getElem?, Option.getD_some, e101]; done) | (simp only [List.map_toArray, List.map_cons, List.map_nil, Act.eval, Array.getD_eq_getD_getElem?, Option.getD_some, e101]; rfl)) ?_
                      with_reducible refine (spec_l1Next.calls g s0_0 t196 t197 2 t272 t273 t274 w0 _ ?side1 ?side2 A99.out).mono ?_
                      (case side1 => repeat (first | (with_reducible first | exact HI0.out | apply IsS104.alloc | apply IsS104.drewN | apply IsS104.drew | refine IsS104.far ?_ NB0_191.out _) | exact HI0.out))
                      (case side2 => repeat (first | (with_reducible first | exact HB.out | apply below_alloc | apply pw_below_drewN | apply below_drew1 | refine below_set ?_ (IsS104.ge HI0.out) | refine below_set ?_ GE191.out) | exact HB.out))
                      rintro e w108 ⟨rfl, hi, hb, hk⟩
                      refine ⟨_, rfl, ?_⟩
                      have n0_ := Aside0.mk (KeepBut.blk hk (g' := gb191) (o := .cells #[.int .i64 0, .int .i64 0, .int .i64 0, .int .i64 0, .int .i64 0] 41 (0, 0)) (by exact BK191.out) NB191_0.out (by simp))
                      have n1_ := Aside0.mk (KeepBut.trans (by repeat (first | (with_reducible first | exact HK.out | apply KeepBut.set_ | apply keep_drewN | apply keep_drew | apply keep_alloc | refine keep_far ?_ GW191.out _) | exact HK.out)) hk (.inl rfl))
                      have n2_ := Aside0.mk (hb)
                      have n3_ := Aside0.mk (hi)
                      have z_HO280 := fun (h0_ : b 6 = true) => (show Kd.R (Kd.int .i64) 2 w108 w.heap.size (fun _ => True) v279 y278 from by first | exact (Kd.R_mono (Kd.R_keep (IsS104.apart (show IsS104 w0 _ g s0_0 t196 t197 from by repeat (first | (with_reducible first | exact HI0.out | apply IsS104.alloc | apply IsS104.drewN | apply IsS104.drew | refine IsS104.far ?_ NB0_191.out _) | exact HI0.out)) (by exact (Q_HO280 h0_)) (by decide)) hk (fun _ h => h.2)) (fun _ h => h.1)) | exact Kd.R_mono (Kd.R_mono (Kd.R_keep (IsS104.apart (show IsS104 w0 _ g s0_0 t196 t197 from by repeat (first | (with_reducible first | exact HI0.out | apply IsS104.alloc | apply IsS104.drewN | apply IsS104.drew | refine IsS104.far ?_ NB0_191.out _) | exact HI0.out)) (by exact (Q_HO280 h0_)) (by decide)) hk (fun _ h => h.2)) (fun _ h => h.1)) (fun _ h_ => by first | trivial | exact h_ | exact h_.1))
                      have z_HO287 := fun (h0_ : b 11 = true) => (show Kd.R (Kd.int .i64) 2 w108 w.heap.size (fun _ => True) v286 y285 from by first | exact (Kd.R_mono (Kd.R_keep (IsS104.apart (show IsS104 w0 _ g s0_0 t196 t197 from by repeat (first | (with_reducible first | exact HI0.out | apply IsS104.alloc | apply IsS104.drewN | apply IsS104.drew | refine IsS104.far ?_ NB0_191.out _) | exact HI0.out)) (by exact (Q_HO287 h0_)) (by decide)) hk (fun _ h => h.2)) (fun _ h => h.1)) | exact Kd.R_mono (Kd.R_mono (Kd.R_keep (IsS104.apart (show IsS104 w0 _ g s0_0 t196 t197 from by repeat (first | (with_reducible first | exact HI0.out | apply IsS104.alloc | apply IsS104.drewN | apply IsS104.drew | refine IsS104.far ?_ NB0_191.out _) | exact HI0.out)) (by exact (Q_HO287 h0_)) (by decide)) hk (fun _ h => h.2)) (fun _ h => h.1)) (fun _ h_ => by first | trivial | exact h_ | exact h_.1))
                      clear BK191
                      clear HK
                      clear HB
                      clear HI0
                      have BK191 := n0_
                      have HK := n1_
                      have HB := n2_
                      have HI0 := n3_
                      clear n0_ n1_ n2_ n3_
                      (try clear hb)
                      (try clear hb2)
                      (try clear hk)
                      (try clear hi)
                      refine hK.out _ _ ⟨v279, adz_v279, v286, adz_v286, m9_, m14_, (by rw [ha.out]; exact putSel_upk 0 hb_ rfl rfl rfl), fun _ => (by exact BK191.out), fun h0_ => absurd ((up_self b 1).symm.trans h0_) (by decide), (by repeat (first | (with_reducible first | exact HK.out | apply KeepBut.set_ | apply keep_drewN | apply keep_drew | apply keep_alloc | refine keep_far ?_ GW191.out _) | exact HK.out)), (by repeat (first | (with_reducible first | exact HB.out | apply below_alloc | apply pw_below_drewN | apply below_drew1 | refine below_set ?_ (IsS104.ge HI0.out) | refine below_set ?_ GE191.out) | exact HB.out)), fun _ _ => (by repeat (first | (with_reducible first | exact HI0.out | apply IsS104.alloc | apply IsS104.drewN | apply IsS104.drew | refine IsS104.far ?_ NB0_191.out _) | exact HI0.out)), fun h0_ _ => absurd ((hoff 5 (by kernel_rfl)).symm.trans h0_) (by decide), z_HO280, Q_HA_HO280, fun h0_ _ => absurd ((hoff 8 (by kernel_rfl)).symm.trans h0_) (by decide), z_HO287, Q_HA_HO287, fun h0_ => absurd ((hoff 13 (by kernel_rfl)).symm.trans h0_) (by decide), fun h0_ => absurd ((hoff 17 (by kernel_rfl)).symm.trans h0_) (by decide), fun h0_ => absurd ((hoff 9 (by kernel_rfl)).symm.trans h0_) (by decide), fun h0_ => absurd ((hoff 14 (by kernel_rfl)).symm.trans h0_) (by decide)⟩
                     refine steps_cons ?_ ?_
                     ·rintro b a w' ⟨v279, adz_v279, v286, adz_v286, m9_, m14_, ha, Q_BK191, Q_HI0, Q_HK, Q_HB, Q_HI0_e1, Q_HI0_e5, Q_HO280, Q_HA_HO280, Q_HI0_e8, Q_HO287, Q_HA_HO287, Q_HI0_e13, Q_BK191_e17, Q_X9_, Q_X14_⟩ hb_ hon hoff
                      refine ⟨_, rfl, fun K hK => ?_⟩
                      have e102 : a.tmps[102]? = some (.int .i64 t272) := by rw [ha]; exact putSel_on (e := (1, 102, .int .i64 t272)) 0 rfl rfl (hon 1 (by kernel_rfl)) rfl
                      replace ha := Aside0.mk ha
                      have BK191 := Aside0.mk (Q_BK191 (hoff 17 (by kernel_rfl)))
                      have HK := Aside0.mk Q_HK
                      have HB := Aside0.mk Q_HB
                      refine value_ (w1 := w') (v := .int .i64 (wrap64 (20 + t272))) (by rfl) rfl ?_ ?_
                      ·go_simp
                       (try simp only [i64_w])
                       try rfl
                      refine hK.out _ _ ⟨v279, adz_v279, v286, adz_v286, m9_, m14_, (by rw [ha.out]; exact putSel_upk 1 hb_ rfl rfl rfl), Q_BK191, fun h0_ => absurd ((hon 1 (by kernel_rfl)).symm.trans h0_) (by decide), Q_HK, Q_HB, Q_HI0_e1, Q_HI0_e5, Q_HO280, Q_HA_HO280, Q_HI0_e8, Q_HO287, Q_HA_HO287, Q_HI0_e13, fun h0_ => absurd ((hoff 17 (by kernel_rfl)).symm.trans h0_) (by decide), Q_X9_, Q_X14_⟩
                     refine steps_cons ?_ ?_
                     ·rintro b a w' ⟨v279, adz_v279, v286, adz_v286, m9_, m14_, ha, Q_BK191, Q_HI0, Q_HK, Q_HB, Q_HI0_e1, Q_HI0_e5, Q_HO280, Q_HA_HO280, Q_HI0_e8, Q_HO287, Q_HA_HO287, Q_HI0_e13, Q_BK191_e17, Q_X9_, Q_X14_⟩ hb_ hon hoff
                      refine ⟨_, rfl, fun K hK => ?_⟩
                      have e105 : a.tmps[105]? = some (.pointer (some ⟨g, 0, none⟩)) := by rw [ha]; exact (putSel_off rfl).trans rfl
                      replace ha := Aside0.mk ha
                      have BK191 := Aside0.mk (Q_BK191 (hoff 17 (by kernel_rfl)))
                      have HK := Aside0.mk Q_HK
                      have HB := Aside0.mk Q_HB
                      have HI0 := Aside0.mk (Q_HI0_e1 (hon 1 (by kernel_rfl)) hb_)
                      refine goes_ Try.func81 (by kernel_rfl) rfl #[.pointer (some ⟨g, 0, none⟩)] (by rfl) rfl rfl (by first | (simp only [List.map_toArray, List.map_cons, List.map_nil, Act.eval, Array.getD_eq_getD_getElem?, Option.getD_some, e105]; done) | (simp only [List.map_toArray, List.map_cons, List.map_nil, Act.eval, Array.getD_eq_getD_getElem?, Option.getD_some, e105]; rfl)) ?_
                      with_reducible refine (spec_func1.calls g s0_0 t273 t274 t275 t276 t277 w0 _ ?side1 ?side2 A100.out).mono ?_
                      (case side1 => repeat (first | (with_reducible first | exact HI0.out | apply IsS104.alloc | apply IsS104.drewN | apply IsS104.drew | refine IsS104.far ?_ NB0_191.out _) | exact HI0.out))
                      (case side2 => repeat (first | (with_reducible first | exact HB.out | apply below_alloc | apply pw_below_drewN | apply below_drew1 | refine below_set ?_ (IsS104.ge HI0.out) | refine below_set ?_ GE191.out) | exact HB.out))
                      rintro e w110 ⟨rfl, hi, hb, hk⟩
                      refine ⟨_, rfl, ?_⟩
                      have n0_ := Aside0.mk (KeepBut.blk hk (g' := gb191) (o := .cells #[.int .i64 0, .int .i64 0, .int .i64 0, .int .i64 0, .int .i64 0] 41 (0, 0)) (by exact BK191.out) NB191_0.out (by simp))
                      have n1_ := Aside0.mk (KeepBut.trans (by repeat (first | (with_reducible first | exact HK.out | apply KeepBut.set_ | apply keep_drewN | apply keep_drew | apply keep_alloc | refine keep_far ?_ GW191.out _) | exact HK.out)) hk (.inl rfl))
                      have n2_ := Aside0.mk (hb)
                      have n3_ := Aside0.mk (hi)
                      have z_HO280 := fun (h0_ : b 6 = true) => (show Kd.R (Kd.int .i64) 2 w110 w.heap.size (fun _ => True) v279 y278 from by first | exact (Kd.R_mono (Kd.R_keep (IsS104.apart (show IsS104 w0 _ g s0_0 t273 t274 from by repeat (first | (with_reducible first | exact HI0.out | apply IsS104.alloc | apply IsS104.drewN | apply IsS104.drew | refine IsS104.far ?_ NB0_191.out _) | exact HI0.out)) (by exact (Q_HO280 h0_)) (by decide)) hk (fun _ h => h.2)) (fun _ h => h.1)) | exact Kd.R_mono (Kd.R_mono (Kd.R_keep (IsS104.apart (show IsS104 w0 _ g s0_0 t273 t274 from by repeat (first | (with_reducible first | exact HI0.out | apply IsS104.alloc | apply IsS104.drewN | apply IsS104.drew | refine IsS104.far ?_ NB0_191.out _) | exact HI0.out)) (by exact (Q_HO280 h0_)) (by decide)) hk (fun _ h => h.2)) (fun _ h => h.1)) (fun _ h_ => by first | trivial | exact h_ | exact h_.1))
                      have z_HO287 := fun (h0_ : b 11 = true) => (show Kd.R (Kd.int .i64) 2 w110 w.heap.size (fun _ => True) v286 y285 from by first | exact (Kd.R_mono (Kd.R_keep (IsS104.apart (show IsS104 w0 _ g s0_0 t273 t274 from by repeat (first | (with_reducible first | exact HI0.out | apply IsS104.alloc | apply IsS104.drewN | apply IsS104.drew | refine IsS104.far ?_ NB0_191.out _) | exact HI0.out)) (by exact (Q_HO287 h0_)) (by decide)) hk (fun _ h => h.2)) (fun _ h => h.1)) | exact Kd.R_mono (Kd.R_mono (Kd.R_keep (IsS104.apart (show IsS104 w0 _ g s0_0 t273 t274 from by repeat (first | (with_reducible first | exact HI0.out | apply IsS104.alloc | apply IsS104.drewN | apply IsS104.drew | refine IsS104.far ?_ NB0_191.out _) | exact HI0.out)) (by exact (Q_HO287 h0_)) (by decide)) hk (fun _ h => h.2)) (fun _ h => h.1)) (fun _ h_ => by first | trivial | exact h_ | exact h_.1))
                      clear BK191
                      clear HK
                      clear HB
                      clear HI0
                      have BK191 := n0_
                      have HK := n1_
                      have HB := n2_
                      have HI0 := n3_
                      clear n0_ n1_ n2_ n3_
                      (try clear hb)
                      (try clear hb2)
                      (try clear hk)
                      (try clear hi)
                      refine hK.out _ _ ⟨v279, adz_v279, v286, adz_v286, m9_, m14_, (by rw [ha.out]; exact putSel_upk 2 hb_ rfl rfl rfl), fun _ => (by exact BK191.out), fun h0_ => absurd ((hon 1 (by kernel_rfl)).symm.trans h0_) (by decide), (by repeat (first | (with_reducible first | exact HK.out | apply KeepBut.set_ | apply keep_drewN | apply keep_drew | apply keep_alloc | refine keep_far ?_ GW191.out _) | exact HK.out)), (by repeat (first | (with_reducible first | exact HB.out | apply below_alloc | apply pw_below_drewN | apply below_drew1 | refine below_set ?_ (IsS104.ge HI0.out) | refine below_set ?_ GE191.out) | exact HB.out)), fun _ h1_ => absurd ((up_self b 5).symm.trans h1_) (by decide), fun _ _ => (by repeat (first | (with_reducible first | exact HI0.out | apply IsS104.alloc | apply IsS104.drewN | apply IsS104.drew | refine IsS104.far ?_ NB0_191.out _) | exact HI0.out)), z_HO280, Q_HA_HO280, fun h0_ _ => absurd ((hoff 8 (by kernel_rfl)).symm.trans h0_) (by decide), z_HO287, Q_HA_HO287, fun h0_ => absurd ((hoff 13 (by kernel_rfl)).symm.trans h0_) (by decide), fun h0_ => absurd ((hoff 17 (by kernel_rfl)).symm.trans h0_) (by decide), fun h0_ => absurd ((hoff 9 (by kernel_rfl)).symm.trans h0_) (by decide), fun h0_ => absurd ((hoff 14 (by kernel_rfl)).symm.trans h0_) (by decide)⟩
                     refine steps_cons ?_ ?_
                     ·rintro b a w' ⟨v279, adz_v279, v286, adz_v286, m9_, m14_, ha, Q_BK191, Q_HI0, Q_HK, Q_HB, Q_HI0_e1, Q_HI0_e5, Q_HO280, Q_HA_HO280, Q_HI0_e8, Q_HO287, Q_HA_HO287, Q_HI0_e13, Q_BK191_e17, Q_X9_, Q_X14_⟩ hb_ hon hoff
                      refine ⟨_, rfl, fun K hK => ?_⟩
                      replace ha := Aside0.mk ha
                      have BK191 := Aside0.mk (Q_BK191 (hoff 17 (by kernel_rfl)))
                      have HK := Aside0.mk Q_HK
                      have HB := Aside0.mk Q_HB
                      refine Kd.R_lit_step (Kd.int .i64) _ 2 ?hg (N := 107) ?hd (xs := ([1, 2, 4, 8] : List Int)) (inner := [.int .i64 1, .int .i64 2, .int .i64 4, .int .i64 8]) (ok := fun _ => True) (okp := fun _ => True) ?hr ?hp (fun _ hk => hk) trivial (Below.refl _ _) (Nat.le_refl _) (by simp) ?_; (case hd => rfl); (case hg => rfl); (case hr => first | (go_simp; done) | (go_simp; rfl)); (case hp => exact (Reps.one (show Kd.M (Kd.int .i64) _ _ _ 1 [.int .i64 1] from rfl) (Reps.one (show Kd.M (Kd.int .i64) _ _ _ 2 [.int .i64 2] from rfl) (Reps.one (show Kd.M (Kd.int .i64) _ _ _ 4 [.int .i64 4] from rfl) (Reps.one (show Kd.M (Kd.int .i64) _ _ _ 8 [.int .i64 8] from rfl) (Reps.none _ _))))))
                      intro v279 w108 ho109 hb hg_ hnew_
                      clear hg_ hnew_
                      (first | rw [← Ny278.out] at ho109 | (simp only [Int.reduceToNat] at ho109; rw [← Ny278.out] at ho109))
                      have n0_ := Aside0.mk (Kd.R_lower ho109 (keep_size (w := w) (g := g) (row := none) (by repeat (first | (with_reducible first | exact HK.out | apply KeepBut.set_ | apply keep_drewN | apply keep_drew | apply keep_alloc | refine keep_far ?_ GW191.out _) | exact HK.out))))
                      have n1_ := Aside0.mk (blk_below (g := gb191) (o := .cells #[.int .i64 0, .int .i64 0, .int .i64 0, .int .i64 0, .int .i64 0] 41 (0, 0)) (by exact BK191.out) hb)
                      have n3_ := Aside0.mk (KeepBut.trans (by repeat (first | (with_reducible first | exact HK.out | apply KeepBut.set_ | apply keep_drewN | apply keep_drew | apply keep_alloc | refine keep_far ?_ GW191.out _) | exact HK.out)) (KeepBut.of_below hb g none) (.inl rfl))
                      have n4_ := Aside0.mk (below_step (by repeat (first | (with_reducible first | exact HB.out | apply below_alloc | apply pw_below_drewN | apply below_drew1 | refine below_set ?_ GE191.out) | exact HB.out)) hb)
                      have z_HI0 := fun (h0_ : b 1 = false) => (show IsS104 w0 w108 g s0_0 t196 t197 from by first | exact (IsS104.below (by repeat (first | (with_reducible first | exact (Q_HI0 h0_) | apply IsS104.alloc | apply IsS104.drewN | apply IsS104.drew | refine IsS104.far ?_ NB0_191.out _) | exact (Q_HI0 h0_))) hb))
                      have z_HI0_e1 := fun (h0_ : b 1 = true) (h1_ : b 5 = false) => (show IsS104 w0 w108 g s0_0 t273 t274 from by first | exact (IsS104.below (by repeat (first | (with_reducible first | exact (Q_HI0_e1 h0_ h1_) | apply IsS104.alloc | apply IsS104.drewN | apply IsS104.drew | refine IsS104.far ?_ NB0_191.out _) | exact (Q_HI0_e1 h0_ h1_))) hb))
                      have z_HI0_e5 := fun (h0_ : b 5 = true) (h1_ : b 8 = false) => (show IsS104 w0 w108 g s0_0 t276 t277 from by first | exact (IsS104.below (by repeat (first | (with_reducible first | exact (Q_HI0_e5 h0_ h1_) | apply IsS104.alloc | apply IsS104.drewN | apply IsS104.drew | refine IsS104.far ?_ NB0_191.out _) | exact (Q_HI0_e5 h0_ h1_))) hb))
                      have z_HI0_e8 := fun (h0_ : b 8 = true) (h1_ : b 13 = false) => (show IsS104 w0 w108 g s0_0 t282 t283 from by first | exact (IsS104.below (by repeat (first | (with_reducible first | exact (Q_HI0_e8 h0_ h1_) | apply IsS104.alloc | apply IsS104.drewN | apply IsS104.drew | refine IsS104.far ?_ NB0_191.out _) | exact (Q_HI0_e8 h0_ h1_))) hb))
                      have z_HO287 := fun (h0_ : b 11 = true) => (show Kd.R (Kd.int .i64) 2 w108 w.heap.size (fun _ => True) v286 y285 from by first | exact (Kd.R_elder' (by exact (Q_HO287 h0_)) (Kd.R_base ho109) hb) | exact Kd.R_mono (Kd.R_elder' (by exact (Q_HO287 h0_)) (Kd.R_base ho109) hb) (fun _ h_ => by first | trivial | exact h_ | exact h_.1))
                      have z_HI0_e13 := fun (h0_ : b 13 = true) => (show IsS104 w0 w108 g s0_0 t289 t290 from by first | exact (IsS104.below (by repeat (first | (with_reducible first | exact (Q_HI0_e13 h0_) | apply IsS104.alloc | apply IsS104.drewN | apply IsS104.drew | refine IsS104.far ?_ NB0_191.out _) | exact (Q_HI0_e13 h0_))) hb))
                      clear BK191
                      clear HK
                      clear HB
                      have HO280 := n0_
                      have BK191 := n1_
                      have HK := n3_
                      have HB := n4_
                      clear n0_ n1_ n3_ n4_
                      clear hb ho109
                      obtain ⟨Ao110, co110, eo110⟩ := Kd.R_slice HO280.out
                      subst eo110
                      obtain ⟨ado110, fo110, _⟩ := Kd.at_int (Kd.R_reads' HO280.out).2.2 0 (by decide) (by rw [Ny278.out]; simp)
                      cases fo110
                      refine hK.out _ _ ⟨.slice (some ado110) y278.length co110, ado110, v286, adz_v286, m9_, m14_, (by rw [ha.out]; exact putSel_upk 3 hb_ rfl rfl rfl), fun _ => (by exact BK191.out), z_HI0, (by repeat (first | (with_reducible first | exact HK.out | apply KeepBut.set_ | apply keep_drewN | apply keep_drew | apply keep_alloc | refine keep_far ?_ GW191.out _) | exact HK.out)), (by repeat (first | (with_reducible first | exact HB.out | apply below_alloc | apply pw_below_drewN | apply below_drew1 | refine below_set ?_ GE191.out) | exact HB.out)), z_HI0_e1, z_HI0_e5, fun _ => (by exact HO280.out), fun _ => ⟨_, rfl⟩, z_HI0_e8, z_HO287, Q_HA_HO287, z_HI0_e13, fun h0_ => absurd ((hoff 17 (by kernel_rfl)).symm.trans h0_) (by decide), fun h0_ => absurd ((hoff 9 (by kernel_rfl)).symm.trans h0_) (by decide), Q_X14_⟩
                     refine steps_cons ?_ ?_
                     ·rintro b a w' ⟨v279, adz_v279, v286, adz_v286, m9_, m14_, ha, Q_BK191, Q_HI0, Q_HK, Q_HB, Q_HI0_e1, Q_HI0_e5, Q_HO280, Q_HA_HO280, Q_HI0_e8, Q_HO287, Q_HA_HO287, Q_HI0_e13, Q_BK191_e17, Q_X9_, Q_X14_⟩ hb_ hon hoff
                      refine ⟨_, rfl, fun K hK => ?_⟩
                      have e108 : a.tmps[108]? = some (.pointer (some ⟨g, 0, none⟩)) := by rw [ha]; exact (putSel_off rfl).trans rfl
                      replace ha := Aside0.mk ha
                      have BK191 := Aside0.mk (Q_BK191 (hoff 17 (by kernel_rfl)))
                      have HK := Aside0.mk Q_HK
                      have HB := Aside0.mk Q_HB
                      have HI0 := Aside0.mk (Q_HI0_e5 (hon 5 (by kernel_rfl)) hb_)
                      refine goes_ Try.func68 (by kernel_rfl) rfl #[.pointer (some ⟨g, 0, none⟩), .int .i64 4] (by rfl) rfl rfl (by first | (simp only [List.map_toArray, List.map_cons, List.map_nil, Act.eval, Array.getD_eq_getD_getElem?, Option.getD_some, e108]; done) | (simp only [List.map_toArray, List.map_cons, List.map_nil, Act.eval, Array.getD_eq_getD_getElem?, Option.getD_some, e108]; rfl)) ?_
                      with_reducible refine (spec_l1Next.calls g s0_0 t276 t277 4 t281 t282 t283 w0 _ ?side1 ?side2 A101.out).mono ?_
                      (case side1 => repeat (first | (with_reducible first | exact HI0.out | apply IsS104.alloc | apply IsS104.drewN | apply IsS104.drew | refine IsS104.far ?_ NB0_191.out _) | exact HI0.out))
                      (case side2 => repeat (first | (with_reducible first | exact HB.out | apply below_alloc | apply pw_below_drewN | apply below_drew1 | refine below_set ?_ (IsS104.ge HI0.out) | refine below_set ?_ GE191.out) | exact HB.out))
                      rintro e w111 ⟨rfl, hi, hb, hk⟩
                      refine ⟨_, rfl, ?_⟩
                      have n0_ := Aside0.mk (KeepBut.blk hk (g' := gb191) (o := .cells #[.int .i64 0, .int .i64 0, .int .i64 0, .int .i64 0, .int .i64 0] 41 (0, 0)) (by exact BK191.out) NB191_0.out (by simp))
                      have n1_ := Aside0.mk (KeepBut.trans (by repeat (first | (with_reducible first | exact HK.out | apply KeepBut.set_ | apply keep_drewN | apply keep_drew | apply keep_alloc | refine keep_far ?_ GW191.out _) | exact HK.out)) hk (.inl rfl))
                      have n2_ := Aside0.mk (hb)
                      have n3_ := Aside0.mk (hi)
                      have z_HO280 := fun (h0_ : b 6 = true) => (show Kd.R (Kd.int .i64) 2 w111 w.heap.size (fun _ => True) v279 y278 from by first | exact (Kd.R_mono (Kd.R_keep (IsS104.apart (show IsS104 w0 _ g s0_0 t276 t277 from by repeat (first | (with_reducible first | exact HI0.out | apply IsS104.alloc | apply IsS104.drewN | apply IsS104.drew | refine IsS104.far ?_ NB0_191.out _) | exact HI0.out)) (by exact (Q_HO280 h0_)) (by decide)) hk (fun _ h => h.2)) (fun _ h => h.1)) | exact Kd.R_mono (Kd.R_mono (Kd.R_keep (IsS104.apart (show IsS104 w0 _ g s0_0 t276 t277 from by repeat (first | (with_reducible first | exact HI0.out | apply IsS104.alloc | apply IsS104.drewN | apply IsS104.drew | refine IsS104.far ?_ NB0_191.out _) | exact HI0.out)) (by exact (Q_HO280 h0_)) (by decide)) hk (fun _ h => h.2)) (fun _ h => h.1)) (fun _ h_ => by first | trivial | exact h_ | exact h_.1))
                      have z_HO287 := fun (h0_ : b 11 = true) => (show Kd.R (Kd.int .i64) 2 w111 w.heap.size (fun _ => True) v286 y285 from by first | exact (Kd.R_mono (Kd.R_keep (IsS104.apart (show IsS104 w0 _ g s0_0 t276 t277 from by repeat (first | (with_reducible first | exact HI0.out | apply IsS104.alloc | apply IsS104.drewN | apply IsS104.drew | refine IsS104.far ?_ NB0_191.out _) | exact HI0.out)) (by exact (Q_HO287 h0_)) (by decide)) hk (fun _ h => h.2)) (fun _ h => h.1)) | exact Kd.R_mono (Kd.R_mono (Kd.R_keep (IsS104.apart (show IsS104 w0 _ g s0_0 t276 t277 from by repeat (first | (with_reducible first | exact HI0.out | apply IsS104.alloc | apply IsS104.drewN | apply IsS104.drew | refine IsS104.far ?_ NB0_191.out _) | exact HI0.out)) (by exact (Q_HO287 h0_)) (by decide)) hk (fun _ h => h.2)) (fun _ h => h.1)) (fun _ h_ => by first | trivial | exact h_ | exact h_.1))
                      clear BK191
                      clear HK
                      clear HB
                      clear HI0
                      have BK191 := n0_
                      have HK := n1_
                      have HB := n2_
                      have HI0 := n3_
                      clear n0_ n1_ n2_ n3_
                      (try clear hb)
                      (try clear hb2)
                      (try clear hk)
                      (try clear hi)
                      refine hK.out _ _ ⟨v279, adz_v279, v286, adz_v286, m9_, m14_, (by rw [ha.out]; exact putSel_upk 4 hb_ rfl rfl rfl), fun _ => (by exact BK191.out), fun h0_ => absurd ((hon 1 (by kernel_rfl)).symm.trans h0_) (by decide), (by repeat (first | (with_reducible first | exact HK.out | apply KeepBut.set_ | apply keep_drewN | apply keep_drew | apply keep_alloc | refine keep_far ?_ GW191.out _) | exact HK.out)), (by repeat (first | (with_reducible first | exact HB.out | apply below_alloc | apply pw_below_drewN | apply below_drew1 | refine below_set ?_ (IsS104.ge HI0.out) | refine below_set ?_ GE191.out) | exact HB.out)), fun _ h1_ => absurd ((hon 5 (by kernel_rfl)).symm.trans h1_) (by decide), fun _ h1_ => absurd ((up_self b 8).symm.trans h1_) (by decide), z_HO280, Q_HA_HO280, fun _ _ => (by repeat (first | (with_reducible first | exact HI0.out | apply IsS104.alloc | apply IsS104.drewN | apply IsS104.drew | refine IsS104.far ?_ NB0_191.out _) | exact HI0.out)), z_HO287, Q_HA_HO287, fun h0_ => absurd ((hoff 13 (by kernel_rfl)).symm.trans h0_) (by decide), fun h0_ => absurd ((hoff 17 (by kernel_rfl)).symm.trans h0_) (by decide), fun h0_ => absurd ((hoff 9 (by kernel_rfl)).symm.trans h0_) (by decide), fun h0_ => absurd ((hoff 14 (by kernel_rfl)).symm.trans h0_) (by decide)⟩
                     refine steps_cons ?_ ?_
                     ·rintro b a w' ⟨v279, adz_v279, v286, adz_v286, m9_, m14_, ha, Q_BK191, Q_HI0, Q_HK, Q_HB, Q_HI0_e1, Q_HI0_e5, Q_HO280, Q_HA_HO280, Q_HI0_e8, Q_HO287, Q_HA_HO287, Q_HI0_e13, Q_BK191_e17, Q_X9_, Q_X14_⟩ hb_ hon hoff
                      refine ⟨_, rfl, fun K hK => ?_⟩
                      have e107 : a.tmps[107]? = some (v279) := by rw [ha]; exact putSel_on (e := (6, 107, v279)) 3 rfl rfl (hon 6 (by kernel_rfl)) rfl
                      have e109 : a.tmps[109]? = some (.int .i64 t281) := by rw [ha]; exact putSel_on (e := (8, 109, .int .i64 t281)) 4 rfl rfl (hon 8 (by kernel_rfl)) rfl
                      replace ha := Aside0.mk ha
                      have BK191 := Aside0.mk (Q_BK191 (hoff 17 (by kernel_rfl)))
                      have HK := Aside0.mk Q_HK
                      have HB := Aside0.mk Q_HB
                      have HO280 := Aside0.mk (Q_HO280 (hon 6 (by kernel_rfl)))
                      have HA_HO280 := Aside0.mk (Q_HA_HO280 (hon 6 (by kernel_rfl)))
                      obtain ⟨c_, hv_⟩ := HA_HO280.out
                      rw [hv_] at e107
                      refine value_ (w1 := w') (v := .pointer (some (adz_v279.add (t281).toNat))) (by rfl) rfl ?_ ?_
                      ·go_simp
                       (try simp only [i64_w])
                       try rfl
                      refine hK.out _ _ ⟨v279, adz_v279, v286, adz_v286, (.pointer (some (adz_v279.add (t281).toNat))), m14_, (by rw [ha.out]; exact putSel_upk 5 hb_ rfl rfl rfl), Q_BK191, fun h0_ => absurd ((hon 1 (by kernel_rfl)).symm.trans h0_) (by decide), Q_HK, Q_HB, fun _ h1_ => absurd ((hon 5 (by kernel_rfl)).symm.trans h1_) (by decide), fun _ h1_ => absurd ((hon 8 (by kernel_rfl)).symm.trans h1_) (by decide), Q_HO280, Q_HA_HO280, Q_HI0_e8, Q_HO287, Q_HA_HO287, Q_HI0_e13, fun h0_ => absurd ((hoff 17 (by kernel_rfl)).symm.trans h0_) (by decide), fun _ => rfl, Q_X14_⟩
                     refine steps_cons ?_ ?_
                     ·rintro b a w' ⟨v279, adz_v279, v286, adz_v286, m9_, m14_, ha, Q_BK191, Q_HI0, Q_HK, Q_HB, Q_HI0_e1, Q_HI0_e5, Q_HO280, Q_HA_HO280, Q_HI0_e8, Q_HO287, Q_HA_HO287, Q_HI0_e13, Q_BK191_e17, Q_X9_, Q_X14_⟩ hb_ hon hoff
                      refine ⟨_, rfl, fun K hK => ?_⟩
                      have e110 : a.tmps[110]? = some (m9_) := by rw [ha]; exact putSel_on (e := (9, 110, m9_)) 5 rfl rfl (hon 9 (by kernel_rfl)) rfl
                      rw [Q_X9_ (hon 9 (by kernel_rfl))] at e110
                      replace ha := Aside0.mk ha
                      have BK191 := Aside0.mk (Q_BK191 (hoff 17 (by kernel_rfl)))
                      have HK := Aside0.mk Q_HK
                      have HB := Aside0.mk Q_HB
                      have HO280 := Aside0.mk (Q_HO280 (hon 6 (by kernel_rfl)))
                      have HA_HO280 := Aside0.mk (Q_HA_HO280 (hon 6 (by kernel_rfl)))
                      obtain ⟨c_, hv_⟩ := HA_HO280.out
                      have hF_ := HO280.out
                      rw [hv_] at hF_
                      obtain ⟨ad_, ea_, hx_⟩ := Kd.at_int (Kd.R_reads' hF_).2.2 t281 (of_eq_true pi284) (of_eq_true qi284)
                      cases ea_
                      refine value_ (w1 := w') (v := .int .i64 (rd y278 t281)) (by rfl) rfl ?_ ?_
                      ·go_simp
                       (try simp only [i64_w])
                       try rfl
                      refine hK.out _ _ ⟨v279, adz_v279, v286, adz_v286, m9_, m14_, (by rw [ha.out]; exact putSel_upk 6 hb_ rfl rfl rfl), Q_BK191, fun h0_ => absurd ((hon 1 (by kernel_rfl)).symm.trans h0_) (by decide), Q_HK, Q_HB, fun _ h1_ => absurd ((hon 5 (by kernel_rfl)).symm.trans h1_) (by decide), fun _ h1_ => absurd ((hon 8 (by kernel_rfl)).symm.trans h1_) (by decide), Q_HO280, Q_HA_HO280, Q_HI0_e8, Q_HO287, Q_HA_HO287, Q_HI0_e13, fun h0_ => absurd ((hoff 17 (by kernel_rfl)).symm.trans h0_) (by decide), Q_X9_, Q_X14_⟩
                     refine steps_cons ?_ ?_
                     ·rintro b a w' ⟨v279, adz_v279, v286, adz_v286, m9_, m14_, ha, Q_BK191, Q_HI0, Q_HK, Q_HB, Q_HI0_e1, Q_HI0_e5, Q_HO280, Q_HA_HO280, Q_HI0_e8, Q_HO287, Q_HA_HO287, Q_HI0_e13, Q_BK191_e17, Q_X9_, Q_X14_⟩ hb_ hon hoff
                      refine ⟨_, rfl, fun K hK => ?_⟩
                      replace ha := Aside0.mk ha
                      have BK191 := Aside0.mk (Q_BK191 (hoff 17 (by kernel_rfl)))
                      have HK := Aside0.mk Q_HK
                      have HB := Aside0.mk Q_HB
                      refine Kd.R_lit_step (Kd.int .i64) _ 2 ?hg (N := 112) ?hd (xs := ([4096, 4100, 5000, 8, (-8), (-16), 1048576] : List Int)) (inner := [.int .i64 4096, .int .i64 4100, .int .i64 5000, .int .i64 8, .int .i64 (-8), .int .i64 (-16), .int .i64 1048576]) (ok := fun _ => True) (okp := fun _ => True) ?hr ?hp (fun _ hk => hk) trivial (Below.refl _ _) (Nat.le_refl _) (by simp) ?_; (case hd => rfl); (case hg => rfl); (case hr => first | (go_simp; done) | (go_simp; rfl)); (case hp => exact (Reps.one (show Kd.M (Kd.int .i64) _ _ _ 4096 [.int .i64 4096] from rfl) (Reps.one (show Kd.M (Kd.int .i64) _ _ _ 4100 [.int .i64 4100] from rfl) (Reps.one (show Kd.M (Kd.int .i64) _ _ _ 5000 [.int .i64 5000] from rfl) (Reps.one (show Kd.M (Kd.int .i64) _ _ _ 8 [.int .i64 8] from rfl) (Reps.one (show Kd.M (Kd.int .i64) _ _ _ (-8) [.int .i64 (-8)] from rfl) (Reps.one (show Kd.M (Kd.int .i64) _ _ _ (-16) [.int .i64 (-16)] from rfl) (Reps.one (show Kd.M (Kd.int .i64) _ _ _ 1048576 [.int .i64 1048576] from rfl) (Reps.none _ _)))))))))
                      intro v286 w108 ho109 hb hg_ hnew_
                      clear hg_ hnew_
                      (first | rw [← Ny285.out] at ho109 | (simp only [Int.reduceToNat] at ho109; rw [← Ny285.out] at ho109))
                      have n0_ := Aside0.mk (Kd.R_lower ho109 (keep_size (w := w) (g := g) (row := none) (by repeat (first | (with_reducible first | exact HK.out | apply KeepBut.set_ | apply keep_drewN | apply keep_drew | apply keep_alloc | refine keep_far ?_ GW191.out _) | exact HK.out))))
                      have n1_ := Aside0.mk (blk_below (g := gb191) (o := .cells #[.int .i64 0, .int .i64 0, .int .i64 0, .int .i64 0, .int .i64 0] 41 (0, 0)) (by exact BK191.out) hb)
                      have n3_ := Aside0.mk (KeepBut.trans (by repeat (first | (with_reducible first | exact HK.out | apply KeepBut.set_ | apply keep_drewN | apply keep_drew | apply keep_alloc | refine keep_far ?_ GW191.out _) | exact HK.out)) (KeepBut.of_below hb g none) (.inl rfl))
                      have n4_ := Aside0.mk (below_step (by repeat (first | (with_reducible first | exact HB.out | apply below_alloc | apply pw_below_drewN | apply below_drew1 | refine below_set ?_ GE191.out) | exact HB.out)) hb)
                      have z_HI0 := fun (h0_ : b 1 = false) => (show IsS104 w0 w108 g s0_0 t196 t197 from by first | exact (IsS104.below (by repeat (first | (with_reducible first | exact (Q_HI0 h0_) | apply IsS104.alloc | apply IsS104.drewN | apply IsS104.drew | refine IsS104.far ?_ NB0_191.out _) | exact (Q_HI0 h0_))) hb))
                      have z_HI0_e1 := fun (h0_ : b 1 = true) (h1_ : b 5 = false) => (show IsS104 w0 w108 g s0_0 t273 t274 from by first | exact (IsS104.below (by repeat (first | (with_reducible first | exact (Q_HI0_e1 h0_ h1_) | apply IsS104.alloc | apply IsS104.drewN | apply IsS104.drew | refine IsS104.far ?_ NB0_191.out _) | exact (Q_HI0_e1 h0_ h1_))) hb))
                      have z_HI0_e5 := fun (h0_ : b 5 = true) (h1_ : b 8 = false) => (show IsS104 w0 w108 g s0_0 t276 t277 from by first | exact (IsS104.below (by repeat (first | (with_reducible first | exact (Q_HI0_e5 h0_ h1_) | apply IsS104.alloc | apply IsS104.drewN | apply IsS104.drew | refine IsS104.far ?_ NB0_191.out _) | exact (Q_HI0_e5 h0_ h1_))) hb))
                      have z_HO280 := fun (h0_ : b 6 = true) => (show Kd.R (Kd.int .i64) 2 w108 w.heap.size (fun _ => True) v279 y278 from by first | exact (Kd.R_elder' (by exact (Q_HO280 h0_)) (Kd.R_base ho109) hb) | exact Kd.R_mono (Kd.R_elder' (by exact (Q_HO280 h0_)) (Kd.R_base ho109) hb) (fun _ h_ => by first | trivial | exact h_ | exact h_.1))
                      have z_HI0_e8 := fun (h0_ : b 8 = true) (h1_ : b 13 = false) => (show IsS104 w0 w108 g s0_0 t282 t283 from by first | exact (IsS104.below (by repeat (first | (with_reducible first | exact (Q_HI0_e8 h0_ h1_) | apply IsS104.alloc | apply IsS104.drewN | apply IsS104.drew | refine IsS104.far ?_ NB0_191.out _) | exact (Q_HI0_e8 h0_ h1_))) hb))
                      have z_HI0_e13 := fun (h0_ : b 13 = true) => (show IsS104 w0 w108 g s0_0 t289 t290 from by first | exact (IsS104.below (by repeat (first | (with_reducible first | exact (Q_HI0_e13 h0_) | apply IsS104.alloc | apply IsS104.drewN | apply IsS104.drew | refine IsS104.far ?_ NB0_191.out _) | exact (Q_HI0_e13 h0_))) hb))
                      clear BK191
                      clear HK
                      clear HB
                      have HO287 := n0_
                      have BK191 := n1_
                      have HK := n3_
                      have HB := n4_
                      clear n0_ n1_ n3_ n4_
                      clear hb ho109
                      obtain ⟨Ao110, co110, eo110⟩ := Kd.R_slice HO287.out
                      subst eo110
                      obtain ⟨ado110, fo110, _⟩ := Kd.at_int (Kd.R_reads' HO287.out).2.2 0 (by decide) (by rw [Ny285.out]; simp)
                      cases fo110
                      refine hK.out _ _ ⟨v279, adz_v279, .slice (some ado110) y285.length co110, ado110, m9_, m14_, (by rw [ha.out]; exact putSel_upk 7 hb_ rfl rfl rfl), fun _ => (by exact BK191.out), z_HI0, (by repeat (first | (with_reducible first | exact HK.out | apply KeepBut.set_ | apply keep_drewN | apply keep_drew | apply keep_alloc | refine keep_far ?_ GW191.out _) | exact HK.out)), (by repeat (first | (with_reducible first | exact HB.out | apply below_alloc | apply pw_below_drewN | apply below_drew1 | refine below_set ?_ GE191.out) | exact HB.out)), z_HI0_e1, z_HI0_e5, z_HO280, Q_HA_HO280, z_HI0_e8, fun _ => (by exact HO287.out), fun _ => ⟨_, rfl⟩, z_HI0_e13, fun h0_ => absurd ((hoff 17 (by kernel_rfl)).symm.trans h0_) (by decide), Q_X9_, fun h0_ => absurd ((hoff 14 (by kernel_rfl)).symm.trans h0_) (by decide)⟩
                     refine steps_cons ?_ ?_
                     ·rintro b a w' ⟨v279, adz_v279, v286, adz_v286, m9_, m14_, ha, Q_BK191, Q_HI0, Q_HK, Q_HB, Q_HI0_e1, Q_HI0_e5, Q_HO280, Q_HA_HO280, Q_HI0_e8, Q_HO287, Q_HA_HO287, Q_HI0_e13, Q_BK191_e17, Q_X9_, Q_X14_⟩ hb_ hon hoff
                      refine ⟨_, rfl, fun K hK => ?_⟩
                      have e113 : a.tmps[113]? = some (.pointer (some ⟨g, 0, none⟩)) := by rw [ha]; exact (putSel_off rfl).trans rfl
                      replace ha := Aside0.mk ha
                      have BK191 := Aside0.mk (Q_BK191 (hoff 17 (by kernel_rfl)))
                      have HK := Aside0.mk Q_HK
                      have HB := Aside0.mk Q_HB
                      have HI0 := Aside0.mk (Q_HI0_e8 (hon 8 (by kernel_rfl)) hb_)
                      refine goes_ Try.func68 (by kernel_rfl) rfl #[.pointer (some ⟨g, 0, none⟩), .int .i64 7] (by rfl) rfl rfl (by first | (simp only [List.map_toArray, List.map_cons, List.map_nil, Act.eval, Array.getD_eq_getD_getElem?, Option.getD_some, e113]; done) | (simp only [List.map_toArray, List.map_cons, List.map_nil, Act.eval, Array.getD_eq_getD_getElem?, Option.getD_some, e113]; rfl)) ?_
                      with_reducible refine (spec_l1Next.calls g s0_0 t282 t283 7 t288 t289 t290 w0 _ ?side1 ?side2 A104.out).mono ?_
                      (case side1 => repeat (first | (with_reducible first | exact HI0.out | apply IsS104.alloc | apply IsS104.drewN | apply IsS104.drew | refine IsS104.far ?_ NB0_191.out _) | exact HI0.out))
                      (case side2 => repeat (first | (with_reducible first | exact HB.out | apply below_alloc | apply pw_below_drewN | apply below_drew1 | refine below_set ?_ (IsS104.ge HI0.out) | refine below_set ?_ GE191.out) | exact HB.out))
                      rintro e w112 ⟨rfl, hi, hb, hk⟩
                      refine ⟨_, rfl, ?_⟩
                      have n0_ := Aside0.mk (KeepBut.blk hk (g' := gb191) (o := .cells #[.int .i64 0, .int .i64 0, .int .i64 0, .int .i64 0, .int .i64 0] 41 (0, 0)) (by exact BK191.out) NB191_0.out (by simp))
                      have n1_ := Aside0.mk (KeepBut.trans (by repeat (first | (with_reducible first | exact HK.out | apply KeepBut.set_ | apply keep_drewN | apply keep_drew | apply keep_alloc | refine keep_far ?_ GW191.out _) | exact HK.out)) hk (.inl rfl))
                      have n2_ := Aside0.mk (hb)
                      have n3_ := Aside0.mk (hi)
                      have z_HO280 := fun (h0_ : b 6 = true) => (show Kd.R (Kd.int .i64) 2 w112 w.heap.size (fun _ => True) v279 y278 from by first | exact (Kd.R_mono (Kd.R_keep (IsS104.apart (show IsS104 w0 _ g s0_0 t282 t283 from by repeat (first | (with_reducible first | exact HI0.out | apply IsS104.alloc | apply IsS104.drewN | apply IsS104.drew | refine IsS104.far ?_ NB0_191.out _) | exact HI0.out)) (by exact (Q_HO280 h0_)) (by decide)) hk (fun _ h => h.2)) (fun _ h => h.1)) | exact Kd.R_mono (Kd.R_mono (Kd.R_keep (IsS104.apart (show IsS104 w0 _ g s0_0 t282 t283 from by repeat (first | (with_reducible first | exact HI0.out | apply IsS104.alloc | apply IsS104.drewN | apply IsS104.drew | refine IsS104.far ?_ NB0_191.out _) | exact HI0.out)) (by exact (Q_HO280 h0_)) (by decide)) hk (fun _ h => h.2)) (fun _ h => h.1)) (fun _ h_ => by first | trivial | exact h_ | exact h_.1))
                      have z_HO287 := fun (h0_ : b 11 = true) => (show Kd.R (Kd.int .i64) 2 w112 w.heap.size (fun _ => True) v286 y285 from by first | exact (Kd.R_mono (Kd.R_keep (IsS104.apart (show IsS104 w0 _ g s0_0 t282 t283 from by repeat (first | (with_reducible first | exact HI0.out | apply IsS104.alloc | apply IsS104.drewN | apply IsS104.drew | refine IsS104.far ?_ NB0_191.out _) | exact HI0.out)) (by exact (Q_HO287 h0_)) (by decide)) hk (fun _ h => h.2)) (fun _ h => h.1)) | exact Kd.R_mono (Kd.R_mono (Kd.R_keep (IsS104.apart (show IsS104 w0 _ g s0_0 t282 t283 from by repeat (first | (with_reducible first | exact HI0.out | apply IsS104.alloc | apply IsS104.drewN | apply IsS104.drew | refine IsS104.far ?_ NB0_191.out _) | exact HI0.out)) (by exact (Q_HO287 h0_)) (by decide)) hk (fun _ h => h.2)) (fun _ h => h.1)) (fun _ h_ => by first | trivial | exact h_ | exact h_.1))
                      clear BK191
                      clear HK
                      clear HB
                      clear HI0
                      have BK191 := n0_
                      have HK := n1_
                      have HB := n2_
                      have HI0 := n3_
                      clear n0_ n1_ n2_ n3_
                      (try clear hb)
                      (try clear hb2)
                      (try clear hk)
                      (try clear hi)
                      refine hK.out _ _ ⟨v279, adz_v279, v286, adz_v286, m9_, m14_, (by rw [ha.out]; exact putSel_upk 8 hb_ rfl rfl rfl), fun _ => (by exact BK191.out), fun h0_ => absurd ((hon 1 (by kernel_rfl)).symm.trans h0_) (by decide), (by repeat (first | (with_reducible first | exact HK.out | apply KeepBut.set_ | apply keep_drewN | apply keep_drew | apply keep_alloc | refine keep_far ?_ GW191.out _) | exact HK.out)), (by repeat (first | (with_reducible first | exact HB.out | apply below_alloc | apply pw_below_drewN | apply below_drew1 | refine below_set ?_ (IsS104.ge HI0.out) | refine below_set ?_ GE191.out) | exact HB.out)), fun _ h1_ => absurd ((hon 5 (by kernel_rfl)).symm.trans h1_) (by decide), fun _ h1_ => absurd ((hon 8 (by kernel_rfl)).symm.trans h1_) (by decide), z_HO280, Q_HA_HO280, fun _ h1_ => absurd ((up_self b 13).symm.trans h1_) (by decide), z_HO287, Q_HA_HO287, fun _ => (by repeat (first | (with_reducible first | exact HI0.out | apply IsS104.alloc | apply IsS104.drewN | apply IsS104.drew | refine IsS104.far ?_ NB0_191.out _) | exact HI0.out)), fun h0_ => absurd ((hoff 17 (by kernel_rfl)).symm.trans h0_) (by decide), Q_X9_, fun h0_ => absurd ((hoff 14 (by kernel_rfl)).symm.trans h0_) (by decide)⟩
                     refine steps_cons ?_ ?_
                     ·rintro b a w' ⟨v279, adz_v279, v286, adz_v286, m9_, m14_, ha, Q_BK191, Q_HI0, Q_HK, Q_HB, Q_HI0_e1, Q_HI0_e5, Q_HO280, Q_HA_HO280, Q_HI0_e8, Q_HO287, Q_HA_HO287, Q_HI0_e13, Q_BK191_e17, Q_X9_, Q_X14_⟩ hb_ hon hoff
                      refine ⟨_, rfl, fun K hK => ?_⟩
                      have e112 : a.tmps[112]? = some (v286) := by rw [ha]; exact putSel_on (e := (11, 112, v286)) 7 rfl rfl (hon 11 (by kernel_rfl)) rfl
                      have e114 : a.tmps[114]? = some (.int .i64 t288) := by rw [ha]; exact putSel_on (e := (13, 114, .int .i64 t288)) 8 rfl rfl (hon 13 (by kernel_rfl)) rfl
                      replace ha := Aside0.mk ha
                      have BK191 := Aside0.mk (Q_BK191 (hoff 17 (by kernel_rfl)))
                      have HK := Aside0.mk Q_HK
                      have HB := Aside0.mk Q_HB
                      have HO287 := Aside0.mk (Q_HO287 (hon 11 (by kernel_rfl)))
                      have HA_HO287 := Aside0.mk (Q_HA_HO287 (hon 11 (by kernel_rfl)))
                      have HI0 := Aside0.mk (Q_HI0_e13 (hon 13 (by kernel_rfl)))
                      obtain ⟨c_, hv_⟩ := HA_HO287.out
                      rw [hv_] at e112
                      refine value_ (w1 := w') (v := .pointer (some (adz_v286.add (t288).toNat))) (by rfl) rfl ?_ ?_
                      ·go_simp
                       (try simp only [i64_w])
                       try rfl
                      refine hK.out _ _ ⟨v279, adz_v279, v286, adz_v286, m9_, (.pointer (some (adz_v286.add (t288).toNat))), (by rw [ha.out]; exact putSel_upk 9 hb_ rfl rfl rfl), Q_BK191, fun h0_ => absurd ((hon 1 (by kernel_rfl)).symm.trans h0_) (by decide), Q_HK, Q_HB, fun _ h1_ => absurd ((hon 5 (by kernel_rfl)).symm.trans h1_) (by decide), fun _ h1_ => absurd ((hon 8 (by kernel_rfl)).symm.trans h1_) (by decide), Q_HO280, Q_HA_HO280, fun _ h1_ => absurd ((hon 13 (by kernel_rfl)).symm.trans h1_) (by decide), Q_HO287, Q_HA_HO287, Q_HI0_e13, fun h0_ => absurd ((hoff 17 (by kernel_rfl)).symm.trans h0_) (by decide), Q_X9_, fun _ => rfl⟩
                     refine steps_cons ?_ ?_
                     ·rintro b a w' ⟨v279, adz_v279, v286, adz_v286, m9_, m14_, ha, Q_BK191, Q_HI0, Q_HK, Q_HB, Q_HI0_e1, Q_HI0_e5, Q_HO280, Q_HA_HO280, Q_HI0_e8, Q_HO287, Q_HA_HO287, Q_HI0_e13, Q_BK191_e17, Q_X9_, Q_X14_⟩ hb_ hon hoff
                      refine ⟨_, rfl, fun K hK => ?_⟩
                      have e115 : a.tmps[115]? = some (m14_) := by rw [ha]; exact putSel_on (e := (14, 115, m14_)) 9 rfl rfl (hon 14 (by kernel_rfl)) rfl
                      rw [Q_X14_ (hon 14 (by kernel_rfl))] at e115
                      replace ha := Aside0.mk ha
                      have BK191 := Aside0.mk (Q_BK191 (hoff 17 (by kernel_rfl)))
                      have HK := Aside0.mk Q_HK
                      have HB := Aside0.mk Q_HB
                      have HO287 := Aside0.mk (Q_HO287 (hon 11 (by kernel_rfl)))
                      have HA_HO287 := Aside0.mk (Q_HA_HO287 (hon 11 (by kernel_rfl)))
                      have HI0 := Aside0.mk (Q_HI0_e13 (hon 13 (by kernel_rfl)))
                      obtain ⟨c_, hv_⟩ := HA_HO287.out
                      have hF_ := HO287.out
                      rw [hv_] at hF_
                      obtain ⟨ad_, ea_, hx_⟩ := Kd.at_int (Kd.R_reads' hF_).2.2 t288 (of_eq_true pi291) (of_eq_true qi291)
                      cases ea_
                      refine value_ (w1 := w') (v := .int .i64 (rd y285 t288)) (by rfl) rfl ?_ ?_
                      ·go_simp
                       (try simp only [i64_w])
                       try rfl
                      refine hK.out _ _ ⟨v279, adz_v279, v286, adz_v286, m9_, m14_, (by rw [ha.out]; exact putSel_upk 10 hb_ rfl rfl rfl), Q_BK191, fun h0_ => absurd ((hon 1 (by kernel_rfl)).symm.trans h0_) (by decide), Q_HK, Q_HB, fun _ h1_ => absurd ((hon 5 (by kernel_rfl)).symm.trans h1_) (by decide), fun _ h1_ => absurd ((hon 8 (by kernel_rfl)).symm.trans h1_) (by decide), Q_HO280, Q_HA_HO280, fun _ h1_ => absurd ((hon 13 (by kernel_rfl)).symm.trans h1_) (by decide), Q_HO287, Q_HA_HO287, Q_HI0_e13, fun h0_ => absurd ((hoff 17 (by kernel_rfl)).symm.trans h0_) (by decide), Q_X9_, Q_X14_⟩
                     refine steps_cons ?_ ?_
                     ·rintro b a w' ⟨v279, adz_v279, v286, adz_v286, m9_, m14_, ha, Q_BK191, Q_HI0, Q_HK, Q_HB, Q_HI0_e1, Q_HI0_e5, Q_HO280, Q_HA_HO280, Q_HI0_e8, Q_HO287, Q_HA_HO287, Q_HI0_e13, Q_BK191_e17, Q_X9_, Q_X14_⟩ hb_ hon hoff
                      refine ⟨_, rfl, fun K hK => ?_⟩
                      have e103 : a.tmps[103]? = some (.int .i64 (wrap64 (20 + t272))) := by rw [ha]; exact putSel_on (e := (2, 103, .int .i64 (wrap64 (20 + t272)))) 1 rfl rfl (hon 2 (by kernel_rfl)) rfl
                      have e104 : a.tmps[104]? = some (.int .i64 t192) := by rw [ha]; exact (putSel_off rfl).trans rfl
                      have e106 : a.tmps[106]? = some (.int .i64 t275) := by rw [ha]; exact putSel_on (e := (5, 106, .int .i64 t275)) 2 rfl rfl (hon 5 (by kernel_rfl)) rfl
                      have e111 : a.tmps[111]? = some (.int .i64 (rd y278 t281)) := by rw [ha]; exact putSel_on (e := (10, 111, .int .i64 (rd y278 t281))) 6 rfl rfl (hon 10 (by kernel_rfl)) rfl
                      have e116 : a.tmps[116]? = some (.int .i64 (rd y285 t288)) := by rw [ha]; exact putSel_on (e := (15, 116, .int .i64 (rd y285 t288))) 10 rfl rfl (hon 15 (by kernel_rfl)) rfl
                      replace ha := Aside0.mk ha
                      have BK191 := Aside0.mk (Q_BK191 (hoff 17 (by kernel_rfl)))
                      have HK := Aside0.mk Q_HK
                      have HB := Aside0.mk Q_HB
                      have HO280 := Aside0.mk (Q_HO280 (hon 6 (by kernel_rfl)))
                      have HA_HO280 := Aside0.mk (Q_HA_HO280 (hon 6 (by kernel_rfl)))
                      have HO287 := Aside0.mk (Q_HO287 (hon 11 (by kernel_rfl)))
                      have HA_HO287 := Aside0.mk (Q_HA_HO287 (hon 11 (by kernel_rfl)))
                      have HI0 := Aside0.mk (Q_HI0_e13 (hon 13 (by kernel_rfl)))
                      refine value_ (w1 := w') (v := .agg #[.int .i64 (wrap64 (20 + t272)), .int .i64 t192, .int .i64 t275, .int .i64 (rd y278 t281), .int .i64 (rd y285 t288)]) (by rfl) rfl ?_ ?_
                      ·go_simp
                       (try simp only [i64_w])
                       try rfl
                      refine hK.out _ _ ⟨v279, adz_v279, v286, adz_v286, m9_, m14_, (by rw [ha.out]; exact putSel_upk 11 hb_ rfl rfl rfl), Q_BK191, fun h0_ => absurd ((hon 1 (by kernel_rfl)).symm.trans h0_) (by decide), Q_HK, Q_HB, fun _ h1_ => absurd ((hon 5 (by kernel_rfl)).symm.trans h1_) (by decide), fun _ h1_ => absurd ((hon 8 (by kernel_rfl)).symm.trans h1_) (by decide), Q_HO280, Q_HA_HO280, fun _ h1_ => absurd ((hon 13 (by kernel_rfl)).symm.trans h1_) (by decide), Q_HO287, Q_HA_HO287, Q_HI0_e13, fun h0_ => absurd ((hoff 17 (by kernel_rfl)).symm.trans h0_) (by decide), Q_X9_, Q_X14_⟩
                     refine steps_cons ?_ ?_
                     ·rintro b a w' ⟨v279, adz_v279, v286, adz_v286, m9_, m14_, ha, Q_BK191, Q_HI0, Q_HK, Q_HB, Q_HI0_e1, Q_HI0_e5, Q_HO280, Q_HA_HO280, Q_HI0_e8, Q_HO287, Q_HA_HO287, Q_HI0_e13, Q_BK191_e17, Q_X9_, Q_X14_⟩ hb_ hon hoff
                      refine ⟨_, rfl, fun K hK => ?_⟩
                      have e2 : a.tmps[2]? = some (.pointer (some ⟨gb191, 0, none⟩)) := by rw [ha]; exact (putSel_off rfl).trans rfl
                      have e117 : a.tmps[117]? = some (.agg #[.int .i64 (wrap64 (20 + t272)), .int .i64 t192, .int .i64 t275, .int .i64 (rd y278 t281), .int .i64 (rd y285 t288)]) := by rw [ha]; exact putSel_on (e := (16, 117, .agg #[.int .i64 (wrap64 (20 + t272)), .int .i64 t192, .int .i64 t275, .int .i64 (rd y278 t281), .int .i64 (rd y285 t288)])) 11 rfl rfl (hon 16 (by kernel_rfl)) rfl
                      replace ha := Aside0.mk ha
                      have BK191 := Aside0.mk (Q_BK191 hb_)
                      have HK := Aside0.mk Q_HK
                      have HB := Aside0.mk Q_HB
                      have HO280 := Aside0.mk (Q_HO280 (hon 6 (by kernel_rfl)))
                      have HA_HO280 := Aside0.mk (Q_HA_HO280 (hon 6 (by kernel_rfl)))
                      have HO287 := Aside0.mk (Q_HO287 (hon 11 (by kernel_rfl)))
                      have HA_HO287 := Aside0.mk (Q_HA_HO287 (hon 11 (by kernel_rfl)))
                      have HI0 := Aside0.mk (Q_HI0_e13 (hon 13 (by kernel_rfl)))
                      obtain ⟨co119, eo119⟩ := HA_HO280.out
                      clear HA_HO280
                      subst eo119
                      obtain ⟨co120, eo120⟩ := HA_HO287.out
                      clear HA_HO287
                      subst eo120
                      have hs121 : w'.cell? ⟨gb191, 0, none⟩ = some (.int .i64 0) := (blk_cell BK191.out 0).trans rfl
                      have hfs121 := blk_frozen BK191.out 0
                      have hs122 : w'.cell? ⟨gb191, 1, none⟩ = some (.int .i64 0) := (blk_cell BK191.out 1).trans rfl
                      have hfs122 := blk_frozen BK191.out 1
                      have hs123 : w'.cell? ⟨gb191, 2, none⟩ = some (.int .i64 0) := (blk_cell BK191.out 2).trans rfl
                      have hfs123 := blk_frozen BK191.out 2
                      have hs124 : w'.cell? ⟨gb191, 3, none⟩ = some (.int .i64 0) := (blk_cell BK191.out 3).trans rfl
                      have hfs124 := blk_frozen BK191.out 3
                      have hs125 : w'.cell? ⟨gb191, 4, none⟩ = some (.int .i64 0) := (blk_cell BK191.out 4).trans rfl
                      have hfs125 := blk_frozen BK191.out 4
                      refine skip_ (w1 := ?_) (by rfl) rfl ?_ ?_
                      rotate_left
                      ·go_simp
                       rfl
                      refine hK.out _ _ ⟨.slice (some adz_v279) y278.length co119, adz_v279, .slice (some adz_v286) y285.length co120, adz_v286, m9_, m14_, (by rw [ha.out]; exact putSel_none (v := undef) rfl), fun h0_ => absurd ((up_self b 17).symm.trans h0_) (by decide), fun h0_ => absurd ((hon 1 (by kernel_rfl)).symm.trans h0_) (by decide), (by repeat (first | (with_reducible first | exact HK.out | apply KeepBut.set_ | apply keep_drewN | apply keep_drew | apply keep_alloc | refine keep_far ?_ GW191.out _) | exact HK.out)), (by repeat (first | (with_reducible first | exact HB.out | apply below_alloc | apply pw_below_drewN | apply below_drew1 | refine below_set ?_ (IsS104.ge HI0.out) | refine below_set ?_ GE191.out) | exact HB.out)), fun _ h1_ => absurd ((hon 5 (by kernel_rfl)).symm.trans h1_) (by decide), fun _ h1_ => absurd ((hon 8 (by kernel_rfl)).symm.trans h1_) (by decide), fun _ => (by exact Kd.R_mono (Kd.R_far (p := ⟨gb191, 4, none⟩) (Kd.R_far (p := ⟨gb191, 3, none⟩) (Kd.R_far (p := ⟨gb191, 2, none⟩) (Kd.R_far (p := ⟨gb191, 1, none⟩) (Kd.R_far (p := ⟨gb191, 0, none⟩) (Kd.R_types HO280.out BK191.out (by decide)) (fun _ hk => hk.2) (.int .i64 (wrap64 (20 + t272)))) (fun _ hk => hk.2) (.int .i64 t192)) (fun _ hk => hk.2) (.int .i64 t275)) (fun _ hk => hk.2) (.int .i64 (rd y278 t281))) (fun _ hk => hk.2) (.int .i64 (rd y285 t288))) (fun _ hk => hk.1)), fun _ => ⟨_, rfl⟩, fun _ h1_ => absurd ((hon 13 (by kernel_rfl)).symm.trans h1_) (by decide), fun _ => (by exact Kd.R_mono (Kd.R_far (p := ⟨gb191, 4, none⟩) (Kd.R_far (p := ⟨gb191, 3, none⟩) (Kd.R_far (p := ⟨gb191, 2, none⟩) (Kd.R_far (p := ⟨gb191, 1, none⟩) (Kd.R_far (p := ⟨gb191, 0, none⟩) (Kd.R_types HO287.out BK191.out (by decide)) (fun _ hk => hk.2) (.int .i64 (wrap64 (20 + t272)))) (fun _ hk => hk.2) (.int .i64 t192)) (fun _ hk => hk.2) (.int .i64 t275)) (fun _ hk => hk.2) (.int .i64 (rd y278 t281))) (fun _ hk => hk.2) (.int .i64 (rd y285 t288))) (fun _ hk => hk.1)), fun _ => ⟨_, rfl⟩, fun _ => (by repeat (first | (with_reducible first | exact HI0.out | apply IsS104.alloc | apply IsS104.drewN | apply IsS104.drew | refine IsS104.far ?_ NB0_191.out _) | exact HI0.out)), fun _ => (by refine blk_put (cs := #[.int .i64 (wrap64 (20 + t272)), .int .i64 t192, .int .i64 t275, .int .i64 (rd y278 t281), .int .i64 0]) ?_ 4 _ rfl; refine blk_put (cs := #[.int .i64 (wrap64 (20 + t272)), .int .i64 t192, .int .i64 t275, .int .i64 0, .int .i64 0]) ?_ 3 _ rfl; refine blk_put (cs := #[.int .i64 (wrap64 (20 + t272)), .int .i64 t192, .int .i64 0, .int .i64 0, .int .i64 0]) ?_ 2 _ rfl; refine blk_put (cs := #[.int .i64 (wrap64 (20 + t272)), .int .i64 0, .int .i64 0, .int .i64 0, .int .i64 0]) ?_ 1 _ rfl; refine blk_put (cs := #[.int .i64 0, .int .i64 0, .int .i64 0, .int .i64 0, .int .i64 0]) ?_ 0 _ rfl; exact BK191.out), Q_X9_, Q_X14_⟩
                     exact steps_nil
                    rintro b a w123 hall ⟨v279, adz_v279, v286, adz_v286, m9_, m14_, ha, Q_BK191, Q_HI0, Q_HK, Q_HB, Q_HI0_e1, Q_HI0_e5, Q_HO280, Q_HA_HO280, Q_HI0_e8, Q_HO287, Q_HA_HO287, Q_HI0_e13, Q_BK191_e17, Q_X9_, Q_X14_⟩
                    clear BK191 HB HI0 HK
                    have hb1_ := hall 1 (by kernel_rfl)
                    have hb2_ := hall 2 (by kernel_rfl)
                    have hb5_ := hall 5 (by kernel_rfl)
                    have hb6_ := hall 6 (by kernel_rfl)
                    have hb8_ := hall 8 (by kernel_rfl)
                    have hb9_ := hall 9 (by kernel_rfl)
                    have hb10_ := hall 10 (by kernel_rfl)
                    have hb11_ := hall 11 (by kernel_rfl)
                    have hb13_ := hall 13 (by kernel_rfl)
                    have hb14_ := hall 14 (by kernel_rfl)
                    have hb15_ := hall 15 (by kernel_rfl)
                    have hb16_ := hall 16 (by kernel_rfl)
                    have hb17_ := hall 17 (by kernel_rfl)
                    subst ha
                    obtain rfl := Q_X9_ hb9_
                    obtain rfl := Q_X14_ hb14_
                    simp only [putSel, hb1_, hb2_, hb5_, hb6_, hb8_, hb9_, hb10_, hb11_, hb13_, hb14_, hb15_, hb16_, hb17_, if_true, Act.put, List.setIfInBounds_toArray, List.set_cons_zero, List.set_cons_succ]
                    clear Q_BK191
                    clear Q_HI0
                    have HK := Aside0.mk Q_HK
                    clear Q_HK
                    have HB := Aside0.mk Q_HB
                    clear Q_HB
                    clear Q_HI0_e1
                    clear Q_HI0_e5
                    have HO280 := Aside0.mk (Q_HO280 hb6_)
                    clear Q_HO280
                    have HA_HO280 := Aside0.mk (Q_HA_HO280 hb6_)
                    clear Q_HA_HO280
                    clear Q_HI0_e8
                    have HO287 := Aside0.mk (Q_HO287 hb11_)
                    clear Q_HO287
                    have HA_HO287 := Aside0.mk (Q_HA_HO287 hb11_)
                    clear Q_HA_HO287
                    have HI0 := Aside0.mk (Q_HI0_e13 hb13_)
                    clear Q_HI0_e13
                    have BK191 := Aside0.mk (Q_BK191_e17 hb17_)
                    clear Q_BK191_e17
                    clear hall hb1_ hb2_ hb5_ hb6_ hb8_ hb9_ hb10_ hb11_ hb13_ hb14_ hb15_ hb16_ hb17_
                    obtain ⟨co124, eo124⟩ := HA_HO280.out
                    clear HA_HO280
                    subst eo124
                    obtain ⟨co125, eo125⟩ := HA_HO287.out
                    clear HA_HO287
                    subst eo125
                    try go_wp2
                    refine bodyPost_ret (results_cell_row rfl _ _ gb191 41 #[.int .i64 (wrap64 (20 + t272)), .int .i64 t192, .int .i64 t275, .int .i64 (rd y278 t281), .int .i64 (rd y285 t288)] (0, 0) _ rfl (by exact BK191.out) Try.underlying41 rfl (by kernel_rfl)) rfl ?_
                    exact ⟨by first | rfl | (simp [*] <;> rfl), by repeat (first | (with_reducible first | exact HI0.out | apply IsS104.alloc | apply IsS104.drewN | apply IsS104.drew | refine IsS104.far ?_ NB0_191.out _) | exact HI0.out), by repeat (first | (with_reducible first | exact HB.out | apply below_alloc | apply pw_below_drewN | apply below_drew1 | refine below_set ?_ (IsS104.ge HI0.out) | refine below_set ?_ GE191.out) | exact HB.out), by repeat (first | (with_reducible first | exact HK.out | apply KeepBut.set_ | apply keep_drewN | apply keep_drew | apply keep_alloc | refine keep_far ?_ GW191.out _) | exact HK.out)⟩
                   ·rw [if_neg c106] at H
                    exact absurd H (by simp)
                  ·rw [if_neg c105] at H
                   exact absurd H (by simp)
                 ·rw [if_neg c103] at H
                  exact absurd H (by simp)
                ·rw [if_neg c102] at H
                 exact absurd H (by simp)
               ·replace c98 := Bool.eq_false_iff.mpr c98
                subst c98
                rw [if_neg (show ¬ (false = true) by decide)] at H
                by_cases c126 : t195 = 13
                ·rw [if_pos c126] at H
                 have c126b0 : (t195 == 13) = true := beq_iff_eq.mpr c126
                 have c126b1 : (t195 != 13) = false := bne_eq_false_iff_eq.mpr c126
                 clear c126
                 obtain ⟨y292, hy292⟩ : ∃ y_ : List Int, y_ = (([23, 26] : List Int)) := ⟨_, rfl⟩
                 replace H : ((spec_l1Next.f s0_0 t196 t197 2).bind fun bt295 => (if 0 ≤ bt295.1 then (if bt295.1 < (y292.length : Int) then ((spec_l1Next.f s0_0 bt295.2.1 bt295.2.2 6).bind fun bt299 => (some (rd y292 bt295.1, 0, 0, 0, wrap64 (bt299.1 - 2), bt299.2.1, bt299.2.2))) else (none)) else (none))) = some (r1, r2, r3, r4, r5, r6, r7) := by first | (rw [hy292]; with_reducible exact H) | (have H2_ := (Option.bind_some _ _).symm.trans H; rw [hy292]; with_reducible exact H2_) | (have H2_ := (Option.bind_some _ _).symm.trans H; with_reducible exact H2_) | with_reducible exact H | (rw [hy292]; exact H) | exact H
                 have Ny292 := Aside0.mk hy292
                 clear hy292
                 replace H := Option.bind_eq_some_iff.mp H
                 obtain ⟨⟨t295, t296, t297⟩, A1270, H⟩ := H
                 replace H : (if 0 ≤ t295 then (if t295 < (y292.length : Int) then ((spec_l1Next.f s0_0 t296 t297 6).bind fun bt299 => (some (rd y292 t295, 0, 0, 0, wrap64 (bt299.1 - 2), bt299.2.1, bt299.2.2))) else (none)) else (none)) = some (r1, r2, r3, r4, r5, r6, r7) := H
                 have A127 := Aside0.mk A1270
                 clear A1270
                 by_cases c128 : 0 ≤ t295
                 ·rw [if_pos c128] at H
                  have c128b0 : decide (0 ≤ t295) = true := decide_eq_true c128
                  clear c128
                  by_cases c129 : t295 < (y292.length : Int)
                  ·rw [if_pos c129] at H
                   have c129b0 : decide (t295 < (y292.length : Int)) = true := decide_eq_true c129
                   clear c129
                   replace H := Option.bind_eq_some_iff.mp H
                   obtain ⟨⟨t299, t300, t301⟩, A1300, H⟩ := H
                   replace H : (some (rd y292 t295, 0, 0, 0, wrap64 (t299 - 2), t300, t301)) = some (r1, r2, r3, r4, r5, r6, r7) := H
                   have A130 := Aside0.mk A1300
                   clear A1300
                   simp only [Option.some.injEq, Prod.mk.injEq] at H
                   obtain ⟨rfl, rfl, rfl, rfl, rfl, rfl, rfl⟩ := H
                   try go_wp2
                   have pi298 : (0 ≤ (t295 : Int)) = True := eq_true (of_decide_eq_true (by first | (with_reducible assumption) | assumption))
                   have qi298 : (t295 < (y292.length : Int)) = True := eq_true (of_decide_eq_true (by first | (with_reducible assumption) | assumption))
                   have n0_ := Aside0.mk (blk_drew BK191.out)
                   have n1_ := Aside0.mk (IsS104.drew HI0.out)
                   have n2_ := Aside0.mk (keep_drew HK.out)
                   have n3_ := Aside0.mk (below_drew1 HB.out)
                   clear BK191
                   clear HI0
                   clear HK
                   clear HB
                   have BK191 := n0_
                   have HI0 := n1_
                   have HK := n2_
                   have HB := n3_
                   clear n0_ n1_ n2_ n3_
                   refine start_ (n := 10) (S := fun w' => True) (ds := []) #[false, false, false, false, false, false, false, false, false, false] (by kernel_rfl) rfl rfl trivial (fun hHeld => ?_); refine with_tabW spec_l21Ins.tab26 spec_l21Ins.bits26 (fun HT_ HW_ => ?_)
                   generalize wc.drew = w131 at BK191 HI0 HK HB hHeld ⊢
                   refine pure_ (i := 1) (N := some 121) (v := ?_) (a' := ?_) #[false, true, false, false, false, false, false, false, false, false] rfl rfl (any_of HT_.out (by kernel_rfl)) (fun _ _ _ h => h) (Or.inl ⟨by rfl, ?_⟩) ?_ ?_
                   rotate_left
                   ·intro w'
                    go_simp
                    with_reducible rfl
                   rotate_left
                   ·simp only [Act.put, List.setIfInBounds_toArray, List.set_cons_zero, List.set_cons_succ, i64_w, i32_w]
                    rfl
                   refine pure_ (i := 5) (N := some 125) (v := ?_) (a' := ?_) #[false, true, false, false, false, true, false, false, false, false] rfl rfl (any_of HT_.out (by kernel_rfl)) (fun _ _ _ h => h) (Or.inl ⟨by rfl, ?_⟩) ?_ ?_
                   rotate_left
                   ·intro w'
                    go_simp
                    with_reducible rfl
                   rotate_left
                   ·simp only [Act.put, List.setIfInBounds_toArray, List.set_cons_zero, List.set_cons_succ, i64_w, i32_w]
                    rfl
                   refine inv_at [0, 2, 3, 4, 6, 7, 8, 9] (fun a0_ b a w' => ∃ (v293 : Value) (adz_v293 : Addr) (m3_ : Value), a = putSel a0_ b [(0, 120, v293), (2, 122, .int .i64 t295), (3, 123, m3_), (4, 124, .int .i64 (rd y292 t295)), (6, 126, .int .i64 t299), (7, 127, .int .i64 (wrap64 (t299 - 2))), (8, 128, .agg #[.int .i64 (rd y292 t295), .int .i64 0, .int .i64 0, .int .i64 0, .int .i64 (wrap64 (t299 - 2))])] ∧ (b 9 = false → w'.heap[gb191]? = some (.cells #[.int .i64 0, .int .i64 0, .int .i64 0, .int .i64 0, .int .i64 0] 41 (0, 0))) ∧ (b 2 = false → IsS104 w0 w' g s0_0 t196 t197) ∧ (KeepBut w w' g none) ∧ (Below w0.heap.size w0 w') ∧ (b 0 = true → Kd.R (Kd.int .i64) 2 w' w.heap.size (fun _ => True) v293 y292) ∧ (b 0 = true → ∃ c_, (v293 : Value) = .slice (some adz_v293) y292.length c_) ∧ (b 2 = true → b 6 = false → IsS104 w0 w' g s0_0 t296 t297) ∧ (b 6 = true → IsS104 w0 w' g s0_0 t300 t301) ∧ (b 9 = true → w'.heap[gb191]? = some (.cells #[.int .i64 (rd y292 t295), .int .i64 0, .int .i64 0, .int .i64 0, .int .i64 (wrap64 (t299 - 2))] 41 (0, 0))) ∧ (b 3 = true → (m3_ : Value) = .pointer (some (adz_v293.add (t295).toNat)))) HT_.out HW_.out (by kernel_rfl) (by kernel_rfl) ?_ ?_ ?_
                   ·exact ⟨.bool false, ⟨0, 0, none⟩, .bool false, by simp only [putSel, Bool.false_eq_true, if_false], fun _ => BK191.out, fun _ => HI0.out, HK.out, HB.out, fun h_ => absurd h_ (by decide), fun h_ => absurd h_ (by decide), fun h_ => absurd h_ (by decide), fun h_ => absurd h_ (by decide), fun h_ => absurd h_ (by decide), fun h_ => absurd h_ (by decide)⟩
                   ·skip
                    clear BK191 HB HI0 HK
                    refine steps_cons ?_ ?_
                    ·rintro b a w' ⟨v293, adz_v293, m3_, ha, Q_BK191, Q_HI0, Q_HK, Q_HB, Q_HO294, Q_HA_HO294, Q_HI0_e2, Q_HI0_e6, Q_BK191_e9, Q_X3_⟩ hb_ hon hoff
                     refine ⟨_, rfl, fun K hK => ?_⟩
                     replace ha := Aside0.mk ha
                     have BK191 := Aside0.mk (Q_BK191 (hoff 9 (by kernel_rfl)))
                     have HK := Aside0.mk Q_HK
                     have HB := Aside0.mk Q_HB
                     refine Kd.R_lit_step (Kd.int .i64) _ 2 ?hg (N := 120) ?hd (xs := ([23, 26] : List Int)) (inner := [.int .i64 23, .int .i64 26]) (ok := fun _ => True) (okp := fun _ => True) ?hr ?hp (fun _ hk => hk) trivial (Below.refl _ _) (Nat.le_refl _) (by simp) ?_; (case hd => rfl); (case hg => rfl); (case hr => first | (go_simp; done) | (go_simp; rfl)); (case hp => exact (Reps.one (show Kd.M (Kd.int .i64) _ _ _ 23 [.int .i64 23] from rfl) (Reps.one (show Kd.M (Kd.int .i64) _ _ _ 26 [.int .i64 26] from rfl) (Reps.none _ _))))
                     intro v293 w132 ho133 hb hg_ hnew_
                     clear hg_ hnew_
                     (first | rw [← Ny292.out] at ho133 | (simp only [Int.reduceToNat] at ho133; rw [← Ny292.out] at ho133))
                     have n0_ := Aside0.mk (Kd.R_lower ho133 (keep_size (w := w) (g := g) (row := none) (by repeat (first | (with_reducible first | exact HK.out | apply KeepBut.set_ | apply keep_drewN | apply keep_drew | apply keep_alloc | refine keep_far ?_ GW191.out _) | exact HK.out))))
                     have n1_ := Aside0.mk (blk_below (g := gb191) (o := .cells #[.int .i64 0, .int .i64 0, .int .i64 0, .int .i64 0, .int .i64 0] 41 (0, 0)) (by exact BK191.out) hb)
                     have n3_ := Aside0.mk (KeepBut.trans (by repeat (first | (with_reducible first | exact HK.out | apply KeepBut.set_ | apply keep_drewN | apply keep_drew | apply keep_alloc | refine keep_far ?_ GW191.out _) | exact HK.out)) (KeepBut.of_below hb g none) (.inl rfl))
                     have n4_ := Aside0.mk (below_step (by repeat (first | (with_reducible first | exact HB.out | apply below_alloc | apply pw_below_drewN | apply below_drew1 | refine below_set ?_ GE191.out) | exact HB.out)) hb)
                     have z_HI0 := fun (h0_ : b 2 = false) => (show IsS104 w0 w132 g s0_0 t196 t197 from by first | exact (IsS104.below (by repeat (first | (with_reducible first | exact (Q_HI0 h0_) | apply IsS104.alloc | apply IsS104.drewN | apply IsS104.drew | refine IsS104.far ?_ NB0_191.out _) | exact (Q_HI0 h0_))) hb))
                     have z_HI0_e2 := fun (h0_ : b 2 = true) (h1_ : b 6 = false) => (show IsS104 w0 w132 g s0_0 t296 t297 from by first | exact (IsS104.below (by repeat (first | (with_reducible first | exact (Q_HI0_e2 h0_ h1_) | apply IsS104.alloc | apply IsS104.drewN | apply IsS104.drew | refine IsS104.far ?_ NB0_191.out _) | exact (Q_HI0_e2 h0_ h1_))) hb))
                     have z_HI0_e6 := fun (h0_ : b 6 = true) => (show IsS104 w0 w132 g s0_0 t300 t301 from by first | exact (IsS104.below (by repeat (first | (with_reducible first | exact (Q_HI0_e6 h0_) | apply IsS104.alloc | apply IsS104.drewN | apply IsS104.drew | refine IsS104.far ?_ NB0_191.out _) | exact (Q_HI0_e6 h0_))) hb))
                     clear BK191
                     clear HK
                     clear HB
                     have HO294 := n0_
                     have BK191 := n1_
                     have HK := n3_
                     have HB := n4_
                     clear n0_ n1_ n3_ n4_
                     clear hb ho133
                     obtain ⟨Ao134, co134, eo134⟩ := Kd.R_slice HO294.out
                     subst eo134
                     obtain ⟨ado134, fo134, _⟩ := Kd.at_int (Kd.R_reads' HO294.out).2.2 0 (by decide) (by rw [Ny292.out]; simp)
                     cases fo134
                     refine hK.out _ _ ⟨.slice (some ado134) y292.length co134, ado134, m3_, (by rw [ha.out]; exact putSel_upk 0 hb_ rfl rfl rfl), fun _ => (by exact BK191.out), z_HI0, (by repeat (first | (with_reducible first | exact HK.out | apply KeepBut.set_ | apply keep_drewN | apply keep_drew | apply keep_alloc | refine keep_far ?_ GW191.out _) | exact HK.out)), (by repeat (first | (with_reducible first | exact HB.out | apply below_alloc | apply pw_below_drewN | apply below_drew1 | refine below_set ?_ GE191.out) | exact HB.out)), fun _ => (by exact HO294.out), fun _ => ⟨_, rfl⟩, z_HI0_e2, z_HI0_e6, fun h0_ => absurd ((hoff 9 (by kernel_rfl)).symm.trans h0_) (by decide), fun h0_ => absurd ((hoff 3 (by kernel_rfl)).symm.trans h0_) (by decide)⟩
                    refine steps_cons ?_ ?_
                    ·rintro b a w' ⟨v293, adz_v293, m3_, ha, Q_BK191, Q_HI0, Q_HK, Q_HB, Q_HO294, Q_HA_HO294, Q_HI0_e2, Q_HI0_e6, Q_BK191_e9, Q_X3_⟩ hb_ hon hoff
                     refine ⟨_, rfl, fun K hK => ?_⟩
                     have e121 : a.tmps[121]? = some (.pointer (some ⟨g, 0, none⟩)) := by rw [ha]; exact (putSel_off rfl).trans rfl
                     replace ha := Aside0.mk ha
                     have BK191 := Aside0.mk (Q_BK191 (hoff 9 (by kernel_rfl)))
                     have HI0 := Aside0.mk (Q_HI0 hb_)
                     have HK := Aside0.mk Q_HK
                     have HB := Aside0.mk Q_HB
                     refine goes_ Try.func68 (by kernel_rfl) rfl #[.pointer (some ⟨g, 0, none⟩), .int .i64 2] (by rfl) rfl rfl (by first | (simp only [List.map_toArray, List.map_cons, List.map_nil, Act.eval, Array.getD_eq_getD_getElem?, Option.getD_some, e121]; done) | (simp only [List.map_toArray, List.map_cons, List.map_nil, Act.eval, Array.getD_eq_getD_getElem?, Option.getD_some, e121]; rfl)) ?_
                     with_reducible refine (spec_l1Next.calls g s0_0 t196 t197 2 t295 t296 t297 w0 _ ?side1 ?side2 A127.out).mono ?_
                     (case side1 => repeat (first | (with_reducible first | exact HI0.out | apply IsS104.alloc | apply IsS104.drewN | apply IsS104.drew | refine IsS104.far ?_ NB0_191.out _) | exact HI0.out))
                     (case side2 => repeat (first | (with_reducible first | exact HB.out | apply below_alloc | apply pw_below_drewN | apply below_drew1 | refine below_set ?_ (IsS104.ge HI0.out) | refine below_set ?_ GE191.out) | exact HB.out))
                     rintro e w132 ⟨rfl, hi, hb, hk⟩
                     refine ⟨_, rfl, ?_⟩
                     have n0_ := Aside0.mk (KeepBut.blk hk (g' := gb191) (o := .cells #[.int .i64 0, .int .i64 0, .int .i64 0, .int .i64 0, .int .i64 0] 41 (0, 0)) (by exact BK191.out) NB191_0.out (by simp))
                     have n1_ := Aside0.mk (KeepBut.trans (by repeat (first | (with_reducible first | exact HK.out | apply KeepBut.set_ | apply keep_drewN | apply keep_drew | apply keep_alloc | refine keep_far ?_ GW191.out _) | exact HK.out)) hk (.inl rfl))
                     have n2_ := Aside0.mk (hb)
                     have n3_ := Aside0.mk (hi)
                     have z_HO294 := fun (h0_ : b 0 = true) => (show Kd.R (Kd.int .i64) 2 w132 w.heap.size (fun _ => True) v293 y292 from by first | exact (Kd.R_mono (Kd.R_keep (IsS104.apart (show IsS104 w0 _ g s0_0 t196 t197 from by repeat (first | (with_reducible first | exact HI0.out | apply IsS104.alloc | apply IsS104.drewN | apply IsS104.drew | refine IsS104.far ?_ NB0_191.out _) | exact HI0.out)) (by exact (Q_HO294 h0_)) (by decide)) hk (fun _ h => h.2)) (fun _ h => h.1)) | exact Kd.R_mono (Kd.R_mono (Kd.R_keep (IsS104.apart (show IsS104 w0 _ g s0_0 t196 t197 from by repeat (first | (with_reducible first | exact HI0.out | apply IsS104.alloc | apply IsS104.drewN | apply IsS104.drew | refine IsS104.far ?_ NB0_191.out _) | exact HI0.out)) (by exact (Q_HO294 h0_)) (by decide)) hk (fun _ h => h.2)) (fun _ h => h.1)) (fun _ h_ => by first | trivial | exact h_ | exact h_.1))
                     clear BK191
                     clear HK
                     clear HB
                     clear HI0
                     have BK191 := n0_
                     have HK := n1_
                     have HB := n2_
                     have HI0 := n3_
                     clear n0_ n1_ n2_ n3_
                     (try clear hb)
                     (try clear hb2)
                     (try clear hk)
                     (try clear hi)
                     refine hK.out _ _ ⟨v293, adz_v293, m3_, (by rw [ha.out]; exact putSel_upk 1 hb_ rfl rfl rfl), fun _ => (by exact BK191.out), fun h0_ => absurd ((up_self b 2).symm.trans h0_) (by decide), (by repeat (first | (with_reducible first | exact HK.out | apply KeepBut.set_ | apply keep_drewN | apply keep_drew | apply keep_alloc | refine keep_far ?_ GW191.out _) | exact HK.out)), (by repeat (first | (with_reducible first | exact HB.out | apply below_alloc | apply pw_below_drewN | apply below_drew1 | refine below_set ?_ (IsS104.ge HI0.out) | refine below_set ?_ GE191.out) | exact HB.out)), z_HO294, Q_HA_HO294, fun _ _ => (by repeat (first | (with_reducible first | exact HI0.out | apply IsS104.alloc | apply IsS104.drewN | apply IsS104.drew | refine IsS104.far ?_ NB0_191.out _) | exact HI0.out)), fun h0_ => absurd ((hoff 6 (by kernel_rfl)).symm.trans h0_) (by decide), fun h0_ => absurd ((hoff 9 (by kernel_rfl)).symm.trans h0_) (by decide), fun h0_ => absurd ((hoff 3 (by kernel_rfl)).symm.trans h0_) (by decide)⟩
                    refine steps_cons ?_ ?_
                    ·rintro b a w' ⟨v293, adz_v293, m3_, ha, Q_BK191, Q_HI0, Q_HK, Q_HB, Q_HO294, Q_HA_HO294, Q_HI0_e2, Q_HI0_e6, Q_BK191_e9, Q_X3_⟩ hb_ hon hoff
                     refine ⟨_, rfl, fun K hK => ?_⟩
                     have e120 : a.tmps[120]? = some (v293) := by rw [ha]; exact putSel_on (e := (0, 120, v293)) 0 rfl rfl (hon 0 (by kernel_rfl)) rfl
                     have e122 : a.tmps[122]? = some (.int .i64 t295) := by rw [ha]; exact putSel_on (e := (2, 122, .int .i64 t295)) 1 rfl rfl (hon 2 (by kernel_rfl)) rfl
                     replace ha := Aside0.mk ha
                     have BK191 := Aside0.mk (Q_BK191 (hoff 9 (by kernel_rfl)))
                     have HK := Aside0.mk Q_HK
                     have HB := Aside0.mk Q_HB
                     have HO294 := Aside0.mk (Q_HO294 (hon 0 (by kernel_rfl)))
                     have HA_HO294 := Aside0.mk (Q_HA_HO294 (hon 0 (by kernel_rfl)))
                     obtain ⟨c_, hv_⟩ := HA_HO294.out
                     rw [hv_] at e120
                     refine value_ (w1 := w') (v := .pointer (some (adz_v293.add (t295).toNat))) (by rfl) rfl ?_ ?_
                     ·go_simp
                      (try simp only [i64_w])
                      try rfl
                     refine hK.out _ _ ⟨v293, adz_v293, (.pointer (some (adz_v293.add (t295).toNat))), (by rw [ha.out]; exact putSel_upk 2 hb_ rfl rfl rfl), Q_BK191, fun h0_ => absurd ((hon 2 (by kernel_rfl)).symm.trans h0_) (by decide), Q_HK, Q_HB, Q_HO294, Q_HA_HO294, Q_HI0_e2, Q_HI0_e6, fun h0_ => absurd ((hoff 9 (by kernel_rfl)).symm.trans h0_) (by decide), fun _ => rfl⟩
                    refine steps_cons ?_ ?_
                    ·rintro b a w' ⟨v293, adz_v293, m3_, ha, Q_BK191, Q_HI0, Q_HK, Q_HB, Q_HO294, Q_HA_HO294, Q_HI0_e2, Q_HI0_e6, Q_BK191_e9, Q_X3_⟩ hb_ hon hoff
                     refine ⟨_, rfl, fun K hK => ?_⟩
                     have e123 : a.tmps[123]? = some (m3_) := by rw [ha]; exact putSel_on (e := (3, 123, m3_)) 2 rfl rfl (hon 3 (by kernel_rfl)) rfl
                     rw [Q_X3_ (hon 3 (by kernel_rfl))] at e123
                     replace ha := Aside0.mk ha
                     have BK191 := Aside0.mk (Q_BK191 (hoff 9 (by kernel_rfl)))
                     have HK := Aside0.mk Q_HK
                     have HB := Aside0.mk Q_HB
                     have HO294 := Aside0.mk (Q_HO294 (hon 0 (by kernel_rfl)))
                     have HA_HO294 := Aside0.mk (Q_HA_HO294 (hon 0 (by kernel_rfl)))
                     obtain ⟨c_, hv_⟩ := HA_HO294.out
                     have hF_ := HO294.out
                     rw [hv_] at hF_
                     obtain ⟨ad_, ea_, hx_⟩ := Kd.at_int (Kd.R_reads' hF_).2.2 t295 (of_eq_true pi298) (of_eq_true qi298)
                     cases ea_
                     refine value_ (w1 := w') (v := .int .i64 (rd y292 t295)) (by rfl) rfl ?_ ?_
                     ·go_simp
                      (try simp only [i64_w])
                      try rfl
                     refine hK.out _ _ ⟨v293, adz_v293, m3_, (by rw [ha.out]; exact putSel_upk 3 hb_ rfl rfl rfl), Q_BK191, fun h0_ => absurd ((hon 2 (by kernel_rfl)).symm.trans h0_) (by decide), Q_HK, Q_HB, Q_HO294, Q_HA_HO294, Q_HI0_e2, Q_HI0_e6, fun h0_ => absurd ((hoff 9 (by kernel_rfl)).symm.trans h0_) (by decide), Q_X3_⟩
                    refine steps_cons ?_ ?_
                    ·rintro b a w' ⟨v293, adz_v293, m3_, ha, Q_BK191, Q_HI0, Q_HK, Q_HB, Q_HO294, Q_HA_HO294, Q_HI0_e2, Q_HI0_e6, Q_BK191_e9, Q_X3_⟩ hb_ hon hoff
                     refine ⟨_, rfl, fun K hK => ?_⟩
                     have e125 : a.tmps[125]? = some (.pointer (some ⟨g, 0, none⟩)) := by rw [ha]; exact (putSel_off rfl).trans rfl
                     replace ha := Aside0.mk ha
                     have BK191 := Aside0.mk (Q_BK191 (hoff 9 (by kernel_rfl)))
                     have HK := Aside0.mk Q_HK
                     have HB := Aside0.mk Q_HB
                     have HI0 := Aside0.mk (Q_HI0_e2 (hon 2 (by kernel_rfl)) hb_)
                     refine goes_ Try.func68 (by kernel_rfl) rfl #[.pointer (some ⟨g, 0, none⟩), .int .i64 6] (by rfl) rfl rfl (by first | (simp only [List.map_toArray, List.map_cons, List.map_nil, Act.eval, Array.getD_eq_getD_getElem?, Option.getD_some, e125]; done) | (simp only [List.map_toArray, List.map_cons, List.map_nil, Act.eval, Array.getD_eq_getD_getElem?, Option.getD_some, e125]; rfl)) ?_
                     with_reducible refine (spec_l1Next.calls g s0_0 t296 t297 6 t299 t300 t301 w0 _ ?side1 ?side2 A130.out).mono ?_
                     (case side1 => repeat (first | (with_reducible first | exact HI0.out | apply IsS104.alloc | apply IsS104.drewN | apply IsS104.drew | refine IsS104.far ?_ NB0_191.out _) | exact HI0.out))
                     (case side2 => repeat (first | (with_reducible first | exact HB.out | apply below_alloc | apply pw_below_drewN | apply below_drew1 | refine below_set ?_ (IsS104.ge HI0.out) | refine below_set ?_ GE191.out) | exact HB.out))
                     rintro e w134 ⟨rfl, hi, hb, hk⟩
                     refine ⟨_, rfl, ?_⟩
                     have n0_ := Aside0.mk (KeepBut.blk hk (g' := gb191) (o := .cells #[.int .i64 0, .int .i64 0, .int .i64 0, .int .i64 0, .int .i64 0] 41 (0, 0)) (by exact BK191.out) NB191_0.out (by simp))
                     have n1_ := Aside0.mk (KeepBut.trans (by repeat (first | (with_reducible first | exact HK.out | apply KeepBut.set_ | apply keep_drewN | apply keep_drew | apply keep_alloc | refine keep_far ?_ GW191.out _) | exact HK.out)) hk (.inl rfl))
                     have n2_ := Aside0.mk (hb)
                     have n3_ := Aside0.mk (hi)
                     have z_HO294 := fun (h0_ : b 0 = true) => (show Kd.R (Kd.int .i64) 2 w134 w.heap.size (fun _ => True) v293 y292 from by first | exact (Kd.R_mono (Kd.R_keep (IsS104.apart (show IsS104 w0 _ g s0_0 t296 t297 from by repeat (first | (with_reducible first | exact HI0.out | apply IsS104.alloc | apply IsS104.drewN | apply IsS104.drew | refine IsS104.far ?_ NB0_191.out _) | exact HI0.out)) (by exact (Q_HO294 h0_)) (by decide)) hk (fun _ h => h.2)) (fun _ h => h.1)) | exact Kd.R_mono (Kd.R_mono (Kd.R_keep (IsS104.apart (show IsS104 w0 _ g s0_0 t296 t297 from by repeat (first | (with_reducible first | exact HI0.out | apply IsS104.alloc | apply IsS104.drewN | apply IsS104.drew | refine IsS104.far ?_ NB0_191.out _) | exact HI0.out)) (by exact (Q_HO294 h0_)) (by decide)) hk (fun _ h => h.2)) (fun _ h => h.1)) (fun _ h_ => by first | trivial | exact h_ | exact h_.1))
                     clear BK191
                     clear HK
                     clear HB
                     clear HI0
                     have BK191 := n0_
                     have HK := n1_
                     have HB := n2_
                     have HI0 := n3_
                     clear n0_ n1_ n2_ n3_
                     (try clear hb)
                     (try clear hb2)
                     (try clear hk)
                     (try clear hi)
                     refine hK.out _ _ ⟨v293, adz_v293, m3_, (by rw [ha.out]; exact putSel_upk 4 hb_ rfl rfl rfl), fun _ => (by exact BK191.out), fun h0_ => absurd ((hon 2 (by kernel_rfl)).symm.trans h0_) (by decide), (by repeat (first | (with_reducible first | exact HK.out | apply KeepBut.set_ | apply keep_drewN | apply keep_drew | apply keep_alloc | refine keep_far ?_ GW191.out _) | exact HK.out)), (by repeat (first | (with_reducible first | exact HB.out | apply below_alloc | apply pw_below_drewN | apply below_drew1 | refine below_set ?_ (IsS104.ge HI0.out) | refine below_set ?_ GE191.out) | exact HB.out)), z_HO294, Q_HA_HO294, fun _ h1_ => absurd ((up_self b 6).symm.trans h1_) (by decide), fun _ => (by repeat (first | (with_reducible first | exact HI0.out | apply IsS104.alloc | apply IsS104.drewN | apply IsS104.drew | refine IsS104.far ?_ NB0_191.out _) | exact HI0.out)), fun h0_ => absurd ((hoff 9 (by kernel_rfl)).symm.trans h0_) (by decide), Q_X3_⟩
                    refine steps_cons ?_ ?_
                    ·rintro b a w' ⟨v293, adz_v293, m3_, ha, Q_BK191, Q_HI0, Q_HK, Q_HB, Q_HO294, Q_HA_HO294, Q_HI0_e2, Q_HI0_e6, Q_BK191_e9, Q_X3_⟩ hb_ hon hoff
                     refine ⟨_, rfl, fun K hK => ?_⟩
                     have e126 : a.tmps[126]? = some (.int .i64 t299) := by rw [ha]; exact putSel_on (e := (6, 126, .int .i64 t299)) 4 rfl rfl (hon 6 (by kernel_rfl)) rfl
                     replace ha := Aside0.mk ha
                     have BK191 := Aside0.mk (Q_BK191 (hoff 9 (by kernel_rfl)))
                     have HK := Aside0.mk Q_HK
                     have HB := Aside0.mk Q_HB
                     have HI0 := Aside0.mk (Q_HI0_e6 (hon 6 (by kernel_rfl)))
                     refine value_ (w1 := w') (v := .int .i64 (wrap64 (t299 - 2))) (by rfl) rfl ?_ ?_
                     ·go_simp
                      (try simp only [i64_w])
                      try rfl
                     refine hK.out _ _ ⟨v293, adz_v293, m3_, (by rw [ha.out]; exact putSel_upk 5 hb_ rfl rfl rfl), Q_BK191, fun h0_ => absurd ((hon 2 (by kernel_rfl)).symm.trans h0_) (by decide), Q_HK, Q_HB, Q_HO294, Q_HA_HO294, fun _ h1_ => absurd ((hon 6 (by kernel_rfl)).symm.trans h1_) (by decide), Q_HI0_e6, fun h0_ => absurd ((hoff 9 (by kernel_rfl)).symm.trans h0_) (by decide), Q_X3_⟩
                    refine steps_cons ?_ ?_
                    ·rintro b a w' ⟨v293, adz_v293, m3_, ha, Q_BK191, Q_HI0, Q_HK, Q_HB, Q_HO294, Q_HA_HO294, Q_HI0_e2, Q_HI0_e6, Q_BK191_e9, Q_X3_⟩ hb_ hon hoff
                     refine ⟨_, rfl, fun K hK => ?_⟩
                     have e124 : a.tmps[124]? = some (.int .i64 (rd y292 t295)) := by rw [ha]; exact putSel_on (e := (4, 124, .int .i64 (rd y292 t295))) 3 rfl rfl (hon 4 (by kernel_rfl)) rfl
                     have e127 : a.tmps[127]? = some (.int .i64 (wrap64 (t299 - 2))) := by rw [ha]; exact putSel_on (e := (7, 127, .int .i64 (wrap64 (t299 - 2)))) 5 rfl rfl (hon 7 (by kernel_rfl)) rfl
                     replace ha := Aside0.mk ha
                     have BK191 := Aside0.mk (Q_BK191 (hoff 9 (by kernel_rfl)))
                     have HK := Aside0.mk Q_HK
                     have HB := Aside0.mk Q_HB
                     have HO294 := Aside0.mk (Q_HO294 (hon 0 (by kernel_rfl)))
                     have HA_HO294 := Aside0.mk (Q_HA_HO294 (hon 0 (by kernel_rfl)))
                     have HI0 := Aside0.mk (Q_HI0_e6 (hon 6 (by kernel_rfl)))
                     refine value_ (w1 := w') (v := .agg #[.int .i64 (rd y292 t295), .int .i64 0, .int .i64 0, .int .i64 0, .int .i64 (wrap64 (t299 - 2))]) (by rfl) rfl ?_ ?_
                     ·go_simp
                      (try simp only [i64_w])
                      try rfl
                     refine hK.out _ _ ⟨v293, adz_v293, m3_, (by rw [ha.out]; exact putSel_upk 6 hb_ rfl rfl rfl), Q_BK191, fun h0_ => absurd ((hon 2 (by kernel_rfl)).symm.trans h0_) (by decide), Q_HK, Q_HB, Q_HO294, Q_HA_HO294, fun _ h1_ => absurd ((hon 6 (by kernel_rfl)).symm.trans h1_) (by decide), Q_HI0_e6, fun h0_ => absurd ((hoff 9 (by kernel_rfl)).symm.trans h0_) (by decide), Q_X3_⟩
                    refine steps_cons ?_ ?_
                    ·rintro b a w' ⟨v293, adz_v293, m3_, ha, Q_BK191, Q_HI0, Q_HK, Q_HB, Q_HO294, Q_HA_HO294, Q_HI0_e2, Q_HI0_e6, Q_BK191_e9, Q_X3_⟩ hb_ hon hoff
                     refine ⟨_, rfl, fun K hK => ?_⟩
                     have e2 : a.tmps[2]? = some (.pointer (some ⟨gb191, 0, none⟩)) := by rw [ha]; exact (putSel_off rfl).trans rfl
                     have e128 : a.tmps[128]? = some (.agg #[.int .i64 (rd y292 t295), .int .i64 0, .int .i64 0, .int .i64 0, .int .i64 (wrap64 (t299 - 2))]) := by rw [ha]; exact putSel_on (e := (8, 128, .agg #[.int .i64 (rd y292 t295), .int .i64 0, .int .i64 0, .int .i64 0, .int .i64 (wrap64 (t299 - 2))])) 6 rfl rfl (hon 8 (by kernel_rfl)) rfl
                     replace ha := Aside0.mk ha
                     have BK191 := Aside0.mk (Q_BK191 hb_)
                     have HK := Aside0.mk Q_HK
                     have HB := Aside0.mk Q_HB
                     have HO294 := Aside0.mk (Q_HO294 (hon 0 (by kernel_rfl)))
                     have HA_HO294 := Aside0.mk (Q_HA_HO294 (hon 0 (by kernel_rfl)))
                     have HI0 := Aside0.mk (Q_HI0_e6 (hon 6 (by kernel_rfl)))
                     obtain ⟨co138, eo138⟩ := HA_HO294.out
                     clear HA_HO294
                     subst eo138
                     have hs139 : w'.cell? ⟨gb191, 0, none⟩ = some (.int .i64 0) := (blk_cell BK191.out 0).trans rfl
                     have hfs139 := blk_frozen BK191.out 0
                     have hs140 : w'.cell? ⟨gb191, 1, none⟩ = some (.int .i64 0) := (blk_cell BK191.out 1).trans rfl
                     have hfs140 := blk_frozen BK191.out 1
                     have hs141 : w'.cell? ⟨gb191, 2, none⟩ = some (.int .i64 0) := (blk_cell BK191.out 2).trans rfl
                     have hfs141 := blk_frozen BK191.out 2
                     have hs142 : w'.cell? ⟨gb191, 3, none⟩ = some (.int .i64 0) := (blk_cell BK191.out 3).trans rfl
                     have hfs142 := blk_frozen BK191.out 3
                     have hs143 : w'.cell? ⟨gb191, 4, none⟩ = some (.int .i64 0) := (blk_cell BK191.out 4).trans rfl
                     have hfs143 := blk_frozen BK191.out 4
                     refine skip_ (w1 := ?_) (by rfl) rfl ?_ ?_
                     rotate_left
                     ·go_simp
                      rfl
                     refine hK.out _ _ ⟨.slice (some adz_v293) y292.length co138, adz_v293, m3_, (by rw [ha.out]; exact putSel_none (v := undef) rfl), fun h0_ => absurd ((up_self b 9).symm.trans h0_) (by decide), fun h0_ => absurd ((hon 2 (by kernel_rfl)).symm.trans h0_) (by decide), (by repeat (first | (with_reducible first | exact HK.out | apply KeepBut.set_ | apply keep_drewN | apply keep_drew | apply keep_alloc | refine keep_far ?_ GW191.out _) | exact HK.out)), (by repeat (first | (with_reducible first | exact HB.out | apply below_alloc | apply pw_below_drewN | apply below_drew1 | refine below_set ?_ (IsS104.ge HI0.out) | refine below_set ?_ GE191.out) | exact HB.out)), fun _ => (by exact Kd.R_mono (Kd.R_far (p := ⟨gb191, 4, none⟩) (Kd.R_far (p := ⟨gb191, 3, none⟩) (Kd.R_far (p := ⟨gb191, 2, none⟩) (Kd.R_far (p := ⟨gb191, 1, none⟩) (Kd.R_far (p := ⟨gb191, 0, none⟩) (Kd.R_types HO294.out BK191.out (by decide)) (fun _ hk => hk.2) (.int .i64 (rd y292 t295))) (fun _ hk => hk.2) (.int .i64 0)) (fun _ hk => hk.2) (.int .i64 0)) (fun _ hk => hk.2) (.int .i64 0)) (fun _ hk => hk.2) (.int .i64 (wrap64 (t299 - 2)))) (fun _ hk => trivial)), fun _ => ⟨_, rfl⟩, fun _ h1_ => absurd ((hon 6 (by kernel_rfl)).symm.trans h1_) (by decide), fun _ => (by repeat (first | (with_reducible first | exact HI0.out | apply IsS104.alloc | apply IsS104.drewN | apply IsS104.drew | refine IsS104.far ?_ NB0_191.out _) | exact HI0.out)), fun _ => (by refine blk_put (cs := #[.int .i64 (rd y292 t295), .int .i64 0, .int .i64 0, .int .i64 0, .int .i64 0]) ?_ 4 _ rfl; refine blk_put (cs := #[.int .i64 (rd y292 t295), .int .i64 0, .int .i64 0, .int .i64 0, .int .i64 0]) ?_ 3 _ rfl; refine blk_put (cs := #[.int .i64 (rd y292 t295), .int .i64 0, .int .i64 0, .int .i64 0, .int .i64 0]) ?_ 2 _ rfl; refine blk_put (cs := #[.int .i64 (rd y292 t295), .int .i64 0, .int .i64 0, .int .i64 0, .int .i64 0]) ?_ 1 _ rfl; refine blk_put (cs := #[.int .i64 0, .int .i64 0, .int .i64 0, .int .i64 0, .int .i64 0]) ?_ 0 _ rfl; exact BK191.out), Q_X3_⟩
                    exact steps_nil
                   rintro b a w142 hall ⟨v293, adz_v293, m3_, ha, Q_BK191, Q_HI0, Q_HK, Q_HB, Q_HO294, Q_HA_HO294, Q_HI0_e2, Q_HI0_e6, Q_BK191_e9, Q_X3_⟩
                   clear BK191 HB HI0 HK
                   have hb0_ := hall 0 (by kernel_rfl)
                   have hb2_ := hall 2 (by kernel_rfl)
                   have hb3_ := hall 3 (by kernel_rfl)
                   have hb4_ := hall 4 (by kernel_rfl)
                   have hb6_ := hall 6 (by kernel_rfl)
                   have hb7_ := hall 7 (by kernel_rfl)
                   have hb8_ := hall 8 (by kernel_rfl)
                   have hb9_ := hall 9 (by kernel_rfl)
                   subst ha
                   obtain rfl := Q_X3_ hb3_
                   simp only [putSel, hb0_, hb2_, hb3_, hb4_, hb6_, hb7_, hb8_, hb9_, if_true, Act.put, List.setIfInBounds_toArray, List.set_cons_zero, List.set_cons_succ]
                   clear Q_BK191
                   clear Q_HI0
                   have HK := Aside0.mk Q_HK
                   clear Q_HK
                   have HB := Aside0.mk Q_HB
                   clear Q_HB
                   have HO294 := Aside0.mk (Q_HO294 hb0_)
                   clear Q_HO294
                   have HA_HO294 := Aside0.mk (Q_HA_HO294 hb0_)
                   clear Q_HA_HO294
                   clear Q_HI0_e2
                   have HI0 := Aside0.mk (Q_HI0_e6 hb6_)
                   clear Q_HI0_e6
                   have BK191 := Aside0.mk (Q_BK191_e9 hb9_)
                   clear Q_BK191_e9
                   clear hall hb0_ hb2_ hb3_ hb4_ hb6_ hb7_ hb8_ hb9_
                   obtain ⟨co143, eo143⟩ := HA_HO294.out
                   clear HA_HO294
                   subst eo143
                   try go_wp2
                   refine bodyPost_ret (results_cell_row rfl _ _ gb191 41 #[.int .i64 (rd y292 t295), .int .i64 0, .int .i64 0, .int .i64 0, .int .i64 (wrap64 (t299 - 2))] (0, 0) _ rfl (by exact BK191.out) Try.underlying41 rfl (by kernel_rfl)) rfl ?_
                   exact ⟨by first | rfl | (simp [*] <;> rfl), by repeat (first | (with_reducible first | exact HI0.out | apply IsS104.alloc | apply IsS104.drewN | apply IsS104.drew | refine IsS104.far ?_ NB0_191.out _) | exact HI0.out), by repeat (first | (with_reducible first | exact HB.out | apply below_alloc | apply pw_below_drewN | apply below_drew1 | refine below_set ?_ (IsS104.ge HI0.out) | refine below_set ?_ GE191.out) | exact HB.out), by repeat (first | (with_reducible first | exact HK.out | apply KeepBut.set_ | apply keep_drewN | apply keep_drew | apply keep_alloc | refine keep_far ?_ GW191.out _) | exact HK.out)⟩
                  ·rw [if_neg c129] at H
                   exact absurd H (by simp)
                 ·rw [if_neg c128] at H
                  exact absurd H (by simp)
                ·rw [if_neg c126] at H
                 have c126b0 : (t195 == 13) = false := beq_eq_false_iff_ne.mpr c126
                 have c126b1 : (t195 != 13) = true := bne_iff_ne.mpr c126
                 by_cases c144 : t195 = 14
                 ·rw [if_pos c144] at H
                  have c144b0 : (t195 == 14) = true := beq_iff_eq.mpr c144
                  have c144b1 : (t195 != 14) = false := bne_eq_false_iff_eq.mpr c144
                  clear c144
                  replace H := Option.bind_eq_some_iff.mp H
                  obtain ⟨⟨t302, t303, t304⟩, A1450, H⟩ := H
                  replace H : ((spec_l1Next.f s0_0 t303 t304 6).bind fun bt305 => (some (wrap64 (24 + t302), t192, 0, 0, wrap64 (bt305.1 - 2), bt305.2.1, bt305.2.2))) = some (r1, r2, r3, r4, r5, r6, r7) := H
                  have A145 := Aside0.mk A1450
                  clear A1450
                  replace H := Option.bind_eq_some_iff.mp H
                  obtain ⟨⟨t305, t306, t307⟩, A1460, H⟩ := H
                  replace H : (some (wrap64 (24 + t302), t192, 0, 0, wrap64 (t305 - 2), t306, t307)) = some (r1, r2, r3, r4, r5, r6, r7) := H
                  have A146 := Aside0.mk A1460
                  clear A1460
                  simp only [Option.some.injEq, Prod.mk.injEq] at H
                  obtain ⟨rfl, rfl, rfl, rfl, rfl, rfl, rfl⟩ := H
                  go_wp2_with (first | ((with_reducible refine gate_callee (f := 68) rfl ?_); refine goesL_ (some 132) rfl rfl Try.func68 (by kernel_rfl) rfl #[.pointer (some ⟨g, 0, none⟩), .int .i64 2] rfl (by (try simp only [List.map_toArray, List.map_cons, List.map_nil]); first | done | rfl) ?_; (with_reducible refine (spec_l1Next.calls g s0_0 t196 t197 2 t302 t303 t304 w0 _ ?side1 ?side2 A145.out).mono ?_); (case side1 => repeat (first | (with_reducible first | exact HI0.out | apply IsS104.alloc | apply IsS104.drewN | apply IsS104.drew | refine IsS104.far ?_ NB0_191.out _) | exact HI0.out)); (case side2 => repeat (first | (with_reducible first | exact HB.out | apply below_alloc | apply pw_below_drewN | apply below_drew1 | refine below_set ?_ (IsS104.ge HI0.out) | refine below_set ?_ GE191.out) | exact HB.out)); rintro e w147 ⟨rfl, hi, hb, hk⟩; refine ⟨_, rfl, ?_⟩; have n0_ := Aside0.mk (KeepBut.blk hk (g' := gb191) (o := .cells #[.int .i64 0, .int .i64 0, .int .i64 0, .int .i64 0, .int .i64 0] 41 (0, 0)) (by exact BK191.out) NB191_0.out (by simp)); have n1_ := Aside0.mk (KeepBut.trans (by repeat (first | (with_reducible first | exact HK.out | apply KeepBut.set_ | apply keep_drewN | apply keep_drew | apply keep_alloc | refine keep_far ?_ GW191.out _) | exact HK.out)) hk (.inl rfl)); have n2_ := Aside0.mk (hb); have n3_ := Aside0.mk (hi); clear BK191; clear HK; clear HB; clear HI0; have BK191 := n0_; have HK := n1_; have HB := n2_; have HI0 := n3_; clear n0_ n1_ n2_ n3_; (try clear hb); (try clear hb2); (try clear hk); (try clear hi)) | ((with_reducible refine gate_callee (f := 68) rfl ?_); refine goesL_ (some 136) rfl rfl Try.func68 (by kernel_rfl) rfl #[.pointer (some ⟨g, 0, none⟩), .int .i64 6] rfl (by (try simp only [List.map_toArray, List.map_cons, List.map_nil]); first | done | rfl) ?_; (with_reducible refine (spec_l1Next.calls g s0_0 t303 t304 6 t305 t306 t307 w0 _ ?side1 ?side2 A146.out).mono ?_); (case side1 => repeat (first | (with_reducible first | exact HI0.out | apply IsS104.alloc | apply IsS104.drewN | apply IsS104.drew | refine IsS104.far ?_ NB0_191.out _) | exact HI0.out)); (case side2 => repeat (first | (with_reducible first | exact HB.out | apply below_alloc | apply pw_below_drewN | apply below_drew1 | refine below_set ?_ (IsS104.ge HI0.out) | refine below_set ?_ GE191.out) | exact HB.out)); rintro e w148 ⟨rfl, hi, hb, hk⟩; refine ⟨_, rfl, ?_⟩; have n0_ := Aside0.mk (KeepBut.blk hk (g' := gb191) (o := .cells #[.int .i64 0, .int .i64 0, .int .i64 0, .int .i64 0, .int .i64 0] 41 (0, 0)) (by exact BK191.out) NB191_0.out (by simp)); have n1_ := Aside0.mk (KeepBut.trans (by repeat (first | (with_reducible first | exact HK.out | apply KeepBut.set_ | apply keep_drewN | apply keep_drew | apply keep_alloc | refine keep_far ?_ GW191.out _) | exact HK.out)) hk (.inl rfl)); have n2_ := Aside0.mk (hb); have n3_ := Aside0.mk (hi); clear BK191; clear HK; clear HB; clear HI0; have BK191 := n0_; have HK := n1_; have HB := n2_; have HI0 := n3_; clear n0_ n1_ n2_ n3_; (try clear hb); (try clear hb2); (try clear hk); (try clear hi); have hnb149 := NB191_0.out; have hnc149 := NB0_191.out; have hcz150_0 : w148.cell? ⟨gb191, 0, none⟩ = some (.int .i64 0) := (blk_cell BK191.out 0).trans rfl; have hcz150_1 : w148.cell? ⟨gb191, 1, none⟩ = some (.int .i64 0) := (blk_cell BK191.out 1).trans rfl; have hcz150_2 : w148.cell? ⟨gb191, 2, none⟩ = some (.int .i64 0) := (blk_cell BK191.out 2).trans rfl; have hcz150_3 : w148.cell? ⟨gb191, 3, none⟩ = some (.int .i64 0) := (blk_cell BK191.out 3).trans rfl; have hcz150_4 : w148.cell? ⟨gb191, 4, none⟩ = some (.int .i64 0) := (blk_cell BK191.out 4).trans rfl; have hfz150_0 := blk_frozen BK191.out 0; have hfz150_1 := blk_frozen BK191.out 1; have hfz150_2 := blk_frozen BK191.out 2; have hfz150_3 := blk_frozen BK191.out 3; have hfz150_4 := blk_frozen BK191.out 4))
                  refine bodyPost_ret (results_cell_row rfl _ _ gb191 41 #[.int .i64 (wrap64 (24 + t302)), .int .i64 t192, .int .i64 0, .int .i64 0, .int .i64 (wrap64 (t305 - 2))] (0, 0) _ rfl (by refine blk_put (cs := #[.int .i64 (wrap64 (24 + t302)), .int .i64 t192, .int .i64 0, .int .i64 0, .int .i64 0]) ?_ 4 _ rfl; refine blk_put (cs := #[.int .i64 (wrap64 (24 + t302)), .int .i64 t192, .int .i64 0, .int .i64 0, .int .i64 0]) ?_ 3 _ rfl; refine blk_put (cs := #[.int .i64 (wrap64 (24 + t302)), .int .i64 t192, .int .i64 0, .int .i64 0, .int .i64 0]) ?_ 2 _ rfl; refine blk_put (cs := #[.int .i64 (wrap64 (24 + t302)), .int .i64 0, .int .i64 0, .int .i64 0, .int .i64 0]) ?_ 1 _ rfl; refine blk_put (cs := #[.int .i64 0, .int .i64 0, .int .i64 0, .int .i64 0, .int .i64 0]) ?_ 0 _ rfl; exact BK191.out) Try.underlying41 rfl (by kernel_rfl)) rfl ?_
                  exact ⟨by first | rfl | (simp [*] <;> rfl), by repeat (first | (with_reducible first | exact HI0.out | apply IsS104.alloc | apply IsS104.drewN | apply IsS104.drew | refine IsS104.far ?_ NB0_191.out _) | exact HI0.out), by repeat (first | (with_reducible first | exact HB.out | apply below_alloc | apply pw_below_drewN | apply below_drew1 | refine below_set ?_ (IsS104.ge HI0.out) | refine below_set ?_ GE191.out) | exact HB.out), by repeat (first | (with_reducible first | exact HK.out | apply KeepBut.set_ | apply keep_drewN | apply keep_drew | apply keep_alloc | refine keep_far ?_ GW191.out _) | exact HK.out)⟩
                 ·rw [if_neg c144] at H
                  have c144b0 : (t195 == 14) = false := beq_eq_false_iff_ne.mpr c144
                  have c144b1 : (t195 != 14) = true := bne_iff_ne.mpr c144
                  replace H := Option.bind_eq_some_iff.mp H
                  obtain ⟨⟨t308, t309, t310⟩, A1510, H⟩ := H
                  replace H : (if t308 = true then ((some (([27, 29, 27] : List Int) : List Int)).bind fun y311 => ((spec_l1Next.f s0_0 t309 t310 3).bind fun bt314 => (if 0 ≤ bt314.1 then (if bt314.1 < (y311.length : Int) then (some (rd y311 bt314.1, 0, 0, 0, 0, bt314.2.1, bt314.2.2)) else (none)) else (none)))) else ((some (([28, 22] : List Int) : List Int)).bind fun y318 => ((spec_l1Next.f s0_0 t309 t310 2).bind fun bt321 => (if 0 ≤ bt321.1 then (if bt321.1 < (y318.length : Int) then (some (rd y318 bt321.1, t192, 0, 0, 0, bt321.2.1, bt321.2.2)) else (none)) else (none))))) = some (r1, r2, r3, r4, r5, r6, r7) := H
                  have A151 := Aside0.mk A1510
                  clear A1510
                  by_cases c152 : t308 = true
                  ·subst c152
                   rw [if_pos rfl] at H
                   obtain ⟨y311, hy311⟩ : ∃ y_ : List Int, y_ = (([27, 29, 27] : List Int)) := ⟨_, rfl⟩
                   replace H : ((spec_l1Next.f s0_0 t309 t310 3).bind fun bt314 => (if 0 ≤ bt314.1 then (if bt314.1 < (y311.length : Int) then (some (rd y311 bt314.1, 0, 0, 0, 0, bt314.2.1, bt314.2.2)) else (none)) else (none))) = some (r1, r2, r3, r4, r5, r6, r7) := by first | (rw [hy311]; with_reducible exact H) | (have H2_ := (Option.bind_some _ _).symm.trans H; rw [hy311]; with_reducible exact H2_) | (have H2_ := (Option.bind_some _ _).symm.trans H; with_reducible exact H2_) | with_reducible exact H | (rw [hy311]; exact H) | exact H
                   have Ny311 := Aside0.mk hy311
                   clear hy311
                   replace H := Option.bind_eq_some_iff.mp H
                   obtain ⟨⟨t314, t315, t316⟩, A1530, H⟩ := H
                   replace H : (if 0 ≤ t314 then (if t314 < (y311.length : Int) then (some (rd y311 t314, 0, 0, 0, 0, t315, t316)) else (none)) else (none)) = some (r1, r2, r3, r4, r5, r6, r7) := H
                   have A153 := Aside0.mk A1530
                   clear A1530
                   by_cases c154 : 0 ≤ t314
                   ·rw [if_pos c154] at H
                    have c154b0 : decide (0 ≤ t314) = true := decide_eq_true c154
                    clear c154
                    by_cases c155 : t314 < (y311.length : Int)
                    ·rw [if_pos c155] at H
                     have c155b0 : decide (t314 < (y311.length : Int)) = true := decide_eq_true c155
                     clear c155
                     simp only [Option.some.injEq, Prod.mk.injEq] at H
                     obtain ⟨rfl, rfl, rfl, rfl, rfl, rfl, rfl⟩ := H
                     go_wp2_with (first | ((with_reducible refine gate_callee (f := 56) rfl ?_); refine goesL_ (some 140) rfl rfl Try.func56 (by kernel_rfl) rfl #[.pointer (some ⟨g, 0, none⟩), .int .i64 2] rfl (by (try simp only [List.map_toArray, List.map_cons, List.map_nil]); first | done | rfl) ?_; (with_reducible refine (spec_l1Chance.calls g s0_0 t196 t197 2 true t309 t310 w0 _ ?side1 ?side2 A151.out).mono ?_); (case side1 => repeat (first | (with_reducible first | exact HI0.out | apply IsS104.alloc | apply IsS104.drewN | apply IsS104.drew | refine IsS104.far ?_ NB0_191.out _) | exact HI0.out)); (case side2 => repeat (first | (with_reducible first | exact HB.out | apply below_alloc | apply pw_below_drewN | apply below_drew1 | refine below_set ?_ (IsS104.ge HI0.out) | refine below_set ?_ GE191.out) | exact HB.out)); rintro e w156 ⟨rfl, hi, hb, hk⟩; refine ⟨_, rfl, ?_⟩; have n0_ := Aside0.mk (KeepBut.blk hk (g' := gb191) (o := .cells #[.int .i64 0, .int .i64 0, .int .i64 0, .int .i64 0, .int .i64 0] 41 (0, 0)) (by exact BK191.out) NB191_0.out (by simp)); have n1_ := Aside0.mk (KeepBut.trans (by repeat (first | (with_reducible first | exact HK.out | apply KeepBut.set_ | apply keep_drewN | apply keep_drew | apply keep_alloc | refine keep_far ?_ GW191.out _) | exact HK.out)) hk (.inl rfl)); have n2_ := Aside0.mk (hb); have n3_ := Aside0.mk (hi); clear BK191; clear HK; clear HB; clear HI0; have BK191 := n0_; have HK := n1_; have HB := n2_; have HI0 := n3_; clear n0_ n1_ n2_ n3_; (try clear hb); (try clear hb2); (try clear hk); (try clear hi)) | ((with_reducible refine gate_dst (N := 141) rfl ?_); refine Kd.R_lit (Kd.int .i64) _ 2 ?hg (N := 141) ?hd (xs := ([27, 29, 27] : List Int)) (inner := [.int .i64 27, .int .i64 29, .int .i64 27]) (ok := fun _ => True) (okp := fun _ => True) ?hr ?hp (fun _ hk => hk) trivial (Below.refl _ _) (Nat.le_refl _) (by simp) ?_; (case hd => rfl); (case hg => rfl); (case hr => first | (go_simp; done) | (go_simp; rfl)); (case hp => exact (Reps.one (show Kd.M (Kd.int .i64) _ _ _ 27 [.int .i64 27] from rfl) (Reps.one (show Kd.M (Kd.int .i64) _ _ _ 29 [.int .i64 29] from rfl) (Reps.one (show Kd.M (Kd.int .i64) _ _ _ 27 [.int .i64 27] from rfl) (Reps.none _ _))))); intro v312 w157 ho158 hb hg_ hnew_; clear hg_ hnew_; (first | rw [← Ny311.out] at ho158 | (simp only [Int.reduceToNat] at ho158; rw [← Ny311.out] at ho158)); have n0_ := Aside0.mk (Kd.R_lower ho158 (keep_size (w := w) (g := g) (row := none) (by repeat (first | (with_reducible first | exact HK.out | apply KeepBut.set_ | apply keep_drewN | apply keep_drew | apply keep_alloc | refine keep_far ?_ GW191.out _) | exact HK.out)))); have n1_ := Aside0.mk (blk_below (g := gb191) (o := .cells #[.int .i64 0, .int .i64 0, .int .i64 0, .int .i64 0, .int .i64 0] 41 (0, 0)) (by exact BK191.out) hb); have n2_ := Aside0.mk (IsS104.below (by repeat (first | (with_reducible first | exact HI0.out | apply IsS104.alloc | apply IsS104.drewN | apply IsS104.drew | refine IsS104.far ?_ NB0_191.out _) | exact HI0.out)) hb); have n3_ := Aside0.mk (KeepBut.trans (by repeat (first | (with_reducible first | exact HK.out | apply KeepBut.set_ | apply keep_drewN | apply keep_drew | apply keep_alloc | refine keep_far ?_ GW191.out _) | exact HK.out)) (KeepBut.of_below hb g none) (.inl rfl)); have n4_ := Aside0.mk (below_step (by repeat (first | (with_reducible first | exact HB.out | apply below_alloc | apply pw_below_drewN | apply below_drew1 | refine below_set ?_ (IsS104.ge HI0.out) | refine below_set ?_ GE191.out) | exact HB.out)) hb); clear BK191; clear HI0; clear HK; clear HB; have HO313 := n0_; have BK191 := n1_; have HI0 := n2_; have HK := n3_; have HB := n4_; clear n0_ n1_ n2_ n3_ n4_; clear hb ho158) | ((with_reducible refine gate_callee (f := 68) rfl ?_); refine goesL_ (some 143) rfl rfl Try.func68 (by kernel_rfl) rfl #[.pointer (some ⟨g, 0, none⟩), .int .i64 3] rfl (by (try simp only [List.map_toArray, List.map_cons, List.map_nil]); first | done | rfl) ?_; (with_reducible refine (spec_l1Next.calls g s0_0 t309 t310 3 t314 t315 t316 w0 _ ?side1 ?side2 A153.out).mono ?_); (case side1 => repeat (first | (with_reducible first | exact HI0.out | apply IsS104.alloc | apply IsS104.drewN | apply IsS104.drew | refine IsS104.far ?_ NB0_191.out _) | exact HI0.out)); (case side2 => repeat (first | (with_reducible first | exact HB.out | apply below_alloc | apply pw_below_drewN | apply below_drew1 | refine below_set ?_ (IsS104.ge HI0.out) | refine below_set ?_ GE191.out) | exact HB.out)); rintro e w159 ⟨rfl, hi, hb, hk⟩; refine ⟨_, rfl, ?_⟩; have n0_ := Aside0.mk (KeepBut.blk hk (g' := gb191) (o := .cells #[.int .i64 0, .int .i64 0, .int .i64 0, .int .i64 0, .int .i64 0] 41 (0, 0)) (by exact BK191.out) NB191_0.out (by simp)); have n1_ := Aside0.mk (Kd.R_mono (Kd.R_keep (IsS104.apart (show IsS104 w0 _ g s0_0 t309 t310 from by repeat (first | (with_reducible first | exact HI0.out | apply IsS104.alloc | apply IsS104.drewN | apply IsS104.drew | refine IsS104.far ?_ NB0_191.out _) | exact HI0.out)) (by exact HO313.out) (by decide)) hk (fun _ h => h.2)) (fun _ h => h.1)); have n2_ := Aside0.mk (KeepBut.trans (by repeat (first | (with_reducible first | exact HK.out | apply KeepBut.set_ | apply keep_drewN | apply keep_drew | apply keep_alloc | refine keep_far ?_ GW191.out _) | exact HK.out)) hk (.inl rfl)); have n3_ := Aside0.mk (hb); have n4_ := Aside0.mk (hi); clear BK191; clear HO313; clear HK; clear HB; clear HI0; have BK191 := n0_; have HO313 := n1_; have HK := n2_; have HB := n3_; have HI0 := n4_; clear n0_ n1_ n2_ n3_ n4_; (try clear hb); (try clear hb2); (try clear hk); (try clear hi); obtain ⟨Ao160, co160, eo160⟩ := Kd.R_slice HO313.out; subst eo160; have p317 : 0 ≤ (t314 : Int) := of_decide_eq_true (by first | (with_reducible assumption) | assumption); have q317 : t314 < (y311.length : Int) := of_decide_eq_true (by first | (with_reducible assumption) | assumption); obtain ⟨ad317, e317, hx317_0⟩ := Kd.at_int (Kd.R_reads' HO313.out).2.2 t314 p317 q317; cases e317; replace p317 := eq_true p317; replace q317 := eq_true q317; have hnb161 := NB191_0.out; have hnc161 := NB0_191.out; have hcz162_0 : w159.cell? ⟨gb191, 0, none⟩ = some (.int .i64 0) := (blk_cell BK191.out 0).trans rfl; have hcz162_1 : w159.cell? ⟨gb191, 1, none⟩ = some (.int .i64 0) := (blk_cell BK191.out 1).trans rfl; have hcz162_2 : w159.cell? ⟨gb191, 2, none⟩ = some (.int .i64 0) := (blk_cell BK191.out 2).trans rfl; have hcz162_3 : w159.cell? ⟨gb191, 3, none⟩ = some (.int .i64 0) := (blk_cell BK191.out 3).trans rfl; have hcz162_4 : w159.cell? ⟨gb191, 4, none⟩ = some (.int .i64 0) := (blk_cell BK191.out 4).trans rfl; have hfz162_0 := blk_frozen BK191.out 0; have hfz162_1 := blk_frozen BK191.out 1; have hfz162_2 := blk_frozen BK191.out 2; have hfz162_3 := blk_frozen BK191.out 3; have hfz162_4 := blk_frozen BK191.out 4))
                     refine bodyPost_ret (results_cell_row rfl _ _ gb191 41 #[.int .i64 (rd y311 t314), .int .i64 0, .int .i64 0, .int .i64 0, .int .i64 0] (0, 0) _ rfl (by refine blk_put (cs := #[.int .i64 (rd y311 t314), .int .i64 0, .int .i64 0, .int .i64 0, .int .i64 0]) ?_ 4 _ rfl; refine blk_put (cs := #[.int .i64 (rd y311 t314), .int .i64 0, .int .i64 0, .int .i64 0, .int .i64 0]) ?_ 3 _ rfl; refine blk_put (cs := #[.int .i64 (rd y311 t314), .int .i64 0, .int .i64 0, .int .i64 0, .int .i64 0]) ?_ 2 _ rfl; refine blk_put (cs := #[.int .i64 (rd y311 t314), .int .i64 0, .int .i64 0, .int .i64 0, .int .i64 0]) ?_ 1 _ rfl; refine blk_put (cs := #[.int .i64 0, .int .i64 0, .int .i64 0, .int .i64 0, .int .i64 0]) ?_ 0 _ rfl; exact BK191.out) Try.underlying41 rfl (by kernel_rfl)) rfl ?_
                     exact ⟨by first | rfl | (simp [*] <;> rfl), by repeat (first | (with_reducible first | exact HI0.out | apply IsS104.alloc | apply IsS104.drewN | apply IsS104.drew | refine IsS104.far ?_ NB0_191.out _) | exact HI0.out), by repeat (first | (with_reducible first | exact HB.out | apply below_alloc | apply pw_below_drewN | apply below_drew1 | refine below_set ?_ (IsS104.ge HI0.out) | refine below_set ?_ GE191.out) | exact HB.out), by repeat (first | (with_reducible first | exact HK.out | apply KeepBut.set_ | apply keep_drewN | apply keep_drew | apply keep_alloc | refine keep_far ?_ GW191.out _) | exact HK.out)⟩
                    ·rw [if_neg c155] at H
                     exact absurd H (by simp)
                   ·rw [if_neg c154] at H
                    exact absurd H (by simp)
                  ·replace c152 := Bool.eq_false_iff.mpr c152
                   subst c152
                   rw [if_neg (show ¬ (false = true) by decide)] at H
                   obtain ⟨y318, hy318⟩ : ∃ y_ : List Int, y_ = (([28, 22] : List Int)) := ⟨_, rfl⟩
                   replace H : ((spec_l1Next.f s0_0 t309 t310 2).bind fun bt321 => (if 0 ≤ bt321.1 then (if bt321.1 < (y318.length : Int) then (some (rd y318 bt321.1, t192, 0, 0, 0, bt321.2.1, bt321.2.2)) else (none)) else (none))) = some (r1, r2, r3, r4, r5, r6, r7) := by first | (rw [hy318]; with_reducible exact H) | (have H2_ := (Option.bind_some _ _).symm.trans H; rw [hy318]; with_reducible exact H2_) | (have H2_ := (Option.bind_some _ _).symm.trans H; with_reducible exact H2_) | with_reducible exact H | (rw [hy318]; exact H) | exact H
                   have Ny318 := Aside0.mk hy318
                   clear hy318
                   replace H := Option.bind_eq_some_iff.mp H
                   obtain ⟨⟨t321, t322, t323⟩, A1630, H⟩ := H
                   replace H : (if 0 ≤ t321 then (if t321 < (y318.length : Int) then (some (rd y318 t321, t192, 0, 0, 0, t322, t323)) else (none)) else (none)) = some (r1, r2, r3, r4, r5, r6, r7) := H
                   have A163 := Aside0.mk A1630
                   clear A1630
                   by_cases c164 : 0 ≤ t321
                   ·rw [if_pos c164] at H
                    have c164b0 : decide (0 ≤ t321) = true := decide_eq_true c164
                    clear c164
                    by_cases c165 : t321 < (y318.length : Int)
                    ·rw [if_pos c165] at H
                     have c165b0 : decide (t321 < (y318.length : Int)) = true := decide_eq_true c165
                     clear c165
                     simp only [Option.some.injEq, Prod.mk.injEq] at H
                     obtain ⟨rfl, rfl, rfl, rfl, rfl, rfl, rfl⟩ := H
                     go_wp2_with (first | ((with_reducible refine gate_callee (f := 56) rfl ?_); refine goesL_ (some 140) rfl rfl Try.func56 (by kernel_rfl) rfl #[.pointer (some ⟨g, 0, none⟩), .int .i64 2] rfl (by (try simp only [List.map_toArray, List.map_cons, List.map_nil]); first | done | rfl) ?_; (with_reducible refine (spec_l1Chance.calls g s0_0 t196 t197 2 false t309 t310 w0 _ ?side1 ?side2 A151.out).mono ?_); (case side1 => repeat (first | (with_reducible first | exact HI0.out | apply IsS104.alloc | apply IsS104.drewN | apply IsS104.drew | refine IsS104.far ?_ NB0_191.out _) | exact HI0.out)); (case side2 => repeat (first | (with_reducible first | exact HB.out | apply below_alloc | apply pw_below_drewN | apply below_drew1 | refine below_set ?_ (IsS104.ge HI0.out) | refine below_set ?_ GE191.out) | exact HB.out)); rintro e w166 ⟨rfl, hi, hb, hk⟩; refine ⟨_, rfl, ?_⟩; have n0_ := Aside0.mk (KeepBut.blk hk (g' := gb191) (o := .cells #[.int .i64 0, .int .i64 0, .int .i64 0, .int .i64 0, .int .i64 0] 41 (0, 0)) (by exact BK191.out) NB191_0.out (by simp)); have n1_ := Aside0.mk (KeepBut.trans (by repeat (first | (with_reducible first | exact HK.out | apply KeepBut.set_ | apply keep_drewN | apply keep_drew | apply keep_alloc | refine keep_far ?_ GW191.out _) | exact HK.out)) hk (.inl rfl)); have n2_ := Aside0.mk (hb); have n3_ := Aside0.mk (hi); clear BK191; clear HK; clear HB; clear HI0; have BK191 := n0_; have HK := n1_; have HB := n2_; have HI0 := n3_; clear n0_ n1_ n2_ n3_; (try clear hb); (try clear hb2); (try clear hk); (try clear hi)) | ((with_reducible refine gate_dst (N := 147) rfl ?_); refine Kd.R_lit (Kd.int .i64) _ 2 ?hg (N := 147) ?hd (xs := ([28, 22] : List Int)) (inner := [.int .i64 28, .int .i64 22]) (ok := fun _ => True) (okp := fun _ => True) ?hr ?hp (fun _ hk => hk) trivial (Below.refl _ _) (Nat.le_refl _) (by simp) ?_; (case hd => rfl); (case hg => rfl); (case hr => first | (go_simp; done) | (go_simp; rfl)); (case hp => exact (Reps.one (show Kd.M (Kd.int .i64) _ _ _ 28 [.int .i64 28] from rfl) (Reps.one (show Kd.M (Kd.int .i64) _ _ _ 22 [.int .i64 22] from rfl) (Reps.none _ _)))); intro v319 w167 ho168 hb hg_ hnew_; clear hg_ hnew_; (first | rw [← Ny318.out] at ho168 | (simp only [Int.reduceToNat] at ho168; rw [← Ny318.out] at ho168)); have n0_ := Aside0.mk (Kd.R_lower ho168 (keep_size (w := w) (g := g) (row := none) (by repeat (first | (with_reducible first | exact HK.out | apply KeepBut.set_ | apply keep_drewN | apply keep_drew | apply keep_alloc | refine keep_far ?_ GW191.out _) | exact HK.out)))); have n1_ := Aside0.mk (blk_below (g := gb191) (o := .cells #[.int .i64 0, .int .i64 0, .int .i64 0, .int .i64 0, .int .i64 0] 41 (0, 0)) (by exact BK191.out) hb); have n2_ := Aside0.mk (IsS104.below (by repeat (first | (with_reducible first | exact HI0.out | apply IsS104.alloc | apply IsS104.drewN | apply IsS104.drew | refine IsS104.far ?_ NB0_191.out _) | exact HI0.out)) hb); have n3_ := Aside0.mk (KeepBut.trans (by repeat (first | (with_reducible first | exact HK.out | apply KeepBut.set_ | apply keep_drewN | apply keep_drew | apply keep_alloc | refine keep_far ?_ GW191.out _) | exact HK.out)) (KeepBut.of_below hb g none) (.inl rfl)); have n4_ := Aside0.mk (below_step (by repeat (first | (with_reducible first | exact HB.out | apply below_alloc | apply pw_below_drewN | apply below_drew1 | refine below_set ?_ (IsS104.ge HI0.out) | refine below_set ?_ GE191.out) | exact HB.out)) hb); clear BK191; clear HI0; clear HK; clear HB; have HO320 := n0_; have BK191 := n1_; have HI0 := n2_; have HK := n3_; have HB := n4_; clear n0_ n1_ n2_ n3_ n4_; clear hb ho168) | ((with_reducible refine gate_callee (f := 68) rfl ?_); refine goesL_ (some 149) rfl rfl Try.func68 (by kernel_rfl) rfl #[.pointer (some ⟨g, 0, none⟩), .int .i64 2] rfl (by (try simp only [List.map_toArray, List.map_cons, List.map_nil]); first | done | rfl) ?_; (with_reducible refine (spec_l1Next.calls g s0_0 t309 t310 2 t321 t322 t323 w0 _ ?side1 ?side2 A163.out).mono ?_); (case side1 => repeat (first | (with_reducible first | exact HI0.out | apply IsS104.alloc | apply IsS104.drewN | apply IsS104.drew | refine IsS104.far ?_ NB0_191.out _) | exact HI0.out)); (case side2 => repeat (first | (with_reducible first | exact HB.out | apply below_alloc | apply pw_below_drewN | apply below_drew1 | refine below_set ?_ (IsS104.ge HI0.out) | refine below_set ?_ GE191.out) | exact HB.out)); rintro e w169 ⟨rfl, hi, hb, hk⟩; refine ⟨_, rfl, ?_⟩; have n0_ := Aside0.mk (KeepBut.blk hk (g' := gb191) (o := .cells #[.int .i64 0, .int .i64 0, .int .i64 0, .int .i64 0, .int .i64 0] 41 (0, 0)) (by exact BK191.out) NB191_0.out (by simp)); have n1_ := Aside0.mk (Kd.R_mono (Kd.R_keep (IsS104.apart (show IsS104 w0 _ g s0_0 t309 t310 from by repeat (first | (with_reducible first | exact HI0.out | apply IsS104.alloc | apply IsS104.drewN | apply IsS104.drew | refine IsS104.far ?_ NB0_191.out _) | exact HI0.out)) (by exact HO320.out) (by decide)) hk (fun _ h => h.2)) (fun _ h => h.1)); have n2_ := Aside0.mk (KeepBut.trans (by repeat (first | (with_reducible first | exact HK.out | apply KeepBut.set_ | apply keep_drewN | apply keep_drew | apply keep_alloc | refine keep_far ?_ GW191.out _) | exact HK.out)) hk (.inl rfl)); have n3_ := Aside0.mk (hb); have n4_ := Aside0.mk (hi); clear BK191; clear HO320; clear HK; clear HB; clear HI0; have BK191 := n0_; have HO320 := n1_; have HK := n2_; have HB := n3_; have HI0 := n4_; clear n0_ n1_ n2_ n3_ n4_; (try clear hb); (try clear hb2); (try clear hk); (try clear hi); obtain ⟨Ao170, co170, eo170⟩ := Kd.R_slice HO320.out; subst eo170; have p324 : 0 ≤ (t321 : Int) := of_decide_eq_true (by first | (with_reducible assumption) | assumption); have q324 : t321 < (y318.length : Int) := of_decide_eq_true (by first | (with_reducible assumption) | assumption); obtain ⟨ad324, e324, hx324_0⟩ := Kd.at_int (Kd.R_reads' HO320.out).2.2 t321 p324 q324; cases e324; replace p324 := eq_true p324; replace q324 := eq_true q324; have hnb171 := NB191_0.out; have hnc171 := NB0_191.out; have hcz172_0 : w169.cell? ⟨gb191, 0, none⟩ = some (.int .i64 0) := (blk_cell BK191.out 0).trans rfl; have hcz172_1 : w169.cell? ⟨gb191, 1, none⟩ = some (.int .i64 0) := (blk_cell BK191.out 1).trans rfl; have hcz172_2 : w169.cell? ⟨gb191, 2, none⟩ = some (.int .i64 0) := (blk_cell BK191.out 2).trans rfl; have hcz172_3 : w169.cell? ⟨gb191, 3, none⟩ = some (.int .i64 0) := (blk_cell BK191.out 3).trans rfl; have hcz172_4 : w169.cell? ⟨gb191, 4, none⟩ = some (.int .i64 0) := (blk_cell BK191.out 4).trans rfl; have hfz172_0 := blk_frozen BK191.out 0; have hfz172_1 := blk_frozen BK191.out 1; have hfz172_2 := blk_frozen BK191.out 2; have hfz172_3 := blk_frozen BK191.out 3; have hfz172_4 := blk_frozen BK191.out 4))
                     refine bodyPost_ret (results_cell_row rfl _ _ gb191 41 #[.int .i64 (rd y318 t321), .int .i64 t192, .int .i64 0, .int .i64 0, .int .i64 0] (0, 0) _ rfl (by refine blk_put (cs := #[.int .i64 (rd y318 t321), .int .i64 t192, .int .i64 0, .int .i64 0, .int .i64 0]) ?_ 4 _ rfl; refine blk_put (cs := #[.int .i64 (rd y318 t321), .int .i64 t192, .int .i64 0, .int .i64 0, .int .i64 0]) ?_ 3 _ rfl; refine blk_put (cs := #[.int .i64 (rd y318 t321), .int .i64 t192, .int .i64 0, .int .i64 0, .int .i64 0]) ?_ 2 _ rfl; refine blk_put (cs := #[.int .i64 (rd y318 t321), .int .i64 0, .int .i64 0, .int .i64 0, .int .i64 0]) ?_ 1 _ rfl; refine blk_put (cs := #[.int .i64 0, .int .i64 0, .int .i64 0, .int .i64 0, .int .i64 0]) ?_ 0 _ rfl; exact BK191.out) Try.underlying41 rfl (by kernel_rfl)) rfl ?_
                     exact ⟨by first | rfl | (simp [*] <;> rfl), by repeat (first | (with_reducible first | exact HI0.out | apply IsS104.alloc | apply IsS104.drewN | apply IsS104.drew | refine IsS104.far ?_ NB0_191.out _) | exact HI0.out), by repeat (first | (with_reducible first | exact HB.out | apply below_alloc | apply pw_below_drewN | apply below_drew1 | refine below_set ?_ (IsS104.ge HI0.out) | refine below_set ?_ GE191.out) | exact HB.out), by repeat (first | (with_reducible first | exact HK.out | apply KeepBut.set_ | apply keep_drewN | apply keep_drew | apply keep_alloc | refine keep_far ?_ GW191.out _) | exact HK.out)⟩
                    ·rw [if_neg c165] at H
                     exact absurd H (by simp)
                   ·rw [if_neg c164] at H
                    exact absurd H (by simp)

end Go.Proofs.Ytcjdgimiobhhnaa.QFnIns
