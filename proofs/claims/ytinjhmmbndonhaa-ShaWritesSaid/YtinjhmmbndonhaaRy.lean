/- The reference's Sum: a round of the bytes, over a frame of letters. -/
import Derived.Test.YtinjhmmbndonhaaRr
import Derived.Test.YtinjhmmbndonhaaRs
namespace Go.Proofs.Ytinjhmmbndonhaa.PShaSums
open Go.RowKit Go.Proofs.YtinjhmmbndonhaaW.PrintWords Go.Proofs.YtinjhmmbndonhaaW.PrintLast Go.Proofs.YtinjhmmbndonhaaW.PrintMore Go.Proofs.Ytinjhmmbndonhaa.Sha Go.Proofs.Ytinjhmmbndonhaa.Arr
attribute [local go_sem] max2_int min2_int max_two min_two max_three min_three max_four min_four
attribute [local go_sem high] u8_w
set_option linter.unusedVariables false
set_option linter.unusedSimpArgs false
/-- the last loop's round -/
noncomputable def round12 : Code := cO (cB (cR (cL (cP 12 body11))))
set_option maxHeartbeats 80000000 in
set_option maxRecDepth 100000 in
theorem out_step (Q : Exit → Act → World → Prop) (df : _) (wb wr : World) (gh ch j : Nat) (S : H8) (sl0 sl1 sl2 sl3 sl4 sl5 sl6 sl8 sl9 sl10 sl11 sl12 sl13 sl14 sl15 sl16 sl17 sl18 sl19 sl20 sl21 sl22 sl23 sl26 sl27 sl28 sl29 sl30 sl31 sl32 sl33 sl34 sl35 sl36 sl37 sl38 sl39 sl40 sl41 sl42 sl43 sl44 sl45 sl46 sl47 sl48 sl49 sl50 sl51 sl52 sl53 sl54 sl55 sl56 sl57 sl58 sl59 sl60 sl61 sl62 sl63 sl64 sl65 sl66 sl67 sl68 sl69 sl70 sl71 sl72 sl73 sl74 sl75 sl76 sl77 sl78 sl79 sl80 sl81 sl82 sl83 sl84 sl85 sl86 sl87 sl88 sl89 sl90 sl91 sl92 sl93 sl94 sl95 sl96 sl97 sl98 sl99 sl100 sl101 sl102 sl103 sl104 sl105 sl106 sl107 sl108 sl109 sl110 sl111 sl112 sl113 sl114 sl115 sl116 sl117 sl118 sl119 sl120 sl121 sl122 sl123 sl124 sl125 sl126 sl127 sl128 sl129 sl130 sl131 sl132 sl133 sl134 sl135 sl136 sl137 sl138 sl139 sl140 sl141 sl142 sl143 sl144 sl145 sl146 sl147 sl148 sl149 sl150 sl151 sl152 sl153 sl154 sl155 sl156 sl157 sl158 sl159 sl160 sl161 sl162 sl163 sl164 sl165 sl166 sl167 sl168 sl169 sl170 sl171 sl172 sl173 sl174 sl175 sl176 sl177 sl178 sl179 sl180 sl181 sl182 sl183 sl184 sl185 sl186 sl187 sl188 sl189 sl190 sl191 sl192 sl193 sl194 sl195 sl196 sl197 sl198 sl199 sl200 sl201 sl202 sl203 sl204 sl205 sl206 sl207 sl208 sl209 sl210 sl211 sl212 sl213 sl214 sl215 sl216 sl217 sl218 sl219 sl220 sl221 sl222 sl223 sl224 sl225 sl226 sl227 sl228 sl229 sl230 sl231 sl232 sl233 sl234 sl235 sl236 sl237 sl238 sl239 sl240 sl241 sl242 sl243 sl244 sl245 sl246 sl247 sl248 sl249 sl250 sl251 sl252 sl253 sl254 sl255 sl256 sl257 sl258 sl259 sl260 sl261 sl262 sl263 sl264 sl265 sl266 sl267 sl268 sl269 sl270 sl271 sl272 sl273 sl274 sl275 sl276 sl277 sl278 sl279 sl280 sl281 sl282 sl283 sl284 sl285 sl286 sl287 sl288 sl289 sl290 sl291 sl292 sl293 sl294 sl295 sl296 sl297 sl298 sl299 sl300 sl301 sl302 sl303 sl304 sl305 sl306 sl307 sl308 sl309 sl310 sl311 sl312 sl313 sl314 sl315 sl316 sl317 sl318 sl319 sl320 sl321 sl322 sl323 sl324 sl325 sl326 sl327 sl328 sl329 sl330 sl331 sl332 : Value)
    (HAs : Aside0 (Arr .u32 44 wb gh (cN S.list))) (HSK : Aside0 (okH S)) (HD : Aside0 (Arr .u8 25 wr wb.heap.size (cN (S.bytes.take (4 * j) ++ List.replicate (32 - 4 * j) 0)))) (HE : Aside0 (Below wb.heap.size wb wr)) (hj : j ≤ 8) (hlt : j < 8)
    (hP : Aside0 (∀ (k : _) (a : Act) (d : Option Tmp) (v : Value) (w : World), Q (.panic k) (a.put d v) w → Q (.panic k) a w))
    (hQ : Aside0 (∀ (nw287 nw288 nw289 nw290 nw291 nw292 nw293 nw294 nw295 nw296 nw297 nw298 nw299 nw300 nw301 nw302 nw303 nw304 nw305 nw306 nw307 nw308 nw309 nw310 nw311 nw312 nw313 nw314 nw315 nw316 nw317 nw318 nw319 nw320 nw321 nw322 nw323 nw324 nw325 nw326 nw327 nw328 nw329 nw330 nw331 : Value) (u4 : World), Arr .u8 25 u4 wb.heap.size (cN (S.bytes.take (4 * (j + 1)) ++ List.replicate (32 - 4 * (j + 1)) 0)) → Below wb.heap.size wb u4 → Q .normal ⟨#[sl0, sl1, sl2, sl3, sl4, sl5, sl6, .slice (some ⟨gh, 0, none⟩) 8 ch, sl8, sl9, sl10, sl11, sl12, sl13, sl14, sl15, sl16, sl17, sl18, sl19, sl20, sl21, sl22, sl23, .pointer (some ⟨wb.heap.size, 0, none⟩), .int .i64 ((j : Int) + 1), sl26, sl27, sl28, sl29, sl30, sl31, sl32, sl33, sl34, sl35, sl36, sl37, sl38, sl39, sl40, sl41, sl42, sl43, sl44, sl45, sl46, sl47, sl48, sl49, sl50, sl51, sl52, sl53, sl54, sl55, sl56, sl57, sl58, sl59, sl60, sl61, sl62, sl63, sl64, sl65, sl66, sl67, sl68, sl69, sl70, sl71, sl72, sl73, sl74, sl75, sl76, sl77, sl78, sl79, sl80, sl81, sl82, sl83, sl84, sl85, sl86, sl87, sl88, sl89, sl90, sl91, sl92, sl93, sl94, sl95, sl96, sl97, sl98, sl99, sl100, sl101, sl102, sl103, sl104, sl105, sl106, sl107, sl108, sl109, sl110, sl111, sl112, sl113, sl114, sl115, sl116, sl117, sl118, sl119, sl120, sl121, sl122, sl123, sl124, sl125, sl126, sl127, sl128, sl129, sl130, sl131, sl132, sl133, sl134, sl135, sl136, sl137, sl138, sl139, sl140, sl141, sl142, sl143, sl144, sl145, sl146, sl147, sl148, sl149, sl150, sl151, sl152, sl153, sl154, sl155, sl156, sl157, sl158, sl159, sl160, sl161, sl162, sl163, sl164, sl165, sl166, sl167, sl168, sl169, sl170, sl171, sl172, sl173, sl174, sl175, sl176, sl177, sl178, sl179, sl180, sl181, sl182, sl183, sl184, sl185, sl186, sl187, sl188, sl189, sl190, sl191, sl192, sl193, sl194, sl195, sl196, sl197, sl198, sl199, sl200, sl201, sl202, sl203, sl204, sl205, sl206, sl207, sl208, sl209, sl210, sl211, sl212, sl213, sl214, sl215, sl216, sl217, sl218, sl219, sl220, sl221, sl222, sl223, sl224, sl225, sl226, sl227, sl228, sl229, sl230, sl231, sl232, sl233, sl234, sl235, sl236, sl237, sl238, sl239, sl240, sl241, sl242, sl243, sl244, sl245, sl246, sl247, sl248, sl249, sl250, sl251, sl252, sl253, sl254, sl255, sl256, sl257, sl258, sl259, sl260, sl261, sl262, sl263, sl264, sl265, sl266, sl267, sl268, sl269, sl270, sl271, sl272, sl273, sl274, sl275, sl276, sl277, sl278, sl279, sl280, sl281, sl282, sl283, sl284, sl285, sl286, nw287, nw288, nw289, nw290, nw291, nw292, nw293, nw294, nw295, nw296, nw297, nw298, nw299, nw300, nw301, nw302, nw303, nw304, nw305, nw306, nw307, nw308, nw309, nw310, nw311, nw312, nw313, nw314, nw315, nw316, nw317, nw318, nw319, nw320, nw321, nw322, nw323, nw324, nw325, nw326, nw327, nw328, nw329, nw330, nw331, sl332], df⟩ u4)) :
    Code.wp Try.prog round12 Q ⟨#[sl0, sl1, sl2, sl3, sl4, sl5, sl6, .slice (some ⟨gh, 0, none⟩) 8 ch, sl8, sl9, sl10, sl11, sl12, sl13, sl14, sl15, sl16, sl17, sl18, sl19, sl20, sl21, sl22, sl23, .pointer (some ⟨wb.heap.size, 0, none⟩), .int .i64 (j : Int), sl26, sl27, sl28, sl29, sl30, sl31, sl32, sl33, sl34, sl35, sl36, sl37, sl38, sl39, sl40, sl41, sl42, sl43, sl44, sl45, sl46, sl47, sl48, sl49, sl50, sl51, sl52, sl53, sl54, sl55, sl56, sl57, sl58, sl59, sl60, sl61, sl62, sl63, sl64, sl65, sl66, sl67, sl68, sl69, sl70, sl71, sl72, sl73, sl74, sl75, sl76, sl77, sl78, sl79, sl80, sl81, sl82, sl83, sl84, sl85, sl86, sl87, sl88, sl89, sl90, sl91, sl92, sl93, sl94, sl95, sl96, sl97, sl98, sl99, sl100, sl101, sl102, sl103, sl104, sl105, sl106, sl107, sl108, sl109, sl110, sl111, sl112, sl113, sl114, sl115, sl116, sl117, sl118, sl119, sl120, sl121, sl122, sl123, sl124, sl125, sl126, sl127, sl128, sl129, sl130, sl131, sl132, sl133, sl134, sl135, sl136, sl137, sl138, sl139, sl140, sl141, sl142, sl143, sl144, sl145, sl146, sl147, sl148, sl149, sl150, sl151, sl152, sl153, sl154, sl155, sl156, sl157, sl158, sl159, sl160, sl161, sl162, sl163, sl164, sl165, sl166, sl167, sl168, sl169, sl170, sl171, sl172, sl173, sl174, sl175, sl176, sl177, sl178, sl179, sl180, sl181, sl182, sl183, sl184, sl185, sl186, sl187, sl188, sl189, sl190, sl191, sl192, sl193, sl194, sl195, sl196, sl197, sl198, sl199, sl200, sl201, sl202, sl203, sl204, sl205, sl206, sl207, sl208, sl209, sl210, sl211, sl212, sl213, sl214, sl215, sl216, sl217, sl218, sl219, sl220, sl221, sl222, sl223, sl224, sl225, sl226, sl227, sl228, sl229, sl230, sl231, sl232, sl233, sl234, sl235, sl236, sl237, sl238, sl239, sl240, sl241, sl242, sl243, sl244, sl245, sl246, sl247, sl248, sl249, sl250, sl251, sl252, sl253, sl254, sl255, sl256, sl257, sl258, sl259, sl260, sl261, sl262, sl263, sl264, sl265, sl266, sl267, sl268, sl269, sl270, sl271, sl272, sl273, sl274, sl275, sl276, sl277, sl278, sl279, sl280, sl281, sl282, sl283, sl284, sl285, sl286, sl287, sl288, sl289, sl290, sl291, sl292, sl293, sl294, sl295, sl296, sl297, sl298, sl299, sl300, sl301, sl302, sl303, sl304, sl305, sl306, sl307, sl308, sl309, sl310, sl311, sl312, sl313, sl314, sl315, sl316, sl317, sl318, sl319, sl320, sl321, sl322, sl323, sl324, sl325, sl326, sl327, sl328, sl329, sl330, sl331, sl332], df⟩ wr := by
  dsimp only [round12, cL, cR, cB, cO, cP, body11, Try.f11, Option.getD]
  have t8 : (j : Int) < 8 := by omega
  have HLT := Aside0.mk hlt
  have hin := HAs.out.cell j hlt
  rw [rd_cN] at hin
  have hx := (HE.out.cell (p := ⟨gh, j, none⟩) HAs.out.size).trans hin
  obtain ⟨x, hX⟩ : ∃ x, S.list.getD j 0 = x := ⟨_, rfl⟩
  have hout := outs S HSK.out j hlt x hX
  rw [hX] at hin hx
  have HIN := Aside0.mk hin
  obtain ⟨i0, e0⟩ : ∃ i, i = 4 * j := ⟨_, rfl⟩
  obtain ⟨y0, g0⟩ : ∃ y, S.bytes.getD (4 * j) 0 = y := ⟨_, rfl⟩
  obtain ⟨y1, g1⟩ : ∃ y, S.bytes.getD (4 * j + 1) 0 = y := ⟨_, rfl⟩
  obtain ⟨y2, g2⟩ : ∃ y, S.bytes.getD (4 * j + 2) 0 = y := ⟨_, rfl⟩
  obtain ⟨y3, g3⟩ : ∃ y, S.bytes.getD (4 * j + 3) 0 = y := ⟨_, rfl⟩
  rw [g0, g1, g2, g3] at hout
  rw [← e0] at g0 g1 g2 g3
  have HG := Aside0.mk (And.intro g0 (And.intro g1 (And.intro g2 g3)))
  have HOUT := Aside0.mk hout
  have HE0 := Aside0.mk e0
  have HD0 : Aside0 (Arr .u8 25 wr wb.heap.size (cN (S.bytes.take i0 ++ List.replicate (32 - i0) 0))) := Aside0.mk (by rw [e0]; exact HD.out)
  have hi28 : i0 + 4 ≤ 32 := by omega
  have HI0 := Aside0.mk hi28
  clear hX hout g0 g1 g2 g3 hin HD hj hi28
  obtain ⟨u0, hu0⟩ : ∃ x, x = wr := ⟨_, rfl⟩
  subst hu0
  obtain ⟨q1, q2, q3, q4⟩ := tidx0 j i0 HE0.out HI0.out
  have hcd := HD0.out.cell i0 (by rw [cN_length, List.length_append, List.length_take, List.length_replicate, bytes_length]; have := HI0.out; omega)
  have hfd := HD0.out.free i0
  have d1 := HOUT.out.2.1
  clear e0
  go_upto_region 48 with (fail)
  refine wp_at (w2 := (World.setCell u0 ⟨wb.heap.size, i0, none⟩ (.int .u8 (y0 : Int)))) rfl ?_
  have HD1 : Aside0 (Arr .u8 25 (World.setCell u0 ⟨wb.heap.size, i0, none⟩ (.int .u8 (y0 : Int))) wb.heap.size (cN (S.bytes.take (i0 + 1) ++ List.replicate (32 - (i0 + 1)) 0))) := Aside0.mk (by
    have h := HD0.out.set i0 (y0 : Int)
    rw [take_set4 S i0 (by have := HI0.out; omega) y0 HG.out.1] at h
    exact h)
  have HE1 : Aside0 (Below wb.heap.size wb (World.setCell u0 ⟨wb.heap.size, i0, none⟩ (.int .u8 (y0 : Int)))) := Aside0.mk (HE.out.setCell (p := ⟨wb.heap.size, i0, none⟩) (Nat.le_refl _) (.int .u8 (y0 : Int)))
  clear q1 q2 q3 q4 hcd hfd d1 hx HD0 HE
  generalize (World.setCell u0 ⟨wb.heap.size, i0, none⟩ (.int .u8 (y0 : Int))) = u1 at *
  obtain ⟨q1, q2, q3, q4, q5⟩ := tidx1 j i0 HE0.out HI0.out
  have hcd := HD1.out.cell (i0 + 1) (by rw [cN_length, List.length_append, List.length_take, List.length_replicate, bytes_length]; have := HI0.out; omega)
  have hfd := HD1.out.free (i0 + 1)
  have d1 := HOUT.out.2.2.1
  have d2 : (y1 : Int) % 256 = (y1 : Int) := y_mod (HOUT.out.2.2.2.2.2.1)
  have hx := (HE1.out.cell (p := ⟨gh, j, none⟩) HAs.out.size).trans HIN.out
  go_upto_region 49 with (fail)
  refine wp_at (w2 := (World.setCell u1 ⟨wb.heap.size, i0 + 1, none⟩ (.int .u8 (y1 : Int)))) rfl ?_
  have HD2 : Aside0 (Arr .u8 25 (World.setCell u1 ⟨wb.heap.size, i0 + 1, none⟩ (.int .u8 (y1 : Int))) wb.heap.size (cN (S.bytes.take (i0 + 2) ++ List.replicate (32 - (i0 + 2)) 0))) := Aside0.mk (by
    have h := HD1.out.set (i0 + 1) (y1 : Int)
    rw [take_set4 S (i0 + 1) (by have := HI0.out; omega) y1 HG.out.2.1] at h
    exact h)
  have HE2 : Aside0 (Below wb.heap.size wb (World.setCell u1 ⟨wb.heap.size, i0 + 1, none⟩ (.int .u8 (y1 : Int)))) := Aside0.mk (HE1.out.setCell (p := ⟨wb.heap.size, i0 + 1, none⟩) (Nat.le_refl _) (.int .u8 (y1 : Int)))
  clear q1 q2 q3 q4 q5 hcd hfd d1 d2 hx HD1 HE1
  generalize (World.setCell u1 ⟨wb.heap.size, i0 + 1, none⟩ (.int .u8 (y1 : Int))) = u2 at *
  obtain ⟨q1, q2, q3, q4, q5⟩ := tidx2 j i0 HE0.out HI0.out
  have hcd := HD2.out.cell (i0 + 2) (by rw [cN_length, List.length_append, List.length_take, List.length_replicate, bytes_length]; have := HI0.out; omega)
  have hfd := HD2.out.free (i0 + 2)
  have d1 := HOUT.out.2.2.2.1
  have d2 : (y2 : Int) % 256 = (y2 : Int) := y_mod (HOUT.out.2.2.2.2.2.2.1)
  have hx := (HE2.out.cell (p := ⟨gh, j, none⟩) HAs.out.size).trans HIN.out
  go_upto_region 50 with (fail)
  refine wp_at (w2 := (World.setCell u2 ⟨wb.heap.size, i0 + 2, none⟩ (.int .u8 (y2 : Int)))) rfl ?_
  have HD3 : Aside0 (Arr .u8 25 (World.setCell u2 ⟨wb.heap.size, i0 + 2, none⟩ (.int .u8 (y2 : Int))) wb.heap.size (cN (S.bytes.take (i0 + 3) ++ List.replicate (32 - (i0 + 3)) 0))) := Aside0.mk (by
    have h := HD2.out.set (i0 + 2) (y2 : Int)
    rw [take_set4 S (i0 + 2) (by have := HI0.out; omega) y2 HG.out.2.2.1] at h
    exact h)
  have HE3 : Aside0 (Below wb.heap.size wb (World.setCell u2 ⟨wb.heap.size, i0 + 2, none⟩ (.int .u8 (y2 : Int)))) := Aside0.mk (HE2.out.setCell (p := ⟨wb.heap.size, i0 + 2, none⟩) (Nat.le_refl _) (.int .u8 (y2 : Int)))
  clear q1 q2 q3 q4 q5 hcd hfd d1 d2 hx HD2 HE2
  generalize (World.setCell u2 ⟨wb.heap.size, i0 + 2, none⟩ (.int .u8 (y2 : Int))) = u3 at *
  obtain ⟨q1, q2, q3, q4, q5⟩ := tidx3 j i0 HE0.out HI0.out
  have hcd := HD3.out.cell (i0 + 3) (by rw [cN_length, List.length_append, List.length_take, List.length_replicate, bytes_length]; have := HI0.out; omega)
  have hfd := HD3.out.free (i0 + 3)
  have d1 := HOUT.out.2.2.2.2.1
  have d2 : (y3 : Int) % 256 = (y3 : Int) := y_mod (HOUT.out.2.2.2.2.2.2.2)
  have hx := (HE3.out.cell (p := ⟨gh, j, none⟩) HAs.out.size).trans HIN.out
  go_upto_region 46 with (fail)
  refine wp_at (w2 := (World.setCell u3 ⟨wb.heap.size, i0 + 3, none⟩ (.int .u8 (y3 : Int)))) rfl ?_
  have HD4 : Aside0 (Arr .u8 25 (World.setCell u3 ⟨wb.heap.size, i0 + 3, none⟩ (.int .u8 (y3 : Int))) wb.heap.size (cN (S.bytes.take (i0 + 4) ++ List.replicate (32 - (i0 + 4)) 0))) := Aside0.mk (by
    have h := HD3.out.set (i0 + 3) (y3 : Int)
    rw [take_set4 S (i0 + 3) (by have := HI0.out; omega) y3 HG.out.2.2.2] at h
    exact h)
  have HE4 : Aside0 (Below wb.heap.size wb (World.setCell u3 ⟨wb.heap.size, i0 + 3, none⟩ (.int .u8 (y3 : Int)))) := Aside0.mk (HE3.out.setCell (p := ⟨wb.heap.size, i0 + 3, none⟩) (Nat.le_refl _) (.int .u8 (y3 : Int)))
  clear q1 q2 q3 q4 q5 hcd hfd d1 d2 hx HD3 HE3
  generalize (World.setCell u3 ⟨wb.heap.size, i0 + 3, none⟩ (.int .u8 (y3 : Int))) = u4 at *
  have v9 := inc8 HLT.out
  go_wp2
  (try rw [v9])
  exact hQ.out _ _ _ _ _ _ _ _ _ _ _ _ _ _ _ _ _ _ _ _ _ _ _ _ _ _ _ _ _ _ _ _ _ _ _ _ _ _ _ _ _ _ _ _ _ u4 (by have h := HD4.out; rw [HE0.out, ← Nat.mul_succ] at h; exact h) HE4.out
end Go.Proofs.Ytinjhmmbndonhaa.PShaSums
