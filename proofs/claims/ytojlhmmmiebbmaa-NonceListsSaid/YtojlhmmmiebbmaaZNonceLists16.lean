/- What the proof of NonceLists is made of, part 16. -/
import Derived.Test.YtojlhmmmiebbmaaZNonceLists15
namespace Go.Proofs.Ytojlhmmmiebbmaa.PNonceLists
open Go.RowKit Go.Proofs.YtojlhmmmiebbmaaW.PrintWords Go.Proofs.YtojlhmmmiebbmaaW.PrintLast Go.Proofs.YtojlhmmmiebbmaaW.PrintMore Go.Proofs.Ytojlhmmmiebbmaa.Sha Go.Proofs.Ytojlhmmmiebbmaa.Arr
attribute [local go_sem] max2_int min2_int max_two min_two max_three min_three max_four min_four
attribute [local go_sem high] u8_w
set_option linter.unusedVariables false
set_option linter.unusedSimpArgs false
set_option maxHeartbeats 80000000 in
set_option maxRecDepth 100000 in
theorem word_hi (Q : Exit → Act → World → Prop) (df : _) (wb wr : World) (A9 A6 : Option Addr) (k9 k6 tn ai m6 t i nb : Nat) (T B : List Nat) (sl0 sl1 sl2 sl4 sl5 sl6 sl7 sl8 sl12 sl13 sl14 sl15 sl16 sl17 sl18 sl19 sl20 sl21 sl22 sl23 sl24 sl25 sl26 sl27 sl28 sl29 sl30 sl31 sl32 sl33 sl34 sl35 sl36 sl37 sl38 sl39 sl40 sl41 sl42 sl43 sl44 sl45 sl46 sl47 sl48 sl49 sl50 sl51 sl52 sl53 sl54 sl55 sl56 sl57 sl58 sl59 sl60 sl61 sl62 sl63 sl64 sl65 sl66 sl67 sl68 sl69 sl70 sl71 sl72 sl73 sl74 sl75 sl76 sl77 sl78 sl79 sl80 sl81 sl82 sl83 sl84 sl85 sl86 sl87 sl88 sl89 sl90 sl91 sl92 sl93 sl94 sl95 sl96 sl97 sl98 sl99 sl100 sl101 sl102 sl103 sl104 sl105 sl106 sl107 sl108 sl109 sl110 sl111 sl112 sl113 sl114 sl115 sl116 sl117 sl118 sl119 sl120 sl121 sl122 sl123 sl124 sl125 sl126 sl127 sl128 sl129 sl130 sl131 sl132 sl133 sl134 sl135 sl136 sl137 sl138 sl139 sl140 sl141 sl142 sl143 sl144 sl145 sl146 sl147 sl148 sl149 sl150 sl151 sl152 sl153 sl154 sl155 sl156 sl157 sl158 sl159 sl160 sl161 sl162 sl163 sl164 sl165 sl166 sl167 sl168 sl169 sl170 sl171 sl172 sl173 sl174 sl175 sl176 sl177 sl178 sl179 sl180 sl181 sl182 sl183 sl184 sl185 sl186 sl187 sl188 sl189 sl190 sl191 sl192 sl193 sl194 sl195 sl196 sl197 sl198 sl199 sl200 sl201 sl202 sl203 sl204 sl205 sl206 sl207 sl208 sl209 sl210 sl211 sl212 sl213 sl214 sl215 sl216 sl217 sl218 sl219 sl220 sl221 sl222 sl223 sl224 sl225 sl226 sl227 sl228 sl229 sl230 sl231 sl232 sl233 sl234 sl235 sl236 sl237 sl238 sl239 sl240 sl241 sl242 sl243 sl244 sl245 sl246 sl247 sl248 sl249 sl250 sl251 sl252 sl253 sl254 sl255 sl256 sl257 sl258 sl259 sl260 sl261 sl262 sl263 sl264 sl265 sl266 sl267 sl268 sl269 sl270 sl271 sl272 sl273 sl274 sl275 sl276 sl277 sl278 sl279 sl280 sl281 sl282 sl283 sl284 sl285 sl286 sl287 sl288 sl289 sl290 sl291 sl292 sl293 sl294 sl295 sl296 sl297 sl298 sl299 sl300 sl301 sl302 sl303 sl304 sl305 sl306 sl307 sl308 sl309 sl310 sl311 sl312 sl313 sl314 sl315 sl316 sl317 sl318 sl319 sl320 sl321 sl322 sl323 sl324 sl325 sl326 sl327 sl328 sl329 sl330 sl331 sl332 : Value)
    (HTN : Aside0 (tn = T.length ∧ T.length = 64 * nb ∧ tn = (cN T).length ∧ tn ≤ 1000001000)) (HAI : Aside0 (ai = 64 * i)) (HI : Aside0 (i < nb)) (HT8 : Aside0 (Bs T))
    (HTb : Aside0 (Kd.C (Kd.int .u8) wb A9 (cN T).length (cN T))) (HB : Aside0 (B = (T.drop (64 * i)).take 64)) (HBl : Aside0 (∀ j, j < 64 → B.getD j 0 = T.getD (ai + j) 0))
    (HO6 : Aside0 (wr.ownsRow wb.heap.size 79 1 (.slice A6 m6 k6) (cN (wds B t)).length (nums .u32 (cN (wds B t)))))
    (hl6 : ((cN (wds B t)).length + 1) * 4 ≤ 140737488355328) (HM6 : Aside0 (m6 = (cN (wds B t)).length ∧ m6 = t)) (HQ : Aside0 (Below wb.heap.size wb wr)) (ht : t ≤ 64)
    (hlt : ¬ t < 16) (h64 : t < 64)
    (hP : Aside0 (∀ (k : _) (a : Act) (d : Option Tmp) (v : Value) (w : World), Q (.panic k) (a.put d v) w → Q (.panic k) a w))
    (hQ : Aside0 (∀ (nw13 nw14 nw15 nw16 nw66 nw67 nw68 nw69 nw70 nw71 nw108 nw109 nw110 nw111 nw112 nw113 nw114 nw115 nw116 nw117 nw118 nw119 nw120 nw121 nw122 nw123 nw124 nw125 nw126 nw127 nw128 nw129 nw130 nw131 nw132 nw133 nw134 nw135 nw136 nw137 nw138 nw139 nw140 nw141 nw142 nw143 nw144 nw145 nw146 nw147 nw148 nw149 nw150 nw151 : Value) (v8 : Value) (w8 : World), w8.ownsRow wb.heap.size 79 1 v8 (cN (wds B (t + 1))).length (nums .u32 (cN (wds B (t + 1)))) → Below wb.heap.size wb w8 → Q .normal ⟨#[sl0, sl1, sl2, .slice A9 tn k9, sl4, sl5, sl6, sl7, sl8, .int .i64 (ai : Int), v8, .int .i64 ((t : Int) + 1), sl12, nw13, nw14, nw15, nw16, sl17, sl18, sl19, sl20, sl21, sl22, sl23, sl24, sl25, sl26, sl27, sl28, sl29, sl30, sl31, sl32, sl33, sl34, sl35, sl36, sl37, sl38, sl39, sl40, sl41, sl42, sl43, sl44, sl45, sl46, sl47, sl48, sl49, sl50, sl51, sl52, sl53, sl54, sl55, sl56, sl57, sl58, sl59, sl60, sl61, sl62, sl63, sl64, sl65, nw66, nw67, nw68, nw69, nw70, nw71, sl72, sl73, sl74, sl75, sl76, sl77, sl78, sl79, sl80, sl81, sl82, sl83, sl84, sl85, sl86, sl87, sl88, sl89, sl90, sl91, sl92, sl93, sl94, sl95, sl96, sl97, sl98, sl99, sl100, sl101, sl102, sl103, sl104, sl105, sl106, sl107, nw108, nw109, nw110, nw111, nw112, nw113, nw114, nw115, nw116, nw117, nw118, nw119, nw120, nw121, nw122, nw123, nw124, nw125, nw126, nw127, nw128, nw129, nw130, nw131, nw132, nw133, nw134, nw135, nw136, nw137, nw138, nw139, nw140, nw141, nw142, nw143, nw144, nw145, nw146, nw147, nw148, nw149, nw150, nw151, sl152, sl153, sl154, sl155, sl156, sl157, sl158, sl159, sl160, sl161, sl162, sl163, sl164, sl165, sl166, sl167, sl168, sl169, sl170, sl171, sl172, sl173, sl174, sl175, sl176, sl177, sl178, sl179, sl180, sl181, sl182, sl183, sl184, sl185, sl186, sl187, sl188, sl189, sl190, sl191, sl192, sl193, sl194, sl195, sl196, sl197, sl198, sl199, sl200, sl201, sl202, sl203, sl204, sl205, sl206, sl207, sl208, sl209, sl210, sl211, sl212, sl213, sl214, sl215, sl216, sl217, sl218, sl219, sl220, sl221, sl222, sl223, sl224, sl225, sl226, sl227, sl228, sl229, sl230, sl231, sl232, sl233, sl234, sl235, sl236, sl237, sl238, sl239, sl240, sl241, sl242, sl243, sl244, sl245, sl246, sl247, sl248, sl249, sl250, sl251, sl252, sl253, sl254, sl255, sl256, sl257, sl258, sl259, sl260, sl261, sl262, sl263, sl264, sl265, sl266, sl267, sl268, sl269, sl270, sl271, sl272, sl273, sl274, sl275, sl276, sl277, sl278, sl279, sl280, sl281, sl282, sl283, sl284, sl285, sl286, sl287, sl288, sl289, sl290, sl291, sl292, sl293, sl294, sl295, sl296, sl297, sl298, sl299, sl300, sl301, sl302, sl303, sl304, sl305, sl306, sl307, sl308, sl309, sl310, sl311, sl312, sl313, sl314, sl315, sl316, sl317, sl318, sl319, sl320, sl321, sl322, sl323, sl324, sl325, sl326, sl327, sl328, sl329, sl330, sl331, sl332], df⟩ w8)) :
    Code.wp Try.prog round6 Q ⟨#[sl0, sl1, sl2, .slice A9 tn k9, sl4, sl5, sl6, sl7, sl8, .int .i64 (ai : Int), .slice A6 m6 k6, .int .i64 (t : Int), sl12, sl13, sl14, sl15, sl16, sl17, sl18, sl19, sl20, sl21, sl22, sl23, sl24, sl25, sl26, sl27, sl28, sl29, sl30, sl31, sl32, sl33, sl34, sl35, sl36, sl37, sl38, sl39, sl40, sl41, sl42, sl43, sl44, sl45, sl46, sl47, sl48, sl49, sl50, sl51, sl52, sl53, sl54, sl55, sl56, sl57, sl58, sl59, sl60, sl61, sl62, sl63, sl64, sl65, sl66, sl67, sl68, sl69, sl70, sl71, sl72, sl73, sl74, sl75, sl76, sl77, sl78, sl79, sl80, sl81, sl82, sl83, sl84, sl85, sl86, sl87, sl88, sl89, sl90, sl91, sl92, sl93, sl94, sl95, sl96, sl97, sl98, sl99, sl100, sl101, sl102, sl103, sl104, sl105, sl106, sl107, sl108, sl109, sl110, sl111, sl112, sl113, sl114, sl115, sl116, sl117, sl118, sl119, sl120, sl121, sl122, sl123, sl124, sl125, sl126, sl127, sl128, sl129, sl130, sl131, sl132, sl133, sl134, sl135, sl136, sl137, sl138, sl139, sl140, sl141, sl142, sl143, sl144, sl145, sl146, sl147, sl148, sl149, sl150, sl151, sl152, sl153, sl154, sl155, sl156, sl157, sl158, sl159, sl160, sl161, sl162, sl163, sl164, sl165, sl166, sl167, sl168, sl169, sl170, sl171, sl172, sl173, sl174, sl175, sl176, sl177, sl178, sl179, sl180, sl181, sl182, sl183, sl184, sl185, sl186, sl187, sl188, sl189, sl190, sl191, sl192, sl193, sl194, sl195, sl196, sl197, sl198, sl199, sl200, sl201, sl202, sl203, sl204, sl205, sl206, sl207, sl208, sl209, sl210, sl211, sl212, sl213, sl214, sl215, sl216, sl217, sl218, sl219, sl220, sl221, sl222, sl223, sl224, sl225, sl226, sl227, sl228, sl229, sl230, sl231, sl232, sl233, sl234, sl235, sl236, sl237, sl238, sl239, sl240, sl241, sl242, sl243, sl244, sl245, sl246, sl247, sl248, sl249, sl250, sl251, sl252, sl253, sl254, sl255, sl256, sl257, sl258, sl259, sl260, sl261, sl262, sl263, sl264, sl265, sl266, sl267, sl268, sl269, sl270, sl271, sl272, sl273, sl274, sl275, sl276, sl277, sl278, sl279, sl280, sl281, sl282, sl283, sl284, sl285, sl286, sl287, sl288, sl289, sl290, sl291, sl292, sl293, sl294, sl295, sl296, sl297, sl298, sl299, sl300, sl301, sl302, sl303, sl304, sl305, sl306, sl307, sl308, sl309, sl310, sl311, sl312, sl313, sl314, sl315, sl316, sl317, sl318, sl319, sl320, sl321, sl322, sl323, sl324, sl325, sl326, sl327, sl328, sl329, sl330, sl331, sl332], df⟩ wr := by
  dsimp only [round6, code5, round4, cL, cR, cB, cO, cP, body11, Try.f51, Option.getD]
  obtain ⟨gw, rfl⟩ : ∃ g, A6 = some ⟨g, 0, none⟩ := by
    rcases HO6.out.2 with ⟨e, h0⟩ | ⟨b0, cap, cur, e, _⟩
    · have := HM6.out; omega
    · injection e with e1 e2 e3
      exact ⟨b0, e1⟩
  have hcw : ∀ j, j < t → wr.cell? ⟨gw, j, none⟩ = some (.int .u32 ((wds B t).getD j 0 : Nat)) := by
    intro j hj
    have h := (own_at (by have h := HO6.out; rw [← HM6.out.1] at h; exact h) (j : Int) (by omega) (by have := HM6.out; omega)).1
    rw [Int.toNat_natCast, rd_cN] at h
    exact h
  obtain ⟨j15, e15⟩ : ∃ j, j = t - 15 := ⟨_, rfl⟩
  obtain ⟨j2, e2⟩ : ∃ j, j = t - 2 := ⟨_, rfl⟩
  obtain ⟨j7, e7⟩ : ∃ j, j = t - 7 := ⟨_, rfl⟩
  obtain ⟨j16, e16⟩ : ∃ j, j = t - 16 := ⟨_, rfl⟩
  have h15 := hcw j15 (by omega)
  have h2 := hcw j2 (by omega)
  have h7 := hcw j7 (by omega)
  have h16 := hcw j16 (by omega)
  have hWn : nextw (wds B t) t = add2 (add2 (add2 (sm1 ((wds B t).getD j2 0)) ((wds B t).getD j7 0)) (sm0 ((wds B t).getD j15 0))) ((wds B t).getD j16 0) := by rw [e2, e7, e15, e16]; rfl
  have hbs : ∀ j, B.getD j 0 < 256 := by rw [HB.out]; exact (HT8.out.drop _).take _
  have l15 := wds_lt B hbs t j15
  have l2 := wds_lt B hbs t j2
  have l7 := wds_lt B hbs t j7
  have l16 := wds_lt B hbs t j16
  obtain ⟨x15, hX⟩ : ∃ x, (wds B t).getD j15 0 = x := ⟨_, rfl⟩
  rw [hX] at h15 hWn l15
  clear hX
  obtain ⟨x2, hX⟩ : ∃ x, (wds B t).getD j2 0 = x := ⟨_, rfl⟩
  rw [hX] at h2 hWn l2
  clear hX
  obtain ⟨x7, hX⟩ : ∃ x, (wds B t).getD j7 0 = x := ⟨_, rfl⟩
  rw [hX] at h7 hWn l7
  clear hX
  obtain ⟨x16, hX⟩ : ∃ x, (wds B t).getD j16 0 = x := ⟨_, rfl⟩
  rw [hX] at h16 hWn l16
  clear hX hbs hcw
  obtain ⟨r7, hr7⟩ : ∃ r, r = rotr x15 7 := ⟨_, rfl⟩
  obtain ⟨r18, hr18⟩ : ∃ r, r = rotr x15 18 := ⟨_, rfl⟩
  obtain ⟨y3, hy3⟩ : ∃ r, r = x15 / 2 ^ 3 := ⟨_, rfl⟩
  obtain ⟨r17, hr17⟩ : ∃ r, r = rotr x2 17 := ⟨_, rfl⟩
  obtain ⟨r19, hr19⟩ : ∃ r, r = rotr x2 19 := ⟨_, rfl⟩
  obtain ⟨y10, hy10⟩ : ∃ r, r = x2 / 2 ^ 10 := ⟨_, rfl⟩
  obtain ⟨p0, hp0⟩ : ∃ r, r = r7 ^^^ r18 := ⟨_, rfl⟩
  obtain ⟨s0, hs0⟩ : ∃ r, r = p0 ^^^ y3 := ⟨_, rfl⟩
  obtain ⟨p1, hp1⟩ : ∃ r, r = r17 ^^^ r19 := ⟨_, rfl⟩
  obtain ⟨s1, hs1⟩ : ∃ r, r = p1 ^^^ y10 := ⟨_, rfl⟩
  have HS0 : s0 = sm0 x15 := by rw [hs0, hp0, hr7, hr18, hy3]; rfl
  have HS1 : s1 = sm1 x2 := by rw [hs1, hp1, hr17, hr19, hy10]; rfl
  have k7 : r7 < 4294967296 := by rw [hr7]; exact rotr_lt _ _ l15 (by decide)
  have k18 : r18 < 4294967296 := by rw [hr18]; exact rotr_lt _ _ l15 (by decide)
  have k17 : r17 < 4294967296 := by rw [hr17]; exact rotr_lt _ _ l2 (by decide)
  have k19 : r19 < 4294967296 := by rw [hr19]; exact rotr_lt _ _ l2 (by decide)
  have k3 : y3 < 4294967296 := by rw [hy3]; exact Nat.lt_of_le_of_lt (Nat.div_le_self _ _) l15
  have k10 : y10 < 4294967296 := by rw [hy10]; exact Nat.lt_of_le_of_lt (Nat.div_le_self _ _) l2
  have kp0 : p0 < 4294967296 := by rw [hp0]; exact xor_lt _ _ k7 k18
  have kp1 : p1 < 4294967296 := by rw [hp1]; exact xor_lt _ _ k17 k19
  obtain ⟨z1, hz1⟩ : ∃ z, z = add2 s1 x7 := ⟨_, rfl⟩
  obtain ⟨z2, hz2⟩ : ∃ z, z = add2 z1 s0 := ⟨_, rfl⟩
  obtain ⟨W, hW⟩ : ∃ z, z = add2 z2 x16 := ⟨_, rfl⟩
  have HWW : Aside0 (W = nextw (wds B t) t) := Aside0.mk (by rw [hWn, hW, hz2, hz1, HS0, HS1])
  have q1 := xor_as r7 r18 p0 hp0 k7 k18
  have q2 := xor_as p0 y3 s0 hs0 kp0 k3
  have q3 := xor_as r17 r19 p1 hp1 k17 k19
  have q4 := xor_as p1 y10 s1 hs1 kp1 k10
  have a1 := add_w s1 x7 z1 hz1
  have a2 := add_w z1 s0 z2 hz2
  have a3 := add_w z2 x16 W hW
  obtain ⟨v15, v2, v7, v16, b15, b2, b7, b16, t15, t2, t7, t16, t5, t6⟩ := wsub t j15 j2 j7 j16 m6 e15 e2 e7 e16 (by omega) h64 HM6.out.2
  have R7 := Aside0.mk (right_as x15 7 r7 7 rfl hr7 l15 (by decide))
  have R18 := Aside0.mk (right_as x15 18 r18 18 rfl hr18 l15 (by decide))
  have R3 := Aside0.mk (shift_as x15 3 y3 3 rfl hy3 l15 (by decide))
  have R17 := Aside0.mk (right_as x2 17 r17 17 rfl hr17 l2 (by decide))
  have R19 := Aside0.mk (right_as x2 19 r19 19 rfl hr19 l2 (by decide))
  have R10 := Aside0.mk (shift_as x2 10 y10 10 rfl hy10 l2 (by decide))
  have H64 := Aside0.mk (And.intro h64 hlt)
  clear h64 hlt ht e15 e2 e7 e16 hWn l15 l2 l7 l16 hr7 hr18 hy3 hr17 hr19 hy10 hp0 hs0 hp1 hs1 HS0 HS1 k7 k18 k17 k19 k3 k10 kp0 kp1 hz1 hz2 hW
  go_upto_region 29 with (first | ((with_reducible refine gate_callee (f := 61) rfl ?_); refine goesL_ (some 119) rfl rfl Try.func61 (by kernel_rfl) rfl #[.int .u32 (x15 : Int), .int .i64 7] rfl (by (try simp only [List.map_toArray, List.map_cons, List.map_nil]); first | done | rfl) ?_; (with_reducible refine (R7.out _).mono ?_); rintro e u1 ⟨rfl, d1⟩; refine ⟨_, rfl, ?_⟩) | ((with_reducible refine gate_callee (f := 61) rfl ?_); refine goesL_ (some 121) rfl rfl Try.func61 (by kernel_rfl) rfl #[.int .u32 (x15 : Int), .int .i64 18] rfl (by (try simp only [List.map_toArray, List.map_cons, List.map_nil]); first | done | rfl) ?_; (with_reducible refine (R18.out _).mono ?_); rintro e u2 ⟨rfl, d2⟩; refine ⟨_, rfl, ?_⟩) | ((with_reducible refine gate_callee (f := 62) rfl ?_); refine goesL_ (some 124) rfl rfl Try.func62 (by kernel_rfl) rfl #[.int .u32 (x15 : Int), .int .i64 3] rfl (by (try simp only [List.map_toArray, List.map_cons, List.map_nil]); first | done | rfl) ?_; (with_reducible refine (R3.out _).mono ?_); rintro e u3 ⟨rfl, d3⟩; refine ⟨_, rfl, ?_⟩) | ((with_reducible refine gate_callee (f := 61) rfl ?_); refine goesL_ (some 127) rfl rfl Try.func61 (by kernel_rfl) rfl #[.int .u32 (x2 : Int), .int .i64 17] rfl (by (try simp only [List.map_toArray, List.map_cons, List.map_nil]); first | done | rfl) ?_; (with_reducible refine (R17.out _).mono ?_); rintro e u4 ⟨rfl, d4⟩; refine ⟨_, rfl, ?_⟩) | ((with_reducible refine gate_callee (f := 61) rfl ?_); refine goesL_ (some 129) rfl rfl Try.func61 (by kernel_rfl) rfl #[.int .u32 (x2 : Int), .int .i64 19] rfl (by (try simp only [List.map_toArray, List.map_cons, List.map_nil]); first | done | rfl) ?_; (with_reducible refine (R19.out _).mono ?_); rintro e u5 ⟨rfl, d5⟩; refine ⟨_, rfl, ?_⟩) | ((with_reducible refine gate_callee (f := 62) rfl ?_); refine goesL_ (some 132) rfl rfl Try.func62 (by kernel_rfl) rfl #[.int .u32 (x2 : Int), .int .i64 10] rfl (by (try simp only [List.map_toArray, List.map_cons, List.map_nil]); first | done | rfl) ?_; (with_reducible refine (R10.out _).mono ?_); rintro e u6 ⟨rfl, d6⟩; refine ⟨_, rfl, ?_⟩))
  have D := drawn_transR (drawn_transR (drawn_transR (drawn_transR (drawn_transR d1 d2) d3) d4) d5) d6
  have g7 := drawn_cellR D h7
  have g16 := drawn_cellR D h16
  have HO7 := Aside0.mk (drawn_own D HO6.out)
  have HQ7 : Aside0 (Below wb.heap.size wb u6) := Aside0.mk (HQ.out.trans (D.below.mono HQ.out.size))
  clear d1 d2 d3 d4 d5 d6 D h7 h16 h15 h2 R7 R18 R3 R17 R19 R10 q1 q2 q3 q4 HO6 HQ b15 b2 b7 b16
  refine start_ (n := 19) (S := fun w' => w'.cell? ⟨gw, j7, none⟩ = some (.int .u32 (x7 : Nat)) ∧ w'.cell? ⟨gw, j16, none⟩ = some (.int .u32 (x16 : Nat))) (ds := [16, 17]) #[false, false, false, false, false, false, false, false, false, false, false, false, false, false, false, false, false, false, false] (by kernel_rfl) rfl rfl ⟨g7, g16⟩ (fun hHeld => ?_)
  refine pure_ (i := 0) (N := some 134) (v := ?_) (a' := ?_) #[true, false, false, false, false, false, false, false, false, false, false, false, false, false, false, false, false, false, false] rfl rfl (by kernel_rfl) (fun c_ a_ w_ h => hP.out c_ a_ _ _ w_ h) (Or.inl ⟨by rfl, ?_⟩) ?_ ?_
  rotate_left
  · intro w'
    go_simp
    with_reducible rfl
  rotate_left
  · simp only [Act.put, List.setIfInBounds_toArray, List.set_cons_zero, List.set_cons_succ, i64_w, i32_w]
    rfl
  refine pure_ (i := 1) (N := some 135) (v := ?_) (a' := ?_) #[true, true, false, false, false, false, false, false, false, false, false, false, false, false, false, false, false, false, false] rfl rfl (by kernel_rfl) (fun c_ a_ w_ h => hP.out c_ a_ _ _ w_ h) (Or.inl ⟨by rfl, ?_⟩) ?_ ?_
  rotate_left
  · intro w'
    go_simp
    with_reducible rfl
  rotate_left
  · simp only [Act.put, List.setIfInBounds_toArray, List.set_cons_zero, List.set_cons_succ, i64_w, i32_w]
    rfl
  refine pure_ (i := 2) (N := some 136) (v := ?_) (a' := ?_) #[true, true, true, false, false, false, false, false, false, false, false, false, false, false, false, false, false, false, false] rfl rfl (by kernel_rfl) (fun c_ a_ w_ h => hP.out c_ a_ _ _ w_ h) (Or.inl ⟨by rfl, ?_⟩) ?_ ?_
  rotate_left
  · intro w'
    go_simp
    with_reducible rfl
  rotate_left
  · simp only [Act.put, List.setIfInBounds_toArray, List.set_cons_zero, List.set_cons_succ, i64_w, i32_w]
    rfl
  refine pure_ (i := 3) (N := some 137) (v := ?_) (a' := ?_) #[true, true, true, true, false, false, false, false, false, false, false, false, false, false, false, false, false, false, false] rfl rfl (by kernel_rfl) (fun c_ a_ w_ h => hP.out c_ a_ _ _ w_ h) (Or.inl ⟨by rfl, ?_⟩) ?_ ?_
  rotate_left
  · intro w'
    go_simp
    with_reducible rfl
  rotate_left
  · simp only [Act.put, List.setIfInBounds_toArray, List.set_cons_zero, List.set_cons_succ, i64_w, i32_w]
    rfl
  refine pure_ (i := 4) (N := some 138) (v := ?_) (a' := ?_) #[true, true, true, true, true, false, false, false, false, false, false, false, false, false, false, false, false, false, false] rfl rfl (by kernel_rfl) (fun c_ a_ w_ h => hP.out c_ a_ _ _ w_ h) (Or.inl ⟨by rfl, ?_⟩) ?_ ?_
  rotate_left
  · intro w'
    go_simp
    with_reducible rfl
  rotate_left
  · simp only [Act.put, List.setIfInBounds_toArray, List.set_cons_zero, List.set_cons_succ, i64_w, i32_w]
    rfl
  refine pure_ (i := 5) (N := some 139) (v := ?_) (a' := ?_) #[true, true, true, true, true, true, false, false, false, false, false, false, false, false, false, false, false, false, false] rfl rfl (by kernel_rfl) (fun c_ a_ w_ h => hP.out c_ a_ _ _ w_ h) (Or.inl ⟨by rfl, ?_⟩) ?_ ?_
  rotate_left
  · intro w'
    go_simp
    with_reducible rfl
  rotate_left
  · simp only [Act.put, List.setIfInBounds_toArray, List.set_cons_zero, List.set_cons_succ, i64_w, i32_w]
    rfl
  refine pure_ (i := 8) (N := some 142) (v := ?_) (a' := ?_) #[true, true, true, true, true, true, false, false, true, false, false, false, false, false, false, false, false, false, false] rfl rfl (by kernel_rfl) (fun c_ a_ w_ h => hP.out c_ a_ _ _ w_ h) (Or.inl ⟨by rfl, ?_⟩) ?_ ?_
  rotate_left
  · intro w'
    go_simp
    with_reducible rfl
  rotate_left
  · simp only [Act.put, List.setIfInBounds_toArray, List.set_cons_zero, List.set_cons_succ, i64_w, i32_w]
    rfl
  refine pure_ (i := 10) (N := some 144) (v := ?_) (a' := ?_) #[true, true, true, true, true, true, false, false, true, false, true, false, false, false, false, false, false, false, false] rfl rfl (by kernel_rfl) (fun c_ a_ w_ h => hP.out c_ a_ _ _ w_ h) (Or.inl ⟨by rfl, ?_⟩) ?_ ?_
  rotate_left
  · intro w'
    go_simp
    with_reducible rfl
  rotate_left
  · simp only [Act.put, List.setIfInBounds_toArray, List.set_cons_zero, List.set_cons_succ, i64_w, i32_w]
    rfl
  refine pure_ (i := 11) (N := some 145) (v := ?_) (a' := ?_) #[true, true, true, true, true, true, false, false, true, false, true, true, false, false, false, false, false, false, false] rfl rfl (by kernel_rfl) (fun c_ a_ w_ h => hP.out c_ a_ _ _ w_ h) (Or.inl ⟨by rfl, ?_⟩) ?_ ?_
  rotate_left
  · intro w'
    go_simp
    with_reducible rfl
  rotate_left
  · simp only [Act.put, List.setIfInBounds_toArray, List.set_cons_zero, List.set_cons_succ, i64_w, i32_w]
    rfl
  refine pure_ (i := 12) (N := some 146) (v := ?_) (a' := ?_) #[true, true, true, true, true, true, false, false, true, false, true, true, true, false, false, false, false, false, false] rfl rfl (by kernel_rfl) (fun c_ a_ w_ h => hP.out c_ a_ _ _ w_ h) (Or.inl ⟨by rfl, ?_⟩) ?_ ?_
  rotate_left
  · intro w'
    go_simp
    with_reducible rfl
  rotate_left
  · simp only [Act.put, List.setIfInBounds_toArray, List.set_cons_zero, List.set_cons_succ, i64_w, i32_w]
    rfl
  refine pure_ (i := 13) (N := some 147) (v := ?_) (a' := ?_) #[true, true, true, true, true, true, false, false, true, false, true, true, true, true, false, false, false, false, false] rfl rfl (by kernel_rfl) (fun c_ a_ w_ h => hP.out c_ a_ _ _ w_ h) (Or.inl ⟨by rfl, ?_⟩) ?_ ?_
  rotate_left
  · intro w'
    go_simp
    with_reducible rfl
  rotate_left
  · simp only [Act.put, List.setIfInBounds_toArray, List.set_cons_zero, List.set_cons_succ, i64_w, i32_w]
    rfl
  refine take_ (i := 6) (N := some 140) (v := ?_) (a' := ?_) #[true, true, true, true, true, true, true, false, true, false, true, true, true, true, false, false, false, false, false] rfl rfl (by kernel_rfl) (fun c_ a_ w_ h => hP.out c_ a_ _ _ w_ h) (Or.inl ⟨by rfl, ?_⟩) hHeld ?_ ?_
  rotate_left
  · rintro w' ⟨s0, s1⟩
    go_simp
    with_reducible rfl
  rotate_left
  · simp only [Act.put, List.setIfInBounds_toArray, List.set_cons_zero, List.set_cons_succ, i64_w, i32_w]
    rfl
  refine pure_ (i := 7) (N := some 141) (v := ?_) (a' := ?_) #[true, true, true, true, true, true, true, true, true, false, true, true, true, true, false, false, false, false, false] rfl rfl (by kernel_rfl) (fun c_ a_ w_ h => hP.out c_ a_ _ _ w_ h) (Or.inl ⟨by rfl, ?_⟩) ?_ ?_
  rotate_left
  · intro w'
    go_simp
    with_reducible rfl
  rotate_left
  · simp only [Act.put, List.setIfInBounds_toArray, List.set_cons_zero, List.set_cons_succ, i64_w, i32_w]
    rfl
  refine pure_ (i := 9) (N := some 143) (v := ?_) (a' := ?_) #[true, true, true, true, true, true, true, true, true, true, true, true, true, true, false, false, false, false, false] rfl rfl (by kernel_rfl) (fun c_ a_ w_ h => hP.out c_ a_ _ _ w_ h) (Or.inl ⟨by rfl, ?_⟩) ?_ ?_
  rotate_left
  · intro w'
    go_simp
    with_reducible rfl
  rotate_left
  · simp only [Act.put, List.setIfInBounds_toArray, List.set_cons_zero, List.set_cons_succ, i64_w, i32_w]
    rfl
  refine take_ (i := 14) (N := some 148) (v := ?_) (a' := ?_) #[true, true, true, true, true, true, true, true, true, true, true, true, true, true, true, false, false, false, false] rfl rfl (by kernel_rfl) (fun c_ a_ w_ h => hP.out c_ a_ _ _ w_ h) (Or.inl ⟨by rfl, ?_⟩) hHeld ?_ ?_
  rotate_left
  · rintro w' ⟨s0, s1⟩
    go_simp
    with_reducible rfl
  rotate_left
  · simp only [Act.put, List.setIfInBounds_toArray, List.set_cons_zero, List.set_cons_succ, i64_w, i32_w]
    rfl
  refine pure_ (i := 15) (N := some 149) (v := ?_) (a' := ?_) #[true, true, true, true, true, true, true, true, true, true, true, true, true, true, true, true, false, false, false] rfl rfl (by kernel_rfl) (fun c_ a_ w_ h => hP.out c_ a_ _ _ w_ h) (Or.inl ⟨by rfl, ?_⟩) ?_ ?_
  rotate_left
  · intro w'
    go_simp
    with_reducible rfl
  rotate_left
  · simp only [Act.put, List.setIfInBounds_toArray, List.set_cons_zero, List.set_cons_succ, i64_w, i32_w]
    rfl
  refine last_ (i := 16) (N := some 150) #[true, true, true, true, true, true, true, true, true, true, true, true, true, true, true, true, true, false, false] rfl rfl (by kernel_rfl) (by decide) (fun K hK => ?_)
  refine value_ (w1 := ?_) (v := ?_) (by rfl) rfl ?_ ?_
  rotate_left 2
  · go_simp
    constructor
    · rfl
    · rfl
  refine hK.out _ _ ?_
  clear hK K
  refine norm_ (a' := ?_) ?_ ?_
  rotate_left
  · show Act.put _ (some 150) _ = _
    simp only [Act.put, List.setIfInBounds_toArray, List.set_cons_zero, List.set_cons_succ, i64_w, i32_w]
    rfl
  refine last_ (i := 17) (N := some 151) #[true, true, true, true, true, true, true, true, true, true, true, true, true, true, true, true, true, true, false] rfl rfl (by kernel_rfl) (by decide) (fun K hK => ?_)
  refine Kd.R_append_step (Kd.int .u32) (w0 := wb) (W := u6.drew) wb.heap.size (by rfl) (.tmp 134) (.tmp 150) 97 79 (.int .u32 0) 4 rfl rfl rfl rfl (by decide) (by omega) (.slice (some ⟨gw, 0, none⟩) m6 k6) (cN (wds B t)) (W : Int) [.int .u32 (W : Int)] (fun _ => True) (fun _ => False) rfl rfl rfl (fun _ h => h.elim) (fun _ _ => trivial) (Kd.R_of_own (own_drew HO7.out) (fun _ _ => trivial)) HQ7.out.drew HQ7.out.size hl6 ?_
  intro v8 w8 ho hb hg hat
  clear hg hat
  refine hK.out _ _ ?_
  clear hK K
  refine norm_ (a' := ?_) ?_ ?_
  rotate_left
  · show Act.put _ (some 151) _ = _
    simp only [Act.put, List.setIfInBounds_toArray, List.set_cons_zero, List.set_cons_succ, i64_w, i32_w]
    rfl
  refine pure_ (i := 18) (N := some 10) (v := ?_) (a' := ?_) #[true, true, true, true, true, true, true, true, true, true, true, true, true, true, true, true, true, true, true] rfl rfl (by kernel_rfl) (fun c_ a_ w_ h => hP.out c_ a_ _ _ w_ h) (Or.inl ⟨by rfl, ?_⟩) ?_ ?_
  rotate_left
  · intro w'
    go_simp
    with_reducible rfl
  rotate_left
  · simp only [Act.put, List.setIfInBounds_toArray, List.set_cons_zero, List.set_cons_succ, i64_w, i32_w]
    rfl
  refine done_ (by kernel_rfl) ?_
  have HO8 := Aside0.mk (Kd.own_of_R ho)
  have HQ8 := Aside0.mk hb
  clear ho hb hHeld v15 v2 v7 v16 t15 t2 t7 t16 g7 g16 a1 a2 a3 hl6 t5
  go_wp2
  have ho8 := HO8.out
  have HLT := Aside0.mk H64.out.1
  rw [wds_hi_c B t W H64.out.2 HWW.out] at ho8
  have HO9 : Aside0 (w8.ownsRow wb.heap.size 79 1 v8 (cN (wds B (t + 1))).length (nums .u32 (cN (wds B (t + 1))))) := Aside0.mk (own_num ho8)
  clear ho8
  exact hQ.out _ _ _ _ _ _ _ _ _ _ _ _ _ _ _ _ _ _ _ _ _ _ _ _ _ _ _ _ _ _ _ _ _ _ _ _ _ _ _ _ _ _ _ _ _ _ _ _ _ _ _ _ _ _ v8 w8 HO9.out HQ8.out
end Go.Proofs.Ytojlhmmmiebbmaa.PNonceLists
