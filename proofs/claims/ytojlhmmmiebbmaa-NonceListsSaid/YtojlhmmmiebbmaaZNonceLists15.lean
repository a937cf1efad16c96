/- What the proof of NonceLists is made of, part 15. -/
import Derived.Test.YtojlhmmmiebbmaaZNonceLists14
namespace Go.Proofs.Ytojlhmmmiebbmaa.PNonceLists
open Go.RowKit Go.Proofs.YtojlhmmmiebbmaaW.PrintWords Go.Proofs.YtojlhmmmiebbmaaW.PrintLast Go.Proofs.YtojlhmmmiebbmaaW.PrintMore Go.Proofs.Ytojlhmmmiebbmaa.Sha Go.Proofs.Ytojlhmmmiebbmaa.Arr
attribute [local go_sem] max2_int min2_int max_two min_two max_three min_three max_four min_four
attribute [local go_sem high] u8_w
set_option linter.unusedVariables false
set_option linter.unusedSimpArgs false
theorem own_C {w : World} {base m k : Nat} {e : TypeId} {A : Option Addr} {b : List Nat} (h : w.ownsRow base e 1 (.slice A m k) (cN b).length (nums .u8 (cN b))) : Kd.C (Kd.int .u8) w A (cN b).length (cN b) := by
  obtain ⟨A9, c9, e9, h9⟩ := own_reads_of (enc := Value.int .u8) (d := (0 : Int)) h
  injection e9 with e1 e2 e3
  rw [e1]
  exact Kd.C_of_reads (h1 := fun _ => rfl) h9
theorem own_none {w : World} (base : Nat) {e : TypeId} {k : IntKind} : w.ownsRow base e 1 (.slice none 0 0) (cN ([] : List Nat)).length (nums k (cN ([] : List Nat))) := ⟨rfl, .inl ⟨rfl, rfl⟩⟩
theorem But.cell {B g : Nat} {a w : World} (h : But B g a w) {b i : Nat} (hb : b < B) (hg : b ≠ g) {v : Value} (hc : a.cell? ⟨b, i, none⟩ = some v) : w.cell? ⟨b, i, none⟩ = some v := by
  have e := h.block b hb hg
  simp only [World.cell?, e]
  exact hc
theorem C_but {g : Nat} {a w : World} {A : Option Addr} {n : Nat} {xs : List Int} (h : But a.heap.size g a w) (hr : Kd.C (Kd.int .u8) a A n xs) (hf : ∀ ad, A = some ad → 0 < n → ad.block ≠ g) : Kd.C (Kd.int .u8) w A n xs :=
  Kd.C_keep (enc := Value.int .u8) (h1 := fun _ => rfl) (0 : Int) hr (KB.but (row := none) h).keep hf
theorem widx (ai t t4 i0 i1 i2 i3 tn : Nat) (e4 : t4 = 4 * t) (e0 : i0 = ai + t4) (e1 : i1 = i0 + 1) (e2 : i2 = i0 + 2) (e3 : i3 = i0 + 3) (hb : i3 < tn) (ht : tn ≤ 1000001000) :
    wrap64 (4 * (t : Int)) = (t4 : Int) ∧ 4 * (t : Int) = (t4 : Int) ∧ wrap64 ((ai : Int) + (t4 : Int)) = (i0 : Int) ∧ wrap64 ((i0 : Int) + 1) = (i1 : Int) ∧ wrap64 ((i0 : Int) + 2) = (i2 : Int) ∧ wrap64 ((i0 : Int) + 3) = (i3 : Int) ∧ (i0 : Int) < (tn : Int) ∧ (i1 : Int) < (tn : Int) ∧ (i2 : Int) < (tn : Int) ∧ (i3 : Int) < (tn : Int) := by
  unfold wrap64
  exact ⟨by omega, by omega, by omega, by omega, by omega, by omega, by omega, by omega, by omega, by omega⟩
theorem wvals (x0 x1 x2 x3 y0 y1 y2 z1 z2 W : Nat) (h0 : x0 < 256) (h1 : x1 < 256) (h2 : x2 < 256) (h3 : x3 < 256) (f0 : y0 = x0 * 16777216) (f1 : y1 = x1 * 65536) (f2 : y2 = x2 * 256) (g1 : z1 = y0 + y1) (g2 : z2 = z1 + y2) (hW : W = x0 * 16777216 + x1 * 65536 + x2 * 256 + x3) :
    IntKind.u32.wrap (x0 : Int) = (x0 : Int) ∧ IntKind.u32.wrap (x1 : Int) = (x1 : Int) ∧ IntKind.u32.wrap (x2 : Int) = (x2 : Int) ∧ IntKind.u32.wrap (x3 : Int) = (x3 : Int) ∧ IntKind.u32.wrap ((x0 : Int) * 16777216) = (y0 : Int) ∧ IntKind.u32.wrap ((x1 : Int) * 65536) = (y1 : Int) ∧ IntKind.u32.wrap ((x2 : Int) * 256) = (y2 : Int) ∧ IntKind.u32.wrap ((y0 : Int) + (y1 : Int)) = (z1 : Int) ∧ IntKind.u32.wrap ((z1 : Int) + (y2 : Int)) = (z2 : Int) ∧ IntKind.u32.wrap ((z2 : Int) + (x3 : Int)) = (W : Int) := by
  simp only [IntKind.wrap_u32]
  exact ⟨by omega, by omega, by omega, by omega, by omega, by omega, by omega, by omega, by omega, by omega⟩
theorem wsub (t j15 j2 j7 j16 m : Nat) (e15 : j15 = t - 15) (e2 : j2 = t - 2) (e7 : j7 = t - 7) (e16 : j16 = t - 16) (h : 16 ≤ t) (h64 : t < 64) (hm : m = t) :
    wrap64 ((t : Int) - 15) = (j15 : Int) ∧ wrap64 ((t : Int) - 2) = (j2 : Int) ∧ wrap64 ((t : Int) - 7) = (j7 : Int) ∧ wrap64 ((t : Int) - 16) = (j16 : Int) ∧ (t : Int) - 15 = (j15 : Int) ∧ (t : Int) - 2 = (j2 : Int) ∧ (t : Int) - 7 = (j7 : Int) ∧ (t : Int) - 16 = (j16 : Int) ∧ (j15 : Int) < (m : Int) ∧ (j2 : Int) < (m : Int) ∧ (j7 : Int) < (m : Int) ∧ (j16 : Int) < (m : Int) ∧ ¬ (t : Int) < 16 ∧ (t : Int) < 64 := by
  unfold wrap64
  exact ⟨by omega, by omega, by omega, by omega, by omega, by omega, by omega, by omega, by omega, by omega, by omega, by omega, by omega, by omega⟩
theorem lt64 {t : Nat} (h : t < 64) : t + 1 ≤ 64 := h
theorem meas64 {t : Nat} (h : t < 64) : 64 - (intOf (.int .i64 ((t : Int) + 1))).toNat < 64 - (intOf (.int .i64 (t : Int))).toNat := by
  show 64 - ((t : Int) + 1).toNat < 64 - (t : Int).toNat
  omega
theorem wds_lo_c (B : List Nat) (t W : Nat) (h : t < 16) (hW : W = word B t) : cN (wds B t) ++ [(W : Int)] = cN (wds B (t + 1)) := by
  subst hW
  rw [← wds_low B t h, cN_append]
  rfl
theorem wds_hi_c (B : List Nat) (t W : Nat) (h : ¬ t < 16) (hW : W = nextw (wds B t) t) : cN (wds B t) ++ [(W : Int)] = cN (wds B (t + 1)) := by
  subst hW
  rw [← wds_high B t h, cN_append]
  rfl
theorem own_num {w : World} {base n : Nat} {e : TypeId} {v : Value} {k : IntKind} {xs : List Int} (h : w.ownsRow base e 1 v n (encs (Value.int k) xs)) : w.ownsRow base e 1 v n (nums k xs) := h
theorem meas8 {t : Nat} (h : t < 8) : 8 - (intOf (.int .i64 ((t : Int) + 1))).toNat < 8 - (intOf (.int .i64 (t : Int))).toNat := by
  show 8 - ((t : Int) + 1).toNat < 8 - (t : Int).toNat
  omega
theorem far_cell (w : World) {p : Addr} {g : Nat} (h : g ≠ p.block) (u : Value) (q : Nat) : (World.drew (World.setCell w p u)).cell? ⟨g, q, none⟩ = w.cell? ⟨g, q, none⟩ := by
  have e := Below.heap_setCell w p u g h
  show (World.setCell w p u).cell? ⟨g, q, none⟩ = _
  simp only [World.cell?, e]
theorem at_next (ai tn : Nat) (h : tn ≤ 1000001000) (h2 : ai < tn) : wrap64 ((ai : Int) + 64) = (ai : Int) + 64 := by unfold wrap64; omega
theorem at_64 (i : Nat) : Value.int .i64 (((64 * i : Nat) : Int) + 64) = Value.int .i64 ((64 * (i + 1) : Nat) : Int) := by congr 1
theorem at_less (ai i nb tn : Nat) (h : ai = 64 * i) (hi : i < nb) (ht : tn = 64 * nb) : tn - (intOf (.int .i64 ((ai : Int) + 64))).toNat < tn - (intOf (.int .i64 (ai : Int))).toNat := by
  show tn - ((ai : Int) + 64).toNat < tn - (ai : Int).toNat
  omega
theorem mixl_eight (s t : H8) : mixl s.list t.list 8 = (s.add t).list := rfl
theorem inc8 {t : Nat} (h : t < 8) : wrap64 ((t : Int) + 1) = (t : Int) + 1 := by unfold wrap64; omega
theorem outs (S : H8) (hS : okH S) (j : Nat) (hj : j < 8) (x : Nat) (hx : S.list.getD j 0 = x) :
    x < 4294967296 ∧ (x : Int) / 16777216 % 256 = ((S.bytes.getD (4 * j) 0 : Nat) : Int) ∧ (x : Int) / 65536 % 256 = ((S.bytes.getD (4 * j + 1) 0 : Nat) : Int) ∧ (x : Int) / 256 % 256 = ((S.bytes.getD (4 * j + 2) 0 : Nat) : Int) ∧ (x : Int) % 256 = ((S.bytes.getD (4 * j + 3) 0 : Nat) : Int) ∧ S.bytes.getD (4 * j + 1) 0 < 256 ∧ S.bytes.getD (4 * j + 2) 0 < 256 ∧ S.bytes.getD (4 * j + 3) 0 < 256 := by
  have h0 := bytes_get S (4 * j) (by omega)
  have h1 := bytes_get S (4 * j + 1) (by omega)
  have h2 := bytes_get S (4 * j + 2) (by omega)
  have h3 := bytes_get S (4 * j + 3) (by omega)
  rw [show 4 * j / 4 = j by omega, show 24 - 8 * (4 * j % 4) = 24 by omega, hx] at h0
  rw [show (4 * j + 1) / 4 = j by omega, show 24 - 8 * ((4 * j + 1) % 4) = 16 by omega, hx] at h1
  rw [show (4 * j + 2) / 4 = j by omega, show 24 - 8 * ((4 * j + 2) % 4) = 8 by omega, hx] at h2
  rw [show (4 * j + 3) / 4 = j by omega, show 24 - 8 * ((4 * j + 3) % 4) = 0 by omega, hx] at h3
  have hl := list_lt S hS j
  rw [hx] at hl
  rw [h0, h1, h2, h3]
  refine ⟨hl, ?_, ?_, ?_, ?_, ?_, ?_, ?_⟩ <;> omega
theorem take_set4 (S : H8) (i : Nat) (h : i < 32) (y : Nat) (hy : S.bytes.getD i 0 = y) : (cN (S.bytes.take i ++ List.replicate (32 - i) 0)).set i (y : Int) = cN (S.bytes.take (i + 1) ++ List.replicate (32 - (i + 1)) 0) := by
  subst hy
  rw [cN_set, take_set S.bytes 32 i h (bytes_length S)]
theorem y_mod {y : Nat} (h : y < 256) : (y : Int) % 256 = (y : Int) := by omega
theorem tidx0 (j i0 : Nat) (h : i0 = 4 * j) (hi : i0 + 4 ≤ 32) : 4 * (j : Int) = (i0 : Int) ∧ wrap64 (4 * (j : Int)) = (i0 : Int) ∧ (i0 : Int) < 32 ∧ (0 : Int) ≤ (i0 : Int) := by
  unfold wrap64
  subst h
  exact ⟨by omega, by omega, by omega, by omega⟩
theorem tidx1 (j i0 : Nat) (h : i0 = 4 * j) (hi : i0 + 4 ≤ 32) : 4 * (j : Int) = (i0 : Int) ∧ wrap64 ((i0 : Int) + 1) = ((i0 + 1 : Nat) : Int) ∧ (((i0 + 1 : Nat) : Int) < 32) ∧ (0 : Int) ≤ ((i0 + 1 : Nat) : Int) ∧ wrap64 (4 * (j : Int)) = (i0 : Int) := by
  unfold wrap64
  subst h
  exact ⟨by omega, by omega, by omega, by omega, by omega⟩
theorem tidx2 (j i0 : Nat) (h : i0 = 4 * j) (hi : i0 + 4 ≤ 32) : 4 * (j : Int) = (i0 : Int) ∧ wrap64 ((i0 : Int) + 2) = ((i0 + 2 : Nat) : Int) ∧ (((i0 + 2 : Nat) : Int) < 32) ∧ (0 : Int) ≤ ((i0 + 2 : Nat) : Int) ∧ wrap64 (4 * (j : Int)) = (i0 : Int) := by
  unfold wrap64
  subst h
  exact ⟨by omega, by omega, by omega, by omega, by omega⟩
theorem tidx3 (j i0 : Nat) (h : i0 = 4 * j) (hi : i0 + 4 ≤ 32) : 4 * (j : Int) = (i0 : Int) ∧ wrap64 ((i0 : Int) + 3) = ((i0 + 3 : Nat) : Int) ∧ (((i0 + 3 : Nat) : Int) < 32) ∧ (0 : Int) ≤ ((i0 + 3 : Nat) : Int) ∧ wrap64 (4 * (j : Int)) = (i0 : Int) := by
  unfold wrap64
  subst h
  exact ⟨by omega, by omega, by omega, by omega, by omega⟩
theorem arr_reads {k : IntKind} {T : TypeId} {w : World} {g : Nat} {xs : List Int} (h : Arr k T w g xs) (hl : xs.length ≤ maxLen) : ReadsInt w k (some ⟨g, 0, none⟩) xs.length xs :=
  ⟨rfl, hl, fun _ => ⟨_, rfl, fun j hj => by
    have h1 := h.cell j hj
    rw [show (⟨g, 0, none⟩ : Addr).add j = ⟨g, j, none⟩ by rw [Addr.add_mid, Nat.zero_add], h1]
    unfold rd
    rw [Int.toNat_natCast]⟩⟩
theorem iv_ok : okH IV := by unfold okH IV; decide
theorem blocks_ok (s : H8) (T : List Nat) (h : okH s) : ∀ i, okH (blocks s T i)
  | 0 => h
  | i + 1 => comp_ok _ _ (blocks_ok s T h i)
theorem lens_drop (N i : Nat) (h : i < 8) : [lenb N (7 - i)] ++ (lens N 8).drop (8 - i) = (lens N 8).drop (8 - (i + 1)) := by
  have hl : 7 - i < (lens N 8).length := by rw [lens_length]; omega
  rw [show 8 - (i + 1) = 7 - i by omega, List.drop_eq_getElem_cons hl, show 7 - i + 1 = 8 - i by omega]
  simp [lens]
/-- the words' round -/
noncomputable def round6 : Code := cO (cB (cR (cL (cP 1 code5))))
set_option maxHeartbeats 80000000 in
set_option maxRecDepth 100000 in
theorem word_lo (Q : Exit → Act → World → Prop) (df : _) (wb wr : World) (A9 A6 : Option Addr) (k9 k6 tn ai m6 t i nb : Nat) (T B : List Nat) (sl0 sl1 sl2 sl4 sl5 sl6 sl7 sl8 sl12 sl13 sl14 sl15 sl16 sl17 sl18 sl19 sl20 sl21 sl22 sl23 sl24 sl25 sl26 sl27 sl28 sl29 sl30 sl31 sl32 sl33 sl34 sl35 sl36 sl37 sl38 sl39 sl40 sl41 sl42 sl43 sl44 sl45 sl46 sl47 sl48 sl49 sl50 sl51 sl52 sl53 sl54 sl55 sl56 sl57 sl58 sl59 sl60 sl61 sl62 sl63 sl64 sl65 sl66 sl67 sl68 sl69 sl70 sl71 sl72 sl73 sl74 sl75 sl76 sl77 sl78 sl79 sl80 sl81 sl82 sl83 sl84 sl85 sl86 sl87 sl88 sl89 sl90 sl91 sl92 sl93 sl94 sl95 sl96 sl97 sl98 sl99 sl100 sl101 sl102 sl103 sl104 sl105 sl106 sl107 sl108 sl109 sl110 sl111 sl112 sl113 sl114 sl115 sl116 sl117 sl118 sl119 sl120 sl121 sl122 sl123 sl124 sl125 sl126 sl127 sl128 sl129 sl130 sl131 sl132 sl133 sl134 sl135 sl136 sl137 sl138 sl139 sl140 sl141 sl142 sl143 sl144 sl145 sl146 sl147 sl148 sl149 sl150 sl151 sl152 sl153 sl154 sl155 sl156 sl157 sl158 sl159 sl160 sl161 sl162 sl163 sl164 sl165 sl166 sl167 sl168 sl169 sl170 sl171 sl172 sl173 sl174 sl175 sl176 sl177 sl178 sl179 sl180 sl181 sl182 sl183 sl184 sl185 sl186 sl187 sl188 sl189 sl190 sl191 sl192 sl193 sl194 sl195 sl196 sl197 sl198 sl199 sl200 sl201 sl202 sl203 sl204 sl205 sl206 sl207 sl208 sl209 sl210 sl211 sl212 sl213 sl214 sl215 sl216 sl217 sl218 sl219 sl220 sl221 sl222 sl223 sl224 sl225 sl226 sl227 sl228 sl229 sl230 sl231 sl232 sl233 sl234 sl235 sl236 sl237 sl238 sl239 sl240 sl241 sl242 sl243 sl244 sl245 sl246 sl247 sl248 sl249 sl250 sl251 sl252 sl253 sl254 sl255 sl256 sl257 sl258 sl259 sl260 sl261 sl262 sl263 sl264 sl265 sl266 sl267 sl268 sl269 sl270 sl271 sl272 sl273 sl274 sl275 sl276 sl277 sl278 sl279 sl280 sl281 sl282 sl283 sl284 sl285 sl286 sl287 sl288 sl289 sl290 sl291 sl292 sl293 sl294 sl295 sl296 sl297 sl298 sl299 sl300 sl301 sl302 sl303 sl304 sl305 sl306 sl307 sl308 sl309 sl310 sl311 sl312 sl313 sl314 sl315 sl316 sl317 sl318 sl319 sl320 sl321 sl322 sl323 sl324 sl325 sl326 sl327 sl328 sl329 sl330 sl331 sl332 : Value)
    (HTN : Aside0 (tn = T.length ∧ T.length = 64 * nb ∧ tn = (cN T).length ∧ tn ≤ 1000001000)) (HAI : Aside0 (ai = 64 * i)) (HI : Aside0 (i < nb)) (HT8 : Aside0 (Bs T))
    (HTb : Aside0 (Kd.C (Kd.int .u8) wb A9 (cN T).length (cN T))) (HB : Aside0 (B = (T.drop (64 * i)).take 64)) (HBl : Aside0 (∀ j, j < 64 → B.getD j 0 = T.getD (ai + j) 0))
    (HO6 : Aside0 (wr.ownsRow wb.heap.size 79 1 (.slice A6 m6 k6) (cN (wds B t)).length (nums .u32 (cN (wds B t)))))
    (hl6 : ((cN (wds B t)).length + 1) * 4 ≤ 140737488355328) (HM6 : Aside0 (m6 = (cN (wds B t)).length ∧ m6 = t)) (HQ : Aside0 (Below wb.heap.size wb wr)) (ht : t ≤ 64)
    (hlt : t < 16)
    (hP : Aside0 (∀ (k : _) (a : Act) (d : Option Tmp) (v : Value) (w : World), Q (.panic k) (a.put d v) w → Q (.panic k) a w))
    (hQ : Aside0 (∀ (nw12 nw66 nw67 nw68 nw69 nw70 nw71 nw72 nw73 nw74 nw75 nw76 nw77 nw78 nw79 nw80 nw81 nw82 nw83 nw84 nw85 nw86 nw87 nw88 nw89 nw90 nw91 nw92 nw93 nw94 nw95 nw96 nw97 nw98 nw99 nw100 nw101 nw102 nw103 nw104 nw105 nw106 nw107 : Value) (v8 : Value) (w8 : World), w8.ownsRow wb.heap.size 79 1 v8 (cN (wds B (t + 1))).length (nums .u32 (cN (wds B (t + 1)))) → Below wb.heap.size wb w8 → Q .normal ⟨#[sl0, sl1, sl2, .slice A9 tn k9, sl4, sl5, sl6, sl7, sl8, .int .i64 (ai : Int), v8, .int .i64 ((t : Int) + 1), nw12, sl13, sl14, sl15, sl16, sl17, sl18, sl19, sl20, sl21, sl22, sl23, sl24, sl25, sl26, sl27, sl28, sl29, sl30, sl31, sl32, sl33, sl34, sl35, sl36, sl37, sl38, sl39, sl40, sl41, sl42, sl43, sl44, sl45, sl46, sl47, sl48, sl49, sl50, sl51, sl52, sl53, sl54, sl55, sl56, sl57, sl58, sl59, sl60, sl61, sl62, sl63, sl64, sl65, nw66, nw67, nw68, nw69, nw70, nw71, nw72, nw73, nw74, nw75, nw76, nw77, nw78, nw79, nw80, nw81, nw82, nw83, nw84, nw85, nw86, nw87, nw88, nw89, nw90, nw91, nw92, nw93, nw94, nw95, nw96, nw97, nw98, nw99, nw100, nw101, nw102, nw103, nw104, nw105, nw106, nw107, sl108, sl109, sl110, sl111, sl112, sl113, sl114, sl115, sl116, sl117, sl118, sl119, sl120, sl121, sl122, sl123, sl124, sl125, sl126, sl127, sl128, sl129, sl130, sl131, sl132, sl133, sl134, sl135, sl136, sl137, sl138, sl139, sl140, sl141, sl142, sl143, sl144, sl145, sl146, sl147, sl148, sl149, sl150, sl151, sl152, sl153, sl154, sl155, sl156, sl157, sl158, sl159, sl160, sl161, sl162, sl163, sl164, sl165, sl166, sl167, sl168, sl169, sl170, sl171, sl172, sl173, sl174, sl175, sl176, sl177, sl178, sl179, sl180, sl181, sl182, sl183, sl184, sl185, sl186, sl187, sl188, sl189, sl190, sl191, sl192, sl193, sl194, sl195, sl196, sl197, sl198, sl199, sl200, sl201, sl202, sl203, sl204, sl205, sl206, sl207, sl208, sl209, sl210, sl211, sl212, sl213, sl214, sl215, sl216, sl217, sl218, sl219, sl220, sl221, sl222, sl223, sl224, sl225, sl226, sl227, sl228, sl229, sl230, sl231, sl232, sl233, sl234, sl235, sl236, sl237, sl238, sl239, sl240, sl241, sl242, sl243, sl244, sl245, sl246, sl247, sl248, sl249, sl250, sl251, sl252, sl253, sl254, sl255, sl256, sl257, sl258, sl259, sl260, sl261, sl262, sl263, sl264, sl265, sl266, sl267, sl268, sl269, sl270, sl271, sl272, sl273, sl274, sl275, sl276, sl277, sl278, sl279, sl280, sl281, sl282, sl283, sl284, sl285, sl286, sl287, sl288, sl289, sl290, sl291, sl292, sl293, sl294, sl295, sl296, sl297, sl298, sl299, sl300, sl301, sl302, sl303, sl304, sl305, sl306, sl307, sl308, sl309, sl310, sl311, sl312, sl313, sl314, sl315, sl316, sl317, sl318, sl319, sl320, sl321, sl322, sl323, sl324, sl325, sl326, sl327, sl328, sl329, sl330, sl331, sl332], df⟩ w8)) :
    Code.wp Try.prog round6 Q ⟨#[sl0, sl1, sl2, .slice A9 tn k9, sl4, sl5, sl6, sl7, sl8, .int .i64 (ai : Int), .slice A6 m6 k6, .int .i64 (t : Int), sl12, sl13, sl14, sl15, sl16, sl17, sl18, sl19, sl20, sl21, sl22, sl23, sl24, sl25, sl26, sl27, sl28, sl29, sl30, sl31, sl32, sl33, sl34, sl35, sl36, sl37, sl38, sl39, sl40, sl41, sl42, sl43, sl44, sl45, sl46, sl47, sl48, sl49, sl50, sl51, sl52, sl53, sl54, sl55, sl56, sl57, sl58, sl59, sl60, sl61, sl62, sl63, sl64, sl65, sl66, sl67, sl68, sl69, sl70, sl71, sl72, sl73, sl74, sl75, sl76, sl77, sl78, sl79, sl80, sl81, sl82, sl83, sl84, sl85, sl86, sl87, sl88, sl89, sl90, sl91, sl92, sl93, sl94, sl95, sl96, sl97, sl98, sl99, sl100, sl101, sl102, sl103, sl104, sl105, sl106, sl107, sl108, sl109, sl110, sl111, sl112, sl113, sl114, sl115, sl116, sl117, sl118, sl119, sl120, sl121, sl122, sl123, sl124, sl125, sl126, sl127, sl128, sl129, sl130, sl131, sl132, sl133, sl134, sl135, sl136, sl137, sl138, sl139, sl140, sl141, sl142, sl143, sl144, sl145, sl146, sl147, sl148, sl149, sl150, sl151, sl152, sl153, sl154, sl155, sl156, sl157, sl158, sl159, sl160, sl161, sl162, sl163, sl164, sl165, sl166, sl167, sl168, sl169, sl170, sl171, sl172, sl173, sl174, sl175, sl176, sl177, sl178, sl179, sl180, sl181, sl182, sl183, sl184, sl185, sl186, sl187, sl188, sl189, sl190, sl191, sl192, sl193, sl194, sl195, sl196, sl197, sl198, sl199, sl200, sl201, sl202, sl203, sl204, sl205, sl206, sl207, sl208, sl209, sl210, sl211, sl212, sl213, sl214, sl215, sl216, sl217, sl218, sl219, sl220, sl221, sl222, sl223, sl224, sl225, sl226, sl227, sl228, sl229, sl230, sl231, sl232, sl233, sl234, sl235, sl236, sl237, sl238, sl239, sl240, sl241, sl242, sl243, sl244, sl245, sl246, sl247, sl248, sl249, sl250, sl251, sl252, sl253, sl254, sl255, sl256, sl257, sl258, sl259, sl260, sl261, sl262, sl263, sl264, sl265, sl266, sl267, sl268, sl269, sl270, sl271, sl272, sl273, sl274, sl275, sl276, sl277, sl278, sl279, sl280, sl281, sl282, sl283, sl284, sl285, sl286, sl287, sl288, sl289, sl290, sl291, sl292, sl293, sl294, sl295, sl296, sl297, sl298, sl299, sl300, sl301, sl302, sl303, sl304, sl305, sl306, sl307, sl308, sl309, sl310, sl311, sl312, sl313, sl314, sl315, sl316, sl317, sl318, sl319, sl320, sl321, sl322, sl323, sl324, sl325, sl326, sl327, sl328, sl329, sl330, sl331, sl332], df⟩ wr := by
  dsimp only [round6, code5, round4, cL, cR, cB, cO, cP, body11, Try.f51, Option.getD]
  obtain ⟨t4, e4⟩ : ∃ j, j = 4 * t := ⟨_, rfl⟩
  obtain ⟨i0, e0⟩ : ∃ j, j = ai + t4 := ⟨_, rfl⟩
  obtain ⟨i1, e1⟩ : ∃ j, j = i0 + 1 := ⟨_, rfl⟩
  obtain ⟨i2, e2⟩ : ∃ j, j = i0 + 2 := ⟨_, rfl⟩
  obtain ⟨i3, e3⟩ : ∃ j, j = i0 + 3 := ⟨_, rfl⟩
  have HE := Aside0.mk (And.intro e4 (And.intro e0 (And.intro e1 (And.intro e2 (And.intro e3 hlt)))))
  have hbd : i3 < tn := by have := HTN.out; have := HAI.out; have := HI.out; omega
  have hbT : i3 < T.length := by have := HTN.out; omega
  have htn : tn ≤ 1000001000 := HTN.out.2.2.2
  have HBw := Aside0.mk (Kd.C_below HTb.out HQ.out)
  obtain ⟨ad, eA, hc0⟩ := kC_cell HBw.out i0 (by omega)
  obtain ⟨ad1, eA1, hc1⟩ := kC_cell HBw.out i1 (by omega)
  obtain ⟨ad2, eA2, hc2⟩ := kC_cell HBw.out i2 (by omega)
  obtain ⟨ad3, eA3, hc3⟩ := kC_cell HBw.out i3 (by omega)
  cases eA
  cases eA1
  cases eA2
  cases eA3
  have hx0 := HT8.out i0
  have hx1 := HT8.out i1
  have hx2 := HT8.out i2
  have hx3 := HT8.out i3
  have hW : word B t = T.getD i0 0 * 16777216 + T.getD i1 0 * 65536 + T.getD i2 0 * 256 + T.getD i3 0 := by
    unfold word
    rw [HBl.out _ (by omega), HBl.out _ (by omega), HBl.out _ (by omega), HBl.out _ (by omega), show ai + 4 * t = i0 by omega, show ai + (4 * t + 1) = i1 by omega, show ai + (4 * t + 2) = i2 by omega, show ai + (4 * t + 3) = i3 by omega]
  obtain ⟨x0, hX0⟩ : ∃ x, T.getD i0 0 = x := ⟨_, rfl⟩
  rw [hX0] at hc0 hx0 hW
  clear hX0
  obtain ⟨x1, hX1⟩ : ∃ x, T.getD i1 0 = x := ⟨_, rfl⟩
  rw [hX1] at hc1 hx1 hW
  clear hX1
  obtain ⟨x2, hX2⟩ : ∃ x, T.getD i2 0 = x := ⟨_, rfl⟩
  rw [hX2] at hc2 hx2 hW
  clear hX2
  obtain ⟨x3, hX3⟩ : ∃ x, T.getD i3 0 = x := ⟨_, rfl⟩
  rw [hX3] at hc3 hx3 hW
  clear hX3
  obtain ⟨y0, f0⟩ : ∃ j, j = x0 * 16777216 := ⟨_, rfl⟩
  obtain ⟨y1, f1⟩ : ∃ j, j = x1 * 65536 := ⟨_, rfl⟩
  obtain ⟨y2, f2⟩ : ∃ j, j = x2 * 256 := ⟨_, rfl⟩
  obtain ⟨z1, g1⟩ : ∃ j, j = y0 + y1 := ⟨_, rfl⟩
  obtain ⟨z2, g2⟩ : ∃ j, j = z1 + y2 := ⟨_, rfl⟩
  obtain ⟨W, hWW⟩ : ∃ j, j = word B t := ⟨_, rfl⟩
  have HWW := Aside0.mk hWW
  obtain ⟨v4, v5, v0, v1, v2, v3, t0, t1, t2, t3⟩ := widx ai t t4 i0 i1 i2 i3 tn e4 e0 e1 e2 e3 hbd htn
  have t5 : (t : Int) < 16 := by clear f0 f1 f2 g1 g2; omega
  have t6 : (t : Int) < 64 := by clear f0 f1 f2 g1 g2; omega
  obtain ⟨c0, c1, c2, c3, d0, d1, d2, d3, d4, d5⟩ := wvals x0 x1 x2 x3 y0 y1 y2 z1 z2 W hx0 hx1 hx2 hx3 f0 f1 f2 g1 g2 (hWW.trans hW)
  clear hbd hbT htn e4 e0 e1 e2 e3 hx0 hx1 hx2 hx3 hW f0 f1 f2 g1 g2 hWW hlt ht
  go_wp2
  refine start_ (n := 33) (S := fun w' => w'.cell? (ad.add i0) = some (.int .u8 (x0 : Nat)) ∧ w'.cell? (ad.add i1) = some (.int .u8 (x1 : Nat)) ∧ w'.cell? (ad.add i2) = some (.int .u8 (x2 : Nat)) ∧ w'.cell? (ad.add i3) = some (.int .u8 (x3 : Nat))) (ds := [30, 31]) #[false, false, false, false, false, false, false, false, false, false, false, false, false, false, false, false, false, false, false, false, false, false, false, false, false, false, false, false, false, false, false, false, false] (by kernel_rfl) rfl rfl ⟨hc0, hc1, hc2, hc3⟩ (fun hHeld => ?_)
  refine pure_ (i := 0) (N := some 76) (v := ?_) (a' := ?_) #[true, false, false, false, false, false, false, false, false, false, false, false, false, false, false, false, false, false, false, false, false, false, false, false, false, false, false, false, false, false, false, false, false] rfl rfl (by kernel_rfl) (fun c_ a_ w_ h => hP.out c_ a_ _ _ w_ h) (Or.inl ⟨by rfl, ?_⟩) ?_ ?_
  rotate_left
  · intro w'
    go_simp
    with_reducible rfl
  rotate_left
  · simp only [Act.put, List.setIfInBounds_toArray, List.set_cons_zero, List.set_cons_succ, i64_w, i32_w]
    rfl
  refine pure_ (i := 1) (N := some 77) (v := ?_) (a' := ?_) #[true, true, false, false, false, false, false, false, false, false, false, false, false, false, false, false, false, false, false, false, false, false, false, false, false, false, false, false, false, false, false, false, false] rfl rfl (by kernel_rfl) (fun c_ a_ w_ h => hP.out c_ a_ _ _ w_ h) (Or.inl ⟨by rfl, ?_⟩) ?_ ?_
  rotate_left
  · intro w'
    go_simp
    with_reducible rfl
  rotate_left
  · simp only [Act.put, List.setIfInBounds_toArray, List.set_cons_zero, List.set_cons_succ, i64_w, i32_w]
    rfl
  refine pure_ (i := 2) (N := some 78) (v := ?_) (a' := ?_) #[true, true, true, false, false, false, false, false, false, false, false, false, false, false, false, false, false, false, false, false, false, false, false, false, false, false, false, false, false, false, false, false, false] rfl rfl (by kernel_rfl) (fun c_ a_ w_ h => hP.out c_ a_ _ _ w_ h) (Or.inl ⟨by rfl, ?_⟩) ?_ ?_
  rotate_left
  · intro w'
    go_simp
    with_reducible rfl
  rotate_left
  · simp only [Act.put, List.setIfInBounds_toArray, List.set_cons_zero, List.set_cons_succ, i64_w, i32_w]
    rfl
  refine pure_ (i := 3) (N := some 79) (v := ?_) (a' := ?_) #[true, true, true, true, false, false, false, false, false, false, false, false, false, false, false, false, false, false, false, false, false, false, false, false, false, false, false, false, false, false, false, false, false] rfl rfl (by kernel_rfl) (fun c_ a_ w_ h => hP.out c_ a_ _ _ w_ h) (Or.inl ⟨by rfl, ?_⟩) ?_ ?_
  rotate_left
  · intro w'
    go_simp
    with_reducible rfl
  rotate_left
  · simp only [Act.put, List.setIfInBounds_toArray, List.set_cons_zero, List.set_cons_succ, i64_w, i32_w]
    rfl
  refine pure_ (i := 7) (N := some 83) (v := ?_) (a' := ?_) #[true, true, true, true, false, false, false, true, false, false, false, false, false, false, false, false, false, false, false, false, false, false, false, false, false, false, false, false, false, false, false, false, false] rfl rfl (by kernel_rfl) (fun c_ a_ w_ h => hP.out c_ a_ _ _ w_ h) (Or.inl ⟨by rfl, ?_⟩) ?_ ?_
  rotate_left
  · intro w'
    go_simp
    with_reducible rfl
  rotate_left
  · simp only [Act.put, List.setIfInBounds_toArray, List.set_cons_zero, List.set_cons_succ, i64_w, i32_w]
    rfl
  refine pure_ (i := 8) (N := some 84) (v := ?_) (a' := ?_) #[true, true, true, true, false, false, false, true, true, false, false, false, false, false, false, false, false, false, false, false, false, false, false, false, false, false, false, false, false, false, false, false, false] rfl rfl (by kernel_rfl) (fun c_ a_ w_ h => hP.out c_ a_ _ _ w_ h) (Or.inl ⟨by rfl, ?_⟩) ?_ ?_
  rotate_left
  · intro w'
    go_simp
    with_reducible rfl
  rotate_left
  · simp only [Act.put, List.setIfInBounds_toArray, List.set_cons_zero, List.set_cons_succ, i64_w, i32_w]
    rfl
  refine pure_ (i := 9) (N := some 85) (v := ?_) (a' := ?_) #[true, true, true, true, false, false, false, true, true, true, false, false, false, false, false, false, false, false, false, false, false, false, false, false, false, false, false, false, false, false, false, false, false] rfl rfl (by kernel_rfl) (fun c_ a_ w_ h => hP.out c_ a_ _ _ w_ h) (Or.inl ⟨by rfl, ?_⟩) ?_ ?_
  rotate_left
  · intro w'
    go_simp
    with_reducible rfl
  rotate_left
  · simp only [Act.put, List.setIfInBounds_toArray, List.set_cons_zero, List.set_cons_succ, i64_w, i32_w]
    rfl
  refine pure_ (i := 10) (N := some 86) (v := ?_) (a' := ?_) #[true, true, true, true, false, false, false, true, true, true, true, false, false, false, false, false, false, false, false, false, false, false, false, false, false, false, false, false, false, false, false, false, false] rfl rfl (by kernel_rfl) (fun c_ a_ w_ h => hP.out c_ a_ _ _ w_ h) (Or.inl ⟨by rfl, ?_⟩) ?_ ?_
  rotate_left
  · intro w'
    go_simp
    with_reducible rfl
  rotate_left
  · simp only [Act.put, List.setIfInBounds_toArray, List.set_cons_zero, List.set_cons_succ, i64_w, i32_w]
    rfl
  refine pure_ (i := 15) (N := some 91) (v := ?_) (a' := ?_) #[true, true, true, true, false, false, false, true, true, true, true, false, false, false, false, true, false, false, false, false, false, false, false, false, false, false, false, false, false, false, false, false, false] rfl rfl (by kernel_rfl) (fun c_ a_ w_ h => hP.out c_ a_ _ _ w_ h) (Or.inl ⟨by rfl, ?_⟩) ?_ ?_
  rotate_left
  · intro w'
    go_simp
    with_reducible rfl
  rotate_left
  · simp only [Act.put, List.setIfInBounds_toArray, List.set_cons_zero, List.set_cons_succ, i64_w, i32_w]
    rfl
  refine pure_ (i := 16) (N := some 92) (v := ?_) (a' := ?_) #[true, true, true, true, false, false, false, true, true, true, true, false, false, false, false, true, true, false, false, false, false, false, false, false, false, false, false, false, false, false, false, false, false] rfl rfl (by kernel_rfl) (fun c_ a_ w_ h => hP.out c_ a_ _ _ w_ h) (Or.inl ⟨by rfl, ?_⟩) ?_ ?_
  rotate_left
  · intro w'
    go_simp
    with_reducible rfl
  rotate_left
  · simp only [Act.put, List.setIfInBounds_toArray, List.set_cons_zero, List.set_cons_succ, i64_w, i32_w]
    rfl
  refine pure_ (i := 17) (N := some 93) (v := ?_) (a' := ?_) #[true, true, true, true, false, false, false, true, true, true, true, false, false, false, false, true, true, true, false, false, false, false, false, false, false, false, false, false, false, false, false, false, false] rfl rfl (by kernel_rfl) (fun c_ a_ w_ h => hP.out c_ a_ _ _ w_ h) (Or.inl ⟨by rfl, ?_⟩) ?_ ?_
  rotate_left
  · intro w'
    go_simp
    with_reducible rfl
  rotate_left
  · simp only [Act.put, List.setIfInBounds_toArray, List.set_cons_zero, List.set_cons_succ, i64_w, i32_w]
    rfl
  refine pure_ (i := 18) (N := some 94) (v := ?_) (a' := ?_) #[true, true, true, true, false, false, false, true, true, true, true, false, false, false, false, true, true, true, true, false, false, false, false, false, false, false, false, false, false, false, false, false, false] rfl rfl (by kernel_rfl) (fun c_ a_ w_ h => hP.out c_ a_ _ _ w_ h) (Or.inl ⟨by rfl, ?_⟩) ?_ ?_
  rotate_left
  · intro w'
    go_simp
    with_reducible rfl
  rotate_left
  · simp only [Act.put, List.setIfInBounds_toArray, List.set_cons_zero, List.set_cons_succ, i64_w, i32_w]
    rfl
  refine pure_ (i := 23) (N := some 99) (v := ?_) (a' := ?_) #[true, true, true, true, false, false, false, true, true, true, true, false, false, false, false, true, true, true, true, false, false, false, false, true, false, false, false, false, false, false, false, false, false] rfl rfl (by kernel_rfl) (fun c_ a_ w_ h => hP.out c_ a_ _ _ w_ h) (Or.inl ⟨by rfl, ?_⟩) ?_ ?_
  rotate_left
  · intro w'
    go_simp
    with_reducible rfl
  rotate_left
  · simp only [Act.put, List.setIfInBounds_toArray, List.set_cons_zero, List.set_cons_succ, i64_w, i32_w]
    rfl
  refine pure_ (i := 24) (N := some 100) (v := ?_) (a' := ?_) #[true, true, true, true, false, false, false, true, true, true, true, false, false, false, false, true, true, true, true, false, false, false, false, true, true, false, false, false, false, false, false, false, false] rfl rfl (by kernel_rfl) (fun c_ a_ w_ h => hP.out c_ a_ _ _ w_ h) (Or.inl ⟨by rfl, ?_⟩) ?_ ?_
  rotate_left
  · intro w'
    go_simp
    with_reducible rfl
  rotate_left
  · simp only [Act.put, List.setIfInBounds_toArray, List.set_cons_zero, List.set_cons_succ, i64_w, i32_w]
    rfl
  refine pure_ (i := 25) (N := some 101) (v := ?_) (a' := ?_) #[true, true, true, true, false, false, false, true, true, true, true, false, false, false, false, true, true, true, true, false, false, false, false, true, true, true, false, false, false, false, false, false, false] rfl rfl (by kernel_rfl) (fun c_ a_ w_ h => hP.out c_ a_ _ _ w_ h) (Or.inl ⟨by rfl, ?_⟩) ?_ ?_
  rotate_left
  · intro w'
    go_simp
    with_reducible rfl
  rotate_left
  · simp only [Act.put, List.setIfInBounds_toArray, List.set_cons_zero, List.set_cons_succ, i64_w, i32_w]
    rfl
  refine pure_ (i := 26) (N := some 102) (v := ?_) (a' := ?_) #[true, true, true, true, false, false, false, true, true, true, true, false, false, false, false, true, true, true, true, false, false, false, false, true, true, true, true, false, false, false, false, false, false] rfl rfl (by kernel_rfl) (fun c_ a_ w_ h => hP.out c_ a_ _ _ w_ h) (Or.inl ⟨by rfl, ?_⟩) ?_ ?_
  rotate_left
  · intro w'
    go_simp
    with_reducible rfl
  rotate_left
  · simp only [Act.put, List.setIfInBounds_toArray, List.set_cons_zero, List.set_cons_succ, i64_w, i32_w]
    rfl
  refine take_ (i := 4) (N := some 80) (v := ?_) (a' := ?_) #[true, true, true, true, true, false, false, true, true, true, true, false, false, false, false, true, true, true, true, false, false, false, false, true, true, true, true, false, false, false, false, false, false] rfl rfl (by kernel_rfl) (fun c_ a_ w_ h => hP.out c_ a_ _ _ w_ h) (Or.inl ⟨by rfl, ?_⟩) hHeld ?_ ?_
  rotate_left
  · rintro w' ⟨s0, s1, s2, s3⟩
    go_simp
    with_reducible rfl
  rotate_left
  · simp only [Act.put, List.setIfInBounds_toArray, List.set_cons_zero, List.set_cons_succ, i64_w, i32_w]
    rfl
  refine pure_ (i := 5) (N := some 81) (v := ?_) (a' := ?_) #[true, true, true, true, true, true, false, true, true, true, true, false, false, false, false, true, true, true, true, false, false, false, false, true, true, true, true, false, false, false, false, false, false] rfl rfl (by kernel_rfl) (fun c_ a_ w_ h => hP.out c_ a_ _ _ w_ h) (Or.inl ⟨by rfl, ?_⟩) ?_ ?_
  rotate_left
  · intro w'
    go_simp
    with_reducible rfl
  rotate_left
  · simp only [Act.put, List.setIfInBounds_toArray, List.set_cons_zero, List.set_cons_succ, i64_w, i32_w]
    rfl
  refine pure_ (i := 6) (N := some 82) (v := ?_) (a' := ?_) #[true, true, true, true, true, true, true, true, true, true, true, false, false, false, false, true, true, true, true, false, false, false, false, true, true, true, true, false, false, false, false, false, false] rfl rfl (by kernel_rfl) (fun c_ a_ w_ h => hP.out c_ a_ _ _ w_ h) (Or.inl ⟨by rfl, ?_⟩) ?_ ?_
  rotate_left
  · intro w'
    go_simp
    with_reducible rfl
  rotate_left
  · simp only [Act.put, List.setIfInBounds_toArray, List.set_cons_zero, List.set_cons_succ, i64_w, i32_w]
    rfl
  refine take_ (i := 11) (N := some 87) (v := ?_) (a' := ?_) #[true, true, true, true, true, true, true, true, true, true, true, true, false, false, false, true, true, true, true, false, false, false, false, true, true, true, true, false, false, false, false, false, false] rfl rfl (by kernel_rfl) (fun c_ a_ w_ h => hP.out c_ a_ _ _ w_ h) (Or.inl ⟨by rfl, ?_⟩) hHeld ?_ ?_
  rotate_left
  · rintro w' ⟨s0, s1, s2, s3⟩
    go_simp
    with_reducible rfl
  rotate_left
  · simp only [Act.put, List.setIfInBounds_toArray, List.set_cons_zero, List.set_cons_succ, i64_w, i32_w]
    rfl
  refine pure_ (i := 12) (N := some 88) (v := ?_) (a' := ?_) #[true, true, true, true, true, true, true, true, true, true, true, true, true, false, false, true, true, true, true, false, false, false, false, true, true, true, true, false, false, false, false, false, false] rfl rfl (by kernel_rfl) (fun c_ a_ w_ h => hP.out c_ a_ _ _ w_ h) (Or.inl ⟨by rfl, ?_⟩) ?_ ?_
  rotate_left
  · intro w'
    go_simp
    with_reducible rfl
  rotate_left
  · simp only [Act.put, List.setIfInBounds_toArray, List.set_cons_zero, List.set_cons_succ, i64_w, i32_w]
    rfl
  refine pure_ (i := 13) (N := some 89) (v := ?_) (a' := ?_) #[true, true, true, true, true, true, true, true, true, true, true, true, true, true, false, true, true, true, true, false, false, false, false, true, true, true, true, false, false, false, false, false, false] rfl rfl (by kernel_rfl) (fun c_ a_ w_ h => hP.out c_ a_ _ _ w_ h) (Or.inl ⟨by rfl, ?_⟩) ?_ ?_
  rotate_left
  · intro w'
    go_simp
    with_reducible rfl
  rotate_left
  · simp only [Act.put, List.setIfInBounds_toArray, List.set_cons_zero, List.set_cons_succ, i64_w, i32_w]
    rfl
  refine pure_ (i := 14) (N := some 90) (v := ?_) (a' := ?_) #[true, true, true, true, true, true, true, true, true, true, true, true, true, true, true, true, true, true, true, false, false, false, false, true, true, true, true, false, false, false, false, false, false] rfl rfl (by kernel_rfl) (fun c_ a_ w_ h => hP.out c_ a_ _ _ w_ h) (Or.inl ⟨by rfl, ?_⟩) ?_ ?_
  rotate_left
  · intro w'
    go_simp
    with_reducible rfl
  rotate_left
  · simp only [Act.put, List.setIfInBounds_toArray, List.set_cons_zero, List.set_cons_succ, i64_w, i32_w]
    rfl
  refine take_ (i := 19) (N := some 95) (v := ?_) (a' := ?_) #[true, true, true, true, true, true, true, true, true, true, true, true, true, true, true, true, true, true, true, true, false, false, false, true, true, true, true, false, false, false, false, false, false] rfl rfl (by kernel_rfl) (fun c_ a_ w_ h => hP.out c_ a_ _ _ w_ h) (Or.inl ⟨by rfl, ?_⟩) hHeld ?_ ?_
  rotate_left
  · rintro w' ⟨s0, s1, s2, s3⟩
    go_simp
    with_reducible rfl
  rotate_left
  · simp only [Act.put, List.setIfInBounds_toArray, List.set_cons_zero, List.set_cons_succ, i64_w, i32_w]
    rfl
  refine pure_ (i := 20) (N := some 96) (v := ?_) (a' := ?_) #[true, true, true, true, true, true, true, true, true, true, true, true, true, true, true, true, true, true, true, true, true, false, false, true, true, true, true, false, false, false, false, false, false] rfl rfl (by kernel_rfl) (fun c_ a_ w_ h => hP.out c_ a_ _ _ w_ h) (Or.inl ⟨by rfl, ?_⟩) ?_ ?_
  rotate_left
  · intro w'
    go_simp
    with_reducible rfl
  rotate_left
  · simp only [Act.put, List.setIfInBounds_toArray, List.set_cons_zero, List.set_cons_succ, i64_w, i32_w]
    rfl
  refine pure_ (i := 21) (N := some 97) (v := ?_) (a' := ?_) #[true, true, true, true, true, true, true, true, true, true, true, true, true, true, true, true, true, true, true, true, true, true, false, true, true, true, true, false, false, false, false, false, false] rfl rfl (by kernel_rfl) (fun c_ a_ w_ h => hP.out c_ a_ _ _ w_ h) (Or.inl ⟨by rfl, ?_⟩) ?_ ?_
  rotate_left
  · intro w'
    go_simp
    with_reducible rfl
  rotate_left
  · simp only [Act.put, List.setIfInBounds_toArray, List.set_cons_zero, List.set_cons_succ, i64_w, i32_w]
    rfl
  refine pure_ (i := 22) (N := some 98) (v := ?_) (a' := ?_) #[true, true, true, true, true, true, true, true, true, true, true, true, true, true, true, true, true, true, true, true, true, true, true, true, true, true, true, false, false, false, false, false, false] rfl rfl (by kernel_rfl) (fun c_ a_ w_ h => hP.out c_ a_ _ _ w_ h) (Or.inl ⟨by rfl, ?_⟩) ?_ ?_
  rotate_left
  · intro w'
    go_simp
    with_reducible rfl
  rotate_left
  · simp only [Act.put, List.setIfInBounds_toArray, List.set_cons_zero, List.set_cons_succ, i64_w, i32_w]
    rfl
  refine take_ (i := 27) (N := some 103) (v := ?_) (a' := ?_) #[true, true, true, true, true, true, true, true, true, true, true, true, true, true, true, true, true, true, true, true, true, true, true, true, true, true, true, true, false, false, false, false, false] rfl rfl (by kernel_rfl) (fun c_ a_ w_ h => hP.out c_ a_ _ _ w_ h) (Or.inl ⟨by rfl, ?_⟩) hHeld ?_ ?_
  rotate_left
  · rintro w' ⟨s0, s1, s2, s3⟩
    go_simp
    with_reducible rfl
  rotate_left
  · simp only [Act.put, List.setIfInBounds_toArray, List.set_cons_zero, List.set_cons_succ, i64_w, i32_w]
    rfl
  refine pure_ (i := 28) (N := some 104) (v := ?_) (a' := ?_) #[true, true, true, true, true, true, true, true, true, true, true, true, true, true, true, true, true, true, true, true, true, true, true, true, true, true, true, true, true, false, false, false, false] rfl rfl (by kernel_rfl) (fun c_ a_ w_ h => hP.out c_ a_ _ _ w_ h) (Or.inl ⟨by rfl, ?_⟩) ?_ ?_
  rotate_left
  · intro w'
    go_simp
    with_reducible rfl
  rotate_left
  · simp only [Act.put, List.setIfInBounds_toArray, List.set_cons_zero, List.set_cons_succ, i64_w, i32_w]
    rfl
  refine pure_ (i := 29) (N := some 105) (v := ?_) (a' := ?_) #[true, true, true, true, true, true, true, true, true, true, true, true, true, true, true, true, true, true, true, true, true, true, true, true, true, true, true, true, true, true, false, false, false] rfl rfl (by kernel_rfl) (fun c_ a_ w_ h => hP.out c_ a_ _ _ w_ h) (Or.inl ⟨by rfl, ?_⟩) ?_ ?_
  rotate_left
  · intro w'
    go_simp
    with_reducible rfl
  rotate_left
  · simp only [Act.put, List.setIfInBounds_toArray, List.set_cons_zero, List.set_cons_succ, i64_w, i32_w]
    rfl
  refine last_ (i := 30) (N := some 106) #[true, true, true, true, true, true, true, true, true, true, true, true, true, true, true, true, true, true, true, true, true, true, true, true, true, true, true, true, true, true, true, false, false] rfl rfl (by kernel_rfl) (by decide) (fun K hK => ?_)
  refine value_ (w1 := ?_) (v := ?_) (by rfl) rfl ?_ ?_
  rotate_left 2
  · go_simp
    constructor
    · rfl
    · rfl
  refine hK.out _ _ ?_
  clear hK K
  refine norm_ (a' := ?_) ?_ ?_
  rotate_left
  · show Act.put _ (some 106) _ = _
    simp only [Act.put, List.setIfInBounds_toArray, List.set_cons_zero, List.set_cons_succ, i64_w, i32_w]
    rfl
  refine last_ (i := 31) (N := some 107) #[true, true, true, true, true, true, true, true, true, true, true, true, true, true, true, true, true, true, true, true, true, true, true, true, true, true, true, true, true, true, true, true, false] rfl rfl (by kernel_rfl) (by decide) (fun K hK => ?_)
  refine Kd.R_append_step (Kd.int .u32) (w0 := wb) (W := wr.drew) wb.heap.size (by rfl) (.tmp 76) (.tmp 106) 97 79 (.int .u32 0) 4 rfl rfl rfl rfl (by decide) (by omega) (.slice A6 m6 k6) (cN (wds B t)) (W : Int) [.int .u32 (W : Int)] (fun _ => True) (fun _ => False) rfl rfl rfl (fun _ h => h.elim) (fun _ _ => trivial) (Kd.R_of_own (own_drew HO6.out) (fun _ _ => trivial)) HQ.out.drew HQ.out.size hl6 ?_
  intro v8 w8 ho hb hg hat
  clear hg hat
  refine hK.out _ _ ?_
  clear hK K
  refine norm_ (a' := ?_) ?_ ?_
  rotate_left
  · show Act.put _ (some 107) _ = _
    simp only [Act.put, List.setIfInBounds_toArray, List.set_cons_zero, List.set_cons_succ, i64_w, i32_w]
    rfl
  refine pure_ (i := 32) (N := some 10) (v := ?_) (a' := ?_) #[true, true, true, true, true, true, true, true, true, true, true, true, true, true, true, true, true, true, true, true, true, true, true, true, true, true, true, true, true, true, true, true, true] rfl rfl (by kernel_rfl) (fun c_ a_ w_ h => hP.out c_ a_ _ _ w_ h) (Or.inl ⟨by rfl, ?_⟩) ?_ ?_
  rotate_left
  · intro w'
    go_simp
    with_reducible rfl
  rotate_left
  · simp only [Act.put, List.setIfInBounds_toArray, List.set_cons_zero, List.set_cons_succ, i64_w, i32_w]
    rfl
  refine done_ (by kernel_rfl) ?_
  have HO8 := Aside0.mk (Kd.own_of_R ho)
  have HQ8 := Aside0.mk hb
  clear ho hb hHeld c0 c1 c2 c3 d0 d1 d2 d3 d4 d5 v4 v5 v0 v1 v2 v3 t0 t1 t2 t3 hc0 hc1 hc2 hc3 hl6
  go_wp2
  have ho8 := HO8.out
  have hlt := HE.out.2.2.2.2.2
  have HLT : Aside0 (t < 64) := Aside0.mk (Nat.lt_trans hlt (by decide))
  rw [wds_lo_c B t W hlt HWW.out] at ho8
  have HO9 : Aside0 (w8.ownsRow wb.heap.size 79 1 v8 (cN (wds B (t + 1))).length (nums .u32 (cN (wds B (t + 1))))) := Aside0.mk (own_num ho8)
  clear ho8
  exact hQ.out _ _ _ _ _ _ _ _ _ _ _ _ _ _ _ _ _ _ _ _ _ _ _ _ _ _ _ _ _ _ _ _ _ _ _ _ _ _ _ _ _ _ _ v8 w8 HO9.out HQ8.out
/-- the add loop's round -/
noncomputable def round10 : Code := cO (cB (cR (cP 4 code5)))
set_option maxHeartbeats 80000000 in
set_option maxRecDepth 100000 in
theorem add_step (Q : Exit → Act → World → Prop) (df : _) (w11 wr : World) (gh g ch c j : Nat) (st R : H8) (sl0 sl1 sl2 sl3 sl4 sl5 sl6 sl8 sl9 sl10 sl11 sl12 sl13 sl14 sl15 sl16 sl18 sl19 sl20 sl21 sl22 sl24 sl25 sl26 sl27 sl28 sl29 sl30 sl31 sl32 sl33 sl34 sl35 sl36 sl37 sl38 sl39 sl40 sl41 sl42 sl43 sl44 sl45 sl46 sl47 sl48 sl49 sl50 sl51 sl52 sl53 sl54 sl55 sl56 sl57 sl58 sl59 sl60 sl61 sl62 sl63 sl64 sl65 sl66 sl67 sl68 sl69 sl70 sl71 sl72 sl73 sl74 sl75 sl76 sl77 sl78 sl79 sl80 sl81 sl82 sl83 sl84 sl85 sl86 sl87 sl88 sl89 sl90 sl91 sl92 sl93 sl94 sl95 sl96 sl97 sl98 sl99 sl100 sl101 sl102 sl103 sl104 sl105 sl106 sl107 sl108 sl109 sl110 sl111 sl112 sl113 sl114 sl115 sl116 sl117 sl118 sl119 sl120 sl121 sl122 sl123 sl124 sl125 sl126 sl127 sl128 sl129 sl130 sl131 sl132 sl133 sl134 sl135 sl136 sl137 sl138 sl139 sl140 sl141 sl142 sl143 sl144 sl145 sl146 sl147 sl148 sl149 sl150 sl151 sl152 sl153 sl154 sl155 sl156 sl157 sl158 sl159 sl160 sl161 sl162 sl163 sl164 sl165 sl166 sl167 sl168 sl169 sl170 sl171 sl172 sl173 sl174 sl175 sl176 sl177 sl178 sl179 sl180 sl181 sl182 sl183 sl184 sl185 sl186 sl187 sl188 sl189 sl190 sl191 sl192 sl193 sl194 sl195 sl196 sl197 sl198 sl199 sl200 sl201 sl202 sl203 sl204 sl205 sl206 sl207 sl208 sl209 sl210 sl211 sl212 sl213 sl214 sl215 sl216 sl217 sl218 sl219 sl220 sl221 sl222 sl223 sl224 sl225 sl226 sl227 sl228 sl229 sl230 sl231 sl232 sl233 sl234 sl235 sl236 sl237 sl238 sl239 sl240 sl241 sl242 sl243 sl244 sl245 sl246 sl247 sl248 sl249 sl250 sl251 sl252 sl253 sl254 sl255 sl256 sl257 sl258 sl259 sl260 sl261 sl262 sl263 sl264 sl265 sl266 sl267 sl268 sl269 sl270 sl271 sl272 sl273 sl274 sl275 sl276 sl277 sl278 sl279 sl280 sl281 sl282 sl283 sl284 sl285 sl286 sl287 sl288 sl289 sl290 sl291 sl292 sl293 sl294 sl295 sl296 sl297 sl298 sl299 sl300 sl301 sl302 sl303 sl304 sl305 sl306 sl307 sl308 sl309 sl310 sl311 sl312 sl313 sl314 sl315 sl316 sl317 sl318 sl319 sl320 sl321 sl322 sl323 sl324 sl325 sl326 sl327 sl328 sl329 sl330 sl331 sl332 : Value)
    (HC : Aside0 (∀ q, q < 8 → wr.cell? ⟨g, q, none⟩ = some (.int .u32 (R.list.getD q 0 : Nat)))) (HAx : Aside0 (Arr .u32 79 wr gh (cN (mixl st.list R.list j)))) (HBx : Aside0 (But w11.heap.size gh w11 wr)) (HGG : Aside0 (g ≠ gh)) (hj : j ≤ 8) (hlt : j < 8)
    (hP : Aside0 (∀ (k : _) (a : Act) (d : Option Tmp) (v : Value) (w : World), Q (.panic k) (a.put d v) w → Q (.panic k) a w))
    (hQ : Aside0 (∀ (nw271 nw272 nw273 nw274 nw275 nw276 nw277 nw278 nw279 nw280 nw281 nw282 nw283 nw284 nw285 nw286 : Value) (u8 : World), (∀ q, q < 8 → u8.cell? ⟨g, q, none⟩ = some (.int .u32 (R.list.getD q 0 : Nat))) → Arr .u32 79 u8 gh (cN (mixl st.list R.list (j + 1))) → But w11.heap.size gh w11 u8 → Q .normal ⟨#[sl0, sl1, sl2, sl3, sl4, sl5, sl6, .slice (some ⟨gh, 0, none⟩) 8 ch, sl8, sl9, sl10, sl11, sl12, sl13, sl14, sl15, sl16, .slice (some ⟨g, 0, none⟩) 8 c, sl18, sl19, sl20, sl21, sl22, .int .i64 ((j : Int) + 1), sl24, sl25, sl26, sl27, sl28, sl29, sl30, sl31, sl32, sl33, sl34, sl35, sl36, sl37, sl38, sl39, sl40, sl41, sl42, sl43, sl44, sl45, sl46, sl47, sl48, sl49, sl50, sl51, sl52, sl53, sl54, sl55, sl56, sl57, sl58, sl59, sl60, sl61, sl62, sl63, sl64, sl65, sl66, sl67, sl68, sl69, sl70, sl71, sl72, sl73, sl74, sl75, sl76, sl77, sl78, sl79, sl80, sl81, sl82, sl83, sl84, sl85, sl86, sl87, sl88, sl89, sl90, sl91, sl92, sl93, sl94, sl95, sl96, sl97, sl98, sl99, sl100, sl101, sl102, sl103, sl104, sl105, sl106, sl107, sl108, sl109, sl110, sl111, sl112, sl113, sl114, sl115, sl116, sl117, sl118, sl119, sl120, sl121, sl122, sl123, sl124, sl125, sl126, sl127, sl128, sl129, sl130, sl131, sl132, sl133, sl134, sl135, sl136, sl137, sl138, sl139, sl140, sl141, sl142, sl143, sl144, sl145, sl146, sl147, sl148, sl149, sl150, sl151, sl152, sl153, sl154, sl155, sl156, sl157, sl158, sl159, sl160, sl161, sl162, sl163, sl164, sl165, sl166, sl167, sl168, sl169, sl170, sl171, sl172, sl173, sl174, sl175, sl176, sl177, sl178, sl179, sl180, sl181, sl182, sl183, sl184, sl185, sl186, sl187, sl188, sl189, sl190, sl191, sl192, sl193, sl194, sl195, sl196, sl197, sl198, sl199, sl200, sl201, sl202, sl203, sl204, sl205, sl206, sl207, sl208, sl209, sl210, sl211, sl212, sl213, sl214, sl215, sl216, sl217, sl218, sl219, sl220, sl221, sl222, sl223, sl224, sl225, sl226, sl227, sl228, sl229, sl230, sl231, sl232, sl233, sl234, sl235, sl236, sl237, sl238, sl239, sl240, sl241, sl242, sl243, sl244, sl245, sl246, sl247, sl248, sl249, sl250, sl251, sl252, sl253, sl254, sl255, sl256, sl257, sl258, sl259, sl260, sl261, sl262, sl263, sl264, sl265, sl266, sl267, sl268, sl269, sl270, nw271, nw272, nw273, nw274, nw275, nw276, nw277, nw278, nw279, nw280, nw281, nw282, nw283, nw284, nw285, nw286, sl287, sl288, sl289, sl290, sl291, sl292, sl293, sl294, sl295, sl296, sl297, sl298, sl299, sl300, sl301, sl302, sl303, sl304, sl305, sl306, sl307, sl308, sl309, sl310, sl311, sl312, sl313, sl314, sl315, sl316, sl317, sl318, sl319, sl320, sl321, sl322, sl323, sl324, sl325, sl326, sl327, sl328, sl329, sl330, sl331, sl332], df⟩ u8)) :
    Code.wp Try.prog round10 Q ⟨#[sl0, sl1, sl2, sl3, sl4, sl5, sl6, .slice (some ⟨gh, 0, none⟩) 8 ch, sl8, sl9, sl10, sl11, sl12, sl13, sl14, sl15, sl16, .slice (some ⟨g, 0, none⟩) 8 c, sl18, sl19, sl20, sl21, sl22, .int .i64 (j : Int), sl24, sl25, sl26, sl27, sl28, sl29, sl30, sl31, sl32, sl33, sl34, sl35, sl36, sl37, sl38, sl39, sl40, sl41, sl42, sl43, sl44, sl45, sl46, sl47, sl48, sl49, sl50, sl51, sl52, sl53, sl54, sl55, sl56, sl57, sl58, sl59, sl60, sl61, sl62, sl63, sl64, sl65, sl66, sl67, sl68, sl69, sl70, sl71, sl72, sl73, sl74, sl75, sl76, sl77, sl78, sl79, sl80, sl81, sl82, sl83, sl84, sl85, sl86, sl87, sl88, sl89, sl90, sl91, sl92, sl93, sl94, sl95, sl96, sl97, sl98, sl99, sl100, sl101, sl102, sl103, sl104, sl105, sl106, sl107, sl108, sl109, sl110, sl111, sl112, sl113, sl114, sl115, sl116, sl117, sl118, sl119, sl120, sl121, sl122, sl123, sl124, sl125, sl126, sl127, sl128, sl129, sl130, sl131, sl132, sl133, sl134, sl135, sl136, sl137, sl138, sl139, sl140, sl141, sl142, sl143, sl144, sl145, sl146, sl147, sl148, sl149, sl150, sl151, sl152, sl153, sl154, sl155, sl156, sl157, sl158, sl159, sl160, sl161, sl162, sl163, sl164, sl165, sl166, sl167, sl168, sl169, sl170, sl171, sl172, sl173, sl174, sl175, sl176, sl177, sl178, sl179, sl180, sl181, sl182, sl183, sl184, sl185, sl186, sl187, sl188, sl189, sl190, sl191, sl192, sl193, sl194, sl195, sl196, sl197, sl198, sl199, sl200, sl201, sl202, sl203, sl204, sl205, sl206, sl207, sl208, sl209, sl210, sl211, sl212, sl213, sl214, sl215, sl216, sl217, sl218, sl219, sl220, sl221, sl222, sl223, sl224, sl225, sl226, sl227, sl228, sl229, sl230, sl231, sl232, sl233, sl234, sl235, sl236, sl237, sl238, sl239, sl240, sl241, sl242, sl243, sl244, sl245, sl246, sl247, sl248, sl249, sl250, sl251, sl252, sl253, sl254, sl255, sl256, sl257, sl258, sl259, sl260, sl261, sl262, sl263, sl264, sl265, sl266, sl267, sl268, sl269, sl270, sl271, sl272, sl273, sl274, sl275, sl276, sl277, sl278, sl279, sl280, sl281, sl282, sl283, sl284, sl285, sl286, sl287, sl288, sl289, sl290, sl291, sl292, sl293, sl294, sl295, sl296, sl297, sl298, sl299, sl300, sl301, sl302, sl303, sl304, sl305, sl306, sl307, sl308, sl309, sl310, sl311, sl312, sl313, sl314, sl315, sl316, sl317, sl318, sl319, sl320, sl321, sl322, sl323, sl324, sl325, sl326, sl327, sl328, sl329, sl330, sl331, sl332], df⟩ wr := by
  dsimp only [round10, code5, round4, cL, cR, cB, cO, cP, body11, Try.f51, Option.getD]
  have t1 : (j : Int) < 8 := by omega
  have hy := HC.out j hlt
  have hx := HAx.out.cell j (by rw [cN_length, mixl_length]; exact hlt)
  rw [rd_cN, mixl_get st.list R.list j hlt] at hx
  have hf := HAx.out.free j
  have hset := mixl_set st.list R.list j hlt
  obtain ⟨x, hX⟩ : ∃ x, st.list.getD j 0 = x := ⟨_, rfl⟩
  rw [hX] at hx hset
  clear hX
  obtain ⟨y, hY⟩ : ∃ x, R.list.getD j 0 = x := ⟨_, rfl⟩
  rw [hY] at hy hset
  clear hY
  obtain ⟨z, hz⟩ : ∃ z, z = add2 x y := ⟨_, rfl⟩
  rw [← hz] at hset
  have f1 := add_w x y z hz
  have HSET := Aside0.mk hset
  have HLT := Aside0.mk hlt
  clear hz hset hlt hj
  go_wp2
  refine start_ (n := 13) (S := fun w' => w'.cell? ⟨gh, j, none⟩ = some (.int .u32 (x : Nat)) ∧ w'.cell? ⟨g, j, none⟩ = some (.int .u32 (y : Nat))) (ds := [12]) #[false, false, false, false, false, false, false, false, false, false, false, false, false] (by kernel_rfl) rfl rfl ⟨hx, hy⟩ (fun hHeld => ?_)
  refine pure_ (i := 0) (N := some 275) (v := ?_) (a' := ?_) #[true, false, false, false, false, false, false, false, false, false, false, false, false] rfl rfl (by kernel_rfl) (fun c_ a_ w_ h => hP.out c_ a_ _ _ w_ h) (Or.inl ⟨by rfl, ?_⟩) ?_ ?_
  rotate_left
  · intro w'
    go_simp
    with_reducible rfl
  rotate_left
  · simp only [Act.put, List.setIfInBounds_toArray, List.set_cons_zero, List.set_cons_succ, i64_w, i32_w]
    rfl
  refine pure_ (i := 1) (N := some 276) (v := ?_) (a' := ?_) #[true, true, false, false, false, false, false, false, false, false, false, false, false] rfl rfl (by kernel_rfl) (fun c_ a_ w_ h => hP.out c_ a_ _ _ w_ h) (Or.inl ⟨by rfl, ?_⟩) ?_ ?_
  rotate_left
  · intro w'
    go_simp
    with_reducible rfl
  rotate_left
  · simp only [Act.put, List.setIfInBounds_toArray, List.set_cons_zero, List.set_cons_succ, i64_w, i32_w]
    rfl
  refine pure_ (i := 2) (N := some 277) (v := ?_) (a' := ?_) #[true, true, true, false, false, false, false, false, false, false, false, false, false] rfl rfl (by kernel_rfl) (fun c_ a_ w_ h => hP.out c_ a_ _ _ w_ h) (Or.inl ⟨by rfl, ?_⟩) ?_ ?_
  rotate_left
  · intro w'
    go_simp
    with_reducible rfl
  rotate_left
  · simp only [Act.put, List.setIfInBounds_toArray, List.set_cons_zero, List.set_cons_succ, i64_w, i32_w]
    rfl
  refine pure_ (i := 3) (N := some 278) (v := ?_) (a' := ?_) #[true, true, true, true, false, false, false, false, false, false, false, false, false] rfl rfl (by kernel_rfl) (fun c_ a_ w_ h => hP.out c_ a_ _ _ w_ h) (Or.inl ⟨by rfl, ?_⟩) ?_ ?_
  rotate_left
  · intro w'
    go_simp
    with_reducible rfl
  rotate_left
  · simp only [Act.put, List.setIfInBounds_toArray, List.set_cons_zero, List.set_cons_succ, i64_w, i32_w]
    rfl
  refine pure_ (i := 4) (N := some 279) (v := ?_) (a' := ?_) #[true, true, true, true, true, false, false, false, false, false, false, false, false] rfl rfl (by kernel_rfl) (fun c_ a_ w_ h => hP.out c_ a_ _ _ w_ h) (Or.inl ⟨by rfl, ?_⟩) ?_ ?_
  rotate_left
  · intro w'
    go_simp
    with_reducible rfl
  rotate_left
  · simp only [Act.put, List.setIfInBounds_toArray, List.set_cons_zero, List.set_cons_succ, i64_w, i32_w]
    rfl
  refine pure_ (i := 6) (N := some 281) (v := ?_) (a' := ?_) #[true, true, true, true, true, false, true, false, false, false, false, false, false] rfl rfl (by kernel_rfl) (fun c_ a_ w_ h => hP.out c_ a_ _ _ w_ h) (Or.inl ⟨by rfl, ?_⟩) ?_ ?_
  rotate_left
  · intro w'
    go_simp
    with_reducible rfl
  rotate_left
  · simp only [Act.put, List.setIfInBounds_toArray, List.set_cons_zero, List.set_cons_succ, i64_w, i32_w]
    rfl
  refine pure_ (i := 7) (N := some 282) (v := ?_) (a' := ?_) #[true, true, true, true, true, false, true, true, false, false, false, false, false] rfl rfl (by kernel_rfl) (fun c_ a_ w_ h => hP.out c_ a_ _ _ w_ h) (Or.inl ⟨by rfl, ?_⟩) ?_ ?_
  rotate_left
  · intro w'
    go_simp
    with_reducible rfl
  rotate_left
  · simp only [Act.put, List.setIfInBounds_toArray, List.set_cons_zero, List.set_cons_succ, i64_w, i32_w]
    rfl
  refine pure_ (i := 8) (N := some 283) (v := ?_) (a' := ?_) #[true, true, true, true, true, false, true, true, true, false, false, false, false] rfl rfl (by kernel_rfl) (fun c_ a_ w_ h => hP.out c_ a_ _ _ w_ h) (Or.inl ⟨by rfl, ?_⟩) ?_ ?_
  rotate_left
  · intro w'
    go_simp
    with_reducible rfl
  rotate_left
  · simp only [Act.put, List.setIfInBounds_toArray, List.set_cons_zero, List.set_cons_succ, i64_w, i32_w]
    rfl
  refine take_ (i := 5) (N := some 280) (v := ?_) (a' := ?_) #[true, true, true, true, true, true, true, true, true, false, false, false, false] rfl rfl (by kernel_rfl) (fun c_ a_ w_ h => hP.out c_ a_ _ _ w_ h) (Or.inl ⟨by rfl, ?_⟩) hHeld ?_ ?_
  rotate_left
  · rintro w' ⟨s0, s1⟩
    go_simp
    with_reducible rfl
  rotate_left
  · simp only [Act.put, List.setIfInBounds_toArray, List.set_cons_zero, List.set_cons_succ, i64_w, i32_w]
    rfl
  refine take_ (i := 9) (N := some 284) (v := ?_) (a' := ?_) #[true, true, true, true, true, true, true, true, true, true, false, false, false] rfl rfl (by kernel_rfl) (fun c_ a_ w_ h => hP.out c_ a_ _ _ w_ h) (Or.inl ⟨by rfl, ?_⟩) hHeld ?_ ?_
  rotate_left
  · rintro w' ⟨s0, s1⟩
    go_simp
    with_reducible rfl
  rotate_left
  · simp only [Act.put, List.setIfInBounds_toArray, List.set_cons_zero, List.set_cons_succ, i64_w, i32_w]
    rfl
  refine pure_ (i := 10) (N := some 285) (v := ?_) (a' := ?_) #[true, true, true, true, true, true, true, true, true, true, true, false, false] rfl rfl (by kernel_rfl) (fun c_ a_ w_ h => hP.out c_ a_ _ _ w_ h) (Or.inl ⟨by rfl, ?_⟩) ?_ ?_
  rotate_left
  · intro w'
    go_simp
    with_reducible rfl
  rotate_left
  · simp only [Act.put, List.setIfInBounds_toArray, List.set_cons_zero, List.set_cons_succ, i64_w, i32_w]
    rfl
  refine pure_ (i := 11) (N := some 286) (v := ?_) (a' := ?_) #[true, true, true, true, true, true, true, true, true, true, true, true, false] rfl rfl (by kernel_rfl) (fun c_ a_ w_ h => hP.out c_ a_ _ _ w_ h) (Or.inl ⟨by rfl, ?_⟩) ?_ ?_
  rotate_left
  · intro w'
    go_simp
    with_reducible rfl
  rotate_left
  · simp only [Act.put, List.setIfInBounds_toArray, List.set_cons_zero, List.set_cons_succ, i64_w, i32_w]
    rfl
  refine last_ (i := 12) (N := none) #[true, true, true, true, true, true, true, true, true, true, true, true, true] rfl rfl (by kernel_rfl) (by decide) (fun K hK => ?_)
  refine skip_ (w1 := ?_) (by rfl) rfl ?_ ?_
  rotate_left
  · go_simp
    rfl
  refine hK.out _ _ ?_
  clear hK K
  refine done_ (by kernel_rfl) ?_
  clear hHeld
  go_upto_region 41 with (fail)
  refine wp_at (w2 := World.drew (World.setCell wr ⟨gh, j, none⟩ (.int .u32 (z : Int)))) rfl ?_
  have HA8 : Aside0 (Arr .u32 79 (World.drew (World.setCell wr ⟨gh, j, none⟩ (.int .u32 (z : Int)))) gh (cN (mixl st.list R.list (j + 1)))) := Aside0.mk (by
    have h := (HAx.out.set j (z : Int)).drew
    rw [cN_set, HSET.out] at h
    exact h)
  have HB8 : Aside0 (But w11.heap.size gh w11 (World.drew (World.setCell wr ⟨gh, j, none⟩ (.int .u32 (z : Int))))) := Aside0.mk (HBx.out.self j _).drew
  have HC8 : Aside0 (∀ q, q < 8 → (World.drew (World.setCell wr ⟨gh, j, none⟩ (.int .u32 (z : Int)))).cell? ⟨g, q, none⟩ = some (.int .u32 (R.list.getD q 0 : Nat))) := Aside0.mk (fun q hq => (far_cell wr (p := ⟨gh, j, none⟩) HGG.out _ q).trans (HC.out q hq))
  clear HC HAx HBx hf f1 hx hy
  have v9 := inc8 HLT.out
  generalize World.drew (World.setCell wr ⟨gh, j, none⟩ (.int .u32 (z : Int))) = u8 at *
  go_wp2
  (try rw [v9])
  exact hQ.out _ _ _ _ _ _ _ _ _ _ _ _ _ _ _ _ u8 HC8.out HA8.out HB8.out
/-- the last loop's round -/
noncomputable def round12 : Code := cO (cB (cR (cL (cP 12 body11))))
set_option maxHeartbeats 80000000 in
set_option maxRecDepth 100000 in
theorem out_step (Q : Exit → Act → World → Prop) (df : _) (wb wr : World) (gh ch j : Nat) (S : H8) (sl0 sl1 sl2 sl3 sl4 sl5 sl6 sl8 sl9 sl10 sl11 sl12 sl13 sl14 sl15 sl16 sl17 sl18 sl19 sl20 sl21 sl22 sl23 sl26 sl27 sl28 sl29 sl30 sl31 sl32 sl33 sl34 sl35 sl36 sl37 sl38 sl39 sl40 sl41 sl42 sl43 sl44 sl45 sl46 sl47 sl48 sl49 sl50 sl51 sl52 sl53 sl54 sl55 sl56 sl57 sl58 sl59 sl60 sl61 sl62 sl63 sl64 sl65 sl66 sl67 sl68 sl69 sl70 sl71 sl72 sl73 sl74 sl75 sl76 sl77 sl78 sl79 sl80 sl81 sl82 sl83 sl84 sl85 sl86 sl87 sl88 sl89 sl90 sl91 sl92 sl93 sl94 sl95 sl96 sl97 sl98 sl99 sl100 sl101 sl102 sl103 sl104 sl105 sl106 sl107 sl108 sl109 sl110 sl111 sl112 sl113 sl114 sl115 sl116 sl117 sl118 sl119 sl120 sl121 sl122 sl123 sl124 sl125 sl126 sl127 sl128 sl129 sl130 sl131 sl132 sl133 sl134 sl135 sl136 sl137 sl138 sl139 sl140 sl141 sl142 sl143 sl144 sl145 sl146 sl147 sl148 sl149 sl150 sl151 sl152 sl153 sl154 sl155 sl156 sl157 sl158 sl159 sl160 sl161 sl162 sl163 sl164 sl165 sl166 sl167 sl168 sl169 sl170 sl171 sl172 sl173 sl174 sl175 sl176 sl177 sl178 sl179 sl180 sl181 sl182 sl183 sl184 sl185 sl186 sl187 sl188 sl189 sl190 sl191 sl192 sl193 sl194 sl195 sl196 sl197 sl198 sl199 sl200 sl201 sl202 sl203 sl204 sl205 sl206 sl207 sl208 sl209 sl210 sl211 sl212 sl213 sl214 sl215 sl216 sl217 sl218 sl219 sl220 sl221 sl222 sl223 sl224 sl225 sl226 sl227 sl228 sl229 sl230 sl231 sl232 sl233 sl234 sl235 sl236 sl237 sl238 sl239 sl240 sl241 sl242 sl243 sl244 sl245 sl246 sl247 sl248 sl249 sl250 sl251 sl252 sl253 sl254 sl255 sl256 sl257 sl258 sl259 sl260 sl261 sl262 sl263 sl264 sl265 sl266 sl267 sl268 sl269 sl270 sl271 sl272 sl273 sl274 sl275 sl276 sl277 sl278 sl279 sl280 sl281 sl282 sl283 sl284 sl285 sl286 sl287 sl288 sl289 sl290 sl291 sl292 sl293 sl294 sl295 sl296 sl297 sl298 sl299 sl300 sl301 sl302 sl303 sl304 sl305 sl306 sl307 sl308 sl309 sl310 sl311 sl312 sl313 sl314 sl315 sl316 sl317 sl318 sl319 sl320 sl321 sl322 sl323 sl324 sl325 sl326 sl327 sl328 sl329 sl330 sl331 sl332 : Value)
    (HAs : Aside0 (Arr .u32 79 wb gh (cN S.list))) (HSK : Aside0 (okH S)) (HD : Aside0 (Arr .u8 26 wr wb.heap.size (cN (S.bytes.take (4 * j) ++ List.replicate (32 - 4 * j) 0)))) (HE : Aside0 (Below wb.heap.size wb wr)) (hj : j ≤ 8) (hlt : j < 8)
    (hP : Aside0 (∀ (k : _) (a : Act) (d : Option Tmp) (v : Value) (w : World), Q (.panic k) (a.put d v) w → Q (.panic k) a w))
    (hQ : Aside0 (∀ (nw287 nw288 nw289 nw290 nw291 nw292 nw293 nw294 nw295 nw296 nw297 nw298 nw299 nw300 nw301 nw302 nw303 nw304 nw305 nw306 nw307 nw308 nw309 nw310 nw311 nw312 nw313 nw314 nw315 nw316 nw317 nw318 nw319 nw320 nw321 nw322 nw323 nw324 nw325 nw326 nw327 nw328 nw329 nw330 nw331 : Value) (u4 : World), Arr .u8 26 u4 wb.heap.size (cN (S.bytes.take (4 * (j + 1)) ++ List.replicate (32 - 4 * (j + 1)) 0)) → Below wb.heap.size wb u4 → Q .normal ⟨#[sl0, sl1, sl2, sl3, sl4, sl5, sl6, .slice (some ⟨gh, 0, none⟩) 8 ch, sl8, sl9, sl10, sl11, sl12, sl13, sl14, sl15, sl16, sl17, sl18, sl19, sl20, sl21, sl22, sl23, .pointer (some ⟨wb.heap.size, 0, none⟩), .int .i64 ((j : Int) + 1), sl26, sl27, sl28, sl29, sl30, sl31, sl32, sl33, sl34, sl35, sl36, sl37, sl38, sl39, sl40, sl41, sl42, sl43, sl44, sl45, sl46, sl47, sl48, sl49, sl50, sl51, sl52, sl53, sl54, sl55, sl56, sl57, sl58, sl59, sl60, sl61, sl62, sl63, sl64, sl65, sl66, sl67, sl68, sl69, sl70, sl71, sl72, sl73, sl74, sl75, sl76, sl77, sl78, sl79, sl80, sl81, sl82, sl83, sl84, sl85, sl86, sl87, sl88, sl89, sl90, sl91, sl92, sl93, sl94, sl95, sl96, sl97, sl98, sl99, sl100, sl101, sl102, sl103, sl104, sl105, sl106, sl107, sl108, sl109, sl110, sl111, sl112, sl113, sl114, sl115, sl116, sl117, sl118, sl119, sl120, sl121, sl122, sl123, sl124, sl125, sl126, sl127, sl128, sl129, sl130, sl131, sl132, sl133, sl134, sl135, sl136, sl137, sl138, sl139, sl140, sl141, sl142, sl143, sl144, sl145, sl146, sl147, sl148, sl149, sl150, sl151, sl152, sl153, sl154, sl155, sl156, sl157, sl158, sl159, sl160, sl161, sl162, sl163, sl164, sl165, sl166, sl167, sl168, sl169, sl170, sl171, sl172, sl173, sl174, sl175, sl176, sl177, sl178, sl179, sl180, sl181, sl182, sl183, sl184, sl185, sl186, sl187, sl188, sl189, sl190, sl191, sl192, sl193, sl194, sl195, sl196, sl197, sl198, sl199, sl200, sl201, sl202, sl203, sl204, sl205, sl206, sl207, sl208, sl209, sl210, sl211, sl212, sl213, sl214, sl215, sl216, sl217, sl218, sl219, sl220, sl221, sl222, sl223, sl224, sl225, sl226, sl227, sl228, sl229, sl230, sl231, sl232, sl233, sl234, sl235, sl236, sl237, sl238, sl239, sl240, sl241, sl242, sl243, sl244, sl245, sl246, sl247, sl248, sl249, sl250, sl251, sl252, sl253, sl254, sl255, sl256, sl257, sl258, sl259, sl260, sl261, sl262, sl263, sl264, sl265, sl266, sl267, sl268, sl269, sl270, sl271, sl272, sl273, sl274, sl275, sl276, sl277, sl278, sl279, sl280, sl281, sl282, sl283, sl284, sl285, sl286, nw287, nw288, nw289, nw290, nw291, nw292, nw293, nw294, nw295, nw296, nw297, nw298, nw299, nw300, nw301, nw302, nw303, nw304, nw305, nw306, nw307, nw308, nw309, nw310, nw311, nw312, nw313, nw314, nw315, nw316, nw317, nw318, nw319, nw320, nw321, nw322, nw323, nw324, nw325, nw326, nw327, nw328, nw329, nw330, nw331, sl332], df⟩ u4)) :
    Code.wp Try.prog round12 Q ⟨#[sl0, sl1, sl2, sl3, sl4, sl5, sl6, .slice (some ⟨gh, 0, none⟩) 8 ch, sl8, sl9, sl10, sl11, sl12, sl13, sl14, sl15, sl16, sl17, sl18, sl19, sl20, sl21, sl22, sl23, .pointer (some ⟨wb.heap.size, 0, none⟩), .int .i64 (j : Int), sl26, sl27, sl28, sl29, sl30, sl31, sl32, sl33, sl34, sl35, sl36, sl37, sl38, sl39, sl40, sl41, sl42, sl43, sl44, sl45, sl46, sl47, sl48, sl49, sl50, sl51, sl52, sl53, sl54, sl55, sl56, sl57, sl58, sl59, sl60, sl61, sl62, sl63, sl64, sl65, sl66, sl67, sl68, sl69, sl70, sl71, sl72, sl73, sl74, sl75, sl76, sl77, sl78, sl79, sl80, sl81, sl82, sl83, sl84, sl85, sl86, sl87, sl88, sl89, sl90, sl91, sl92, sl93, sl94, sl95, sl96, sl97, sl98, sl99, sl100, sl101, sl102, sl103, sl104, sl105, sl106, sl107, sl108, sl109, sl110, sl111, sl112, sl113, sl114, sl115, sl116, sl117, sl118, sl119, sl120, sl121, sl122, sl123, sl124, sl125, sl126, sl127, sl128, sl129, sl130, sl131, sl132, sl133, sl134, sl135, sl136, sl137, sl138, sl139, sl140, sl141, sl142, sl143, sl144, sl145, sl146, sl147, sl148, sl149, sl150, sl151, sl152, sl153, sl154, sl155, sl156, sl157, sl158, sl159, sl160, sl161, sl162, sl163, sl164, sl165, sl166, sl167, sl168, sl169, sl170, sl171, sl172, sl173, sl174, sl175, sl176, sl177, sl178, sl179, sl180, sl181, sl182, sl183, sl184, sl185, sl186, sl187, sl188, sl189, sl190, sl191, sl192, sl193, sl194, sl195, sl196, sl197, sl198, sl199, sl200, sl201, sl202, sl203, sl204, sl205, sl206, sl207, sl208, sl209, sl210, sl211, sl212, sl213, sl214, sl215, sl216, sl217, sl218, sl219, sl220, sl221, sl222, sl223, sl224, sl225, sl226, sl227, sl228, sl229, sl230, sl231, sl232, sl233, sl234, sl235, sl236, sl237, sl238, sl239, sl240, sl241, sl242, sl243, sl244, sl245, sl246, sl247, sl248, sl249, sl250, sl251, sl252, sl253, sl254, sl255, sl256, sl257, sl258, sl259, sl260, sl261, sl262, sl263, sl264, sl265, sl266, sl267, sl268, sl269, sl270, sl271, sl272, sl273, sl274, sl275, sl276, sl277, sl278, sl279, sl280, sl281, sl282, sl283, sl284, sl285, sl286, sl287, sl288, sl289, sl290, sl291, sl292, sl293, sl294, sl295, sl296, sl297, sl298, sl299, sl300, sl301, sl302, sl303, sl304, sl305, sl306, sl307, sl308, sl309, sl310, sl311, sl312, sl313, sl314, sl315, sl316, sl317, sl318, sl319, sl320, sl321, sl322, sl323, sl324, sl325, sl326, sl327, sl328, sl329, sl330, sl331, sl332], df⟩ wr := by
  dsimp only [round12, cL, cR, cB, cO, cP, body11, Try.f51, Option.getD]
  have t8 : (j : Int) < 8 := by omega
  have HLT := Aside0.mk hlt
  have hin := HAs.out.cell j hlt
  rw [rd_cN] at hin
  have hx := (HE.out.cell (p := ⟨gh, j, none⟩) HAs.out.size).trans hin
  obtain ⟨x, hX⟩ : ∃ x, S.list.getD j 0 = x := ⟨_, rfl⟩
  have hout := outs S HSK.out j hlt x hX
  rw [hX] at hin hx
  have HIN := Aside0.mk hin
  obtain ⟨i0, e0⟩ : ∃ i, i = 4 * j := ⟨_, rfl⟩
  obtain ⟨y0, g0⟩ : ∃ y, S.bytes.getD (4 * j) 0 = y := ⟨_, rfl⟩
  obtain ⟨y1, g1⟩ : ∃ y, S.bytes.getD (4 * j + 1) 0 = y := ⟨_, rfl⟩
  obtain ⟨y2, g2⟩ : ∃ y, S.bytes.getD (4 * j + 2) 0 = y := ⟨_, rfl⟩
  obtain ⟨y3, g3⟩ : ∃ y, S.bytes.getD (4 * j + 3) 0 = y := ⟨_, rfl⟩
  rw [g0, g1, g2, g3] at hout
  rw [← e0] at g0 g1 g2 g3
  have HG := Aside0.mk (And.intro g0 (And.intro g1 (And.intro g2 g3)))
  have HOUT := Aside0.mk hout
  have HE0 := Aside0.mk e0
  have HD0 : Aside0 (Arr .u8 26 wr wb.heap.size (cN (S.bytes.take i0 ++ List.replicate (32 - i0) 0))) := Aside0.mk (by rw [e0]; exact HD.out)
  have hi28 : i0 + 4 ≤ 32 := by omega
  have HI0 := Aside0.mk hi28
  clear hX hout g0 g1 g2 g3 hin HD hj hi28
  obtain ⟨u0, hu0⟩ : ∃ x, x = wr := ⟨_, rfl⟩
  subst hu0
  obtain ⟨q1, q2, q3, q4⟩ := tidx0 j i0 HE0.out HI0.out
  have hcd := HD0.out.cell i0 (by rw [cN_length, List.length_append, List.length_take, List.length_replicate, bytes_length]; have := HI0.out; omega)
  have hfd := HD0.out.free i0
  have d1 := HOUT.out.2.1
  clear e0
  go_upto_region 48 with (fail)
  refine wp_at (w2 := (World.setCell u0 ⟨wb.heap.size, i0, none⟩ (.int .u8 (y0 : Int)))) rfl ?_
  have HD1 : Aside0 (Arr .u8 26 (World.setCell u0 ⟨wb.heap.size, i0, none⟩ (.int .u8 (y0 : Int))) wb.heap.size (cN (S.bytes.take (i0 + 1) ++ List.replicate (32 - (i0 + 1)) 0))) := Aside0.mk (by
    have h := HD0.out.set i0 (y0 : Int)
    rw [take_set4 S i0 (by have := HI0.out; omega) y0 HG.out.1] at h
    exact h)
  have HE1 : Aside0 (Below wb.heap.size wb (World.setCell u0 ⟨wb.heap.size, i0, none⟩ (.int .u8 (y0 : Int)))) := Aside0.mk (HE.out.setCell (p := ⟨wb.heap.size, i0, none⟩) (Nat.le_refl _) (.int .u8 (y0 : Int)))
  clear q1 q2 q3 q4 hcd hfd d1 hx HD0 HE
  generalize (World.setCell u0 ⟨wb.heap.size, i0, none⟩ (.int .u8 (y0 : Int))) = u1 at *
  obtain ⟨q1, q2, q3, q4, q5⟩ := tidx1 j i0 HE0.out HI0.out
  have hcd := HD1.out.cell (i0 + 1) (by rw [cN_length, List.length_append, List.length_take, List.length_replicate, bytes_length]; have := HI0.out; omega)
  have hfd := HD1.out.free (i0 + 1)
  have d1 := HOUT.out.2.2.1
  have d2 : (y1 : Int) % 256 = (y1 : Int) := y_mod (HOUT.out.2.2.2.2.2.1)
  have hx := (HE1.out.cell (p := ⟨gh, j, none⟩) HAs.out.size).trans HIN.out
  go_upto_region 49 with (fail)
  refine wp_at (w2 := (World.setCell u1 ⟨wb.heap.size, i0 + 1, none⟩ (.int .u8 (y1 : Int)))) rfl ?_
  have HD2 : Aside0 (Arr .u8 26 (World.setCell u1 ⟨wb.heap.size, i0 + 1, none⟩ (.int .u8 (y1 : Int))) wb.heap.size (cN (S.bytes.take (i0 + 2) ++ List.replicate (32 - (i0 + 2)) 0))) := Aside0.mk (by
    have h := HD1.out.set (i0 + 1) (y1 : Int)
    rw [take_set4 S (i0 + 1) (by have := HI0.out; omega) y1 HG.out.2.1] at h
    exact h)
  have HE2 : Aside0 (Below wb.heap.size wb (World.setCell u1 ⟨wb.heap.size, i0 + 1, none⟩ (.int .u8 (y1 : Int)))) := Aside0.mk (HE1.out.setCell (p := ⟨wb.heap.size, i0 + 1, none⟩) (Nat.le_refl _) (.int .u8 (y1 : Int)))
  clear q1 q2 q3 q4 q5 hcd hfd d1 d2 hx HD1 HE1
  generalize (World.setCell u1 ⟨wb.heap.size, i0 + 1, none⟩ (.int .u8 (y1 : Int))) = u2 at *
  obtain ⟨q1, q2, q3, q4, q5⟩ := tidx2 j i0 HE0.out HI0.out
  have hcd := HD2.out.cell (i0 + 2) (by rw [cN_length, List.length_append, List.length_take, List.length_replicate, bytes_length]; have := HI0.out; omega)
  have hfd := HD2.out.free (i0 + 2)
  have d1 := HOUT.out.2.2.2.1
  have d2 : (y2 : Int) % 256 = (y2 : Int) := y_mod (HOUT.out.2.2.2.2.2.2.1)
  have hx := (HE2.out.cell (p := ⟨gh, j, none⟩) HAs.out.size).trans HIN.out
  go_upto_region 50 with (fail)
  refine wp_at (w2 := (World.setCell u2 ⟨wb.heap.size, i0 + 2, none⟩ (.int .u8 (y2 : Int)))) rfl ?_
  have HD3 : Aside0 (Arr .u8 26 (World.setCell u2 ⟨wb.heap.size, i0 + 2, none⟩ (.int .u8 (y2 : Int))) wb.heap.size (cN (S.bytes.take (i0 + 3) ++ List.replicate (32 - (i0 + 3)) 0))) := Aside0.mk (by
    have h := HD2.out.set (i0 + 2) (y2 : Int)
    rw [take_set4 S (i0 + 2) (by have := HI0.out; omega) y2 HG.out.2.2.1] at h
    exact h)
  have HE3 : Aside0 (Below wb.heap.size wb (World.setCell u2 ⟨wb.heap.size, i0 + 2, none⟩ (.int .u8 (y2 : Int)))) := Aside0.mk (HE2.out.setCell (p := ⟨wb.heap.size, i0 + 2, none⟩) (Nat.le_refl _) (.int .u8 (y2 : Int)))
  clear q1 q2 q3 q4 q5 hcd hfd d1 d2 hx HD2 HE2
  generalize (World.setCell u2 ⟨wb.heap.size, i0 + 2, none⟩ (.int .u8 (y2 : Int))) = u3 at *
  obtain ⟨q1, q2, q3, q4, q5⟩ := tidx3 j i0 HE0.out HI0.out
  have hcd := HD3.out.cell (i0 + 3) (by rw [cN_length, List.length_append, List.length_take, List.length_replicate, bytes_length]; have := HI0.out; omega)
  have hfd := HD3.out.free (i0 + 3)
  have d1 := HOUT.out.2.2.2.2.1
  have d2 : (y3 : Int) % 256 = (y3 : Int) := y_mod (HOUT.out.2.2.2.2.2.2.2)
  have hx := (HE3.out.cell (p := ⟨gh, j, none⟩) HAs.out.size).trans HIN.out
  go_upto_region 46 with (fail)
  refine wp_at (w2 := (World.setCell u3 ⟨wb.heap.size, i0 + 3, none⟩ (.int .u8 (y3 : Int)))) rfl ?_
  have HD4 : Aside0 (Arr .u8 26 (World.setCell u3 ⟨wb.heap.size, i0 + 3, none⟩ (.int .u8 (y3 : Int))) wb.heap.size (cN (S.bytes.take (i0 + 4) ++ List.replicate (32 - (i0 + 4)) 0))) := Aside0.mk (by
    have h := HD3.out.set (i0 + 3) (y3 : Int)
    rw [take_set4 S (i0 + 3) (by have := HI0.out; omega) y3 HG.out.2.2.2] at h
    exact h)
  have HE4 : Aside0 (Below wb.heap.size wb (World.setCell u3 ⟨wb.heap.size, i0 + 3, none⟩ (.int .u8 (y3 : Int)))) := Aside0.mk (HE3.out.setCell (p := ⟨wb.heap.size, i0 + 3, none⟩) (Nat.le_refl _) (.int .u8 (y3 : Int)))
  clear q1 q2 q3 q4 q5 hcd hfd d1 d2 hx HD3 HE3
  generalize (World.setCell u3 ⟨wb.heap.size, i0 + 3, none⟩ (.int .u8 (y3 : Int))) = u4 at *
  have v9 := inc8 HLT.out
  go_wp2
  (try rw [v9])
  exact hQ.out _ _ _ _ _ _ _ _ _ _ _ _ _ _ _ _ _ _ _ _ _ _ _ _ _ _ _ _ _ _ _ _ _ _ _ _ _ _ _ _ _ _ _ _ _ u4 (by have h := HD4.out; rw [HE0.out, ← Nat.mul_succ] at h; exact h) HE4.out
end Go.Proofs.Ytojlhmmmiebbmaa.PNonceLists
