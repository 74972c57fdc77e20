/- Texts of this claim, packed: RStoC6, RStoC7, RSto, PLaw9, HRange, HPend, PRegs, RInsert, HOpen2, PInv, PLaw7, HOpen, HOpen5. -/
import Derived.Test.YtidghmgaaenihaaBDurableInvented0
import Derived.Test.YtidghmgaaenihaaQ19
import Derived.Test.YtidghmgaaenihaaHCheck
import Derived.Maps.RangeRun
import Derived.Test.YtidghmgaaenihaaHMap2
import Derived.Maps.RangeWalk
import Derived.Test.YtidghmgaaenihaaHOps
import Derived.Test.YtidghmgaaenihaaHSurv
import Derived.Test.YtidghmgaaenihaaHTrace
import Derived.Deep.RegionHeld3
import Derived.Test.YtidghmgaaenihaaQ0
import Derived.Deep.Slices
import Derived.Deep.Fields
import Derived.ChangeSame
import Derived.ChangeSlices
import Derived.WideKeyArr2
import Derived.Test.YtidghmgaaenihaaQe33
import Derived.Deep.QuietTactic
import Derived.BigQuiet
/-! part RStoC6 -/
namespace Go.Proofs.Ytidghmgaaenihaa.Q
open Go.RowKit Go.Proofs.YtidghmgaaenihaaW.PrintWords Go.Proofs.YtidghmgaaenihaaW.PrintLast Go.Proofs.YtidghmgaaenihaaW.PrintMore
set_option linter.unusedVariables false
set_option linter.unusedSimpArgs false
set_option maxHeartbeats 40000000 in
set_option maxRecDepth 1000000 in
theorem sto_case6 {script : List S100} {w wr : World} {ad : Addr} {c x : Nat} {k r q : Int} {L : List S39} {O : List MOp} {ch : List (Int × Int)} {sf n : Int} {A3 : Option Addr} {c3 : Nat} {A4 : Option Addr} {c4 : Nat} {A5 : Option Addr} {c5 : Nat} {Qx : Exit → Act → World → Prop}
    {u9 u10 u11 u12 u13 u14 u15 u16 u17 u18 u19 u20 u21 u22 u23 u24 u25 u26 u27 u28 u29 u30 u31 u32 u33 u34 u35 u36 u37 u38 u39 u40 u41 u42 u43 u44 u45 u46 u47 u48 u49 u50 u51 u52 u53 u54 u55 u56 u57 u58 u59 u60 u61 u62 u63 u64 u65 u66 u67 u68 u69 u70 u71 u72 u73 u74 u75 u76 u77 u78 u79 u80 u81 u82 u83 u84 u85 u86 u87 u88 u89 u90 u91 u92 u93 u94 u95 u96 u97 u98 u99 u100 u101 u102 u103 u104 u105 u106 u107 u108 u109 u110 u111 u112 u113 u114 u115 u116 u117 u118 u119 u120 u121 u122 u123 u124 u125 u126 u127 u128 u129 u130 u131 u132 u133 u134 u135 u136 u137 u138 u139 u140 u141 u142 u143 u144 u145 u146 u147 u148 u149 u150 u151 u152 u153 u154 u155 u156 u157 u158 u159 u160 u161 u162 u163 u164 u165 u166 u167 u168 u169 u170 u171 u172 u173 u174 u175 u176 u177 u178 u179 u180 u181 u182 u183 u184 u185 u186 u187 u188 u189 u190 u191 u192 u193 u194 u195 u196 u197 u198 u199 u200 u201 u202 u203 u204 u205 u206 u207 u208 u209 u210 u211 : Value} (H : StoHead script w wr ad c x k r q L O ch sf n A3 c3 A4 c4 A5 c5) (h : k % 8 = 6) :
    Code.wp Try.prog body27 (Exit.then (fun a' w' => StoInv script w (some ad) c a' w' ∧ StoMu script a' < StoMu script ⟨#[.slice (some ad) script.length c, undef, .slice none 0 0, .slice A3 L.length c3, .slice A4 O.length c4, .slice A5 ch.length c5, .int .i64 sf, .int .i64 n, .int .i64 x, u9, u10, u11, u12, u13, u14, u15, u16, u17, u18, u19, u20, u21, u22, u23, u24, u25, u26, u27, u28, u29, u30, u31, u32, u33, u34, u35, u36, u37, u38, u39, u40, u41, u42, u43, u44, u45, u46, u47, u48, u49, u50, u51, u52, u53, u54, u55, u56, u57, u58, u59, u60, u61, u62, u63, u64, u65, u66, u67, u68, u69, u70, u71, u72, u73, u74, u75, u76, u77, u78, u79, u80, u81, u82, u83, u84, u85, u86, u87, u88, u89, u90, u91, u92, u93, u94, u95, u96, u97, u98, u99, u100, u101, u102, u103, u104, u105, u106, u107, u108, u109, u110, u111, u112, u113, u114, u115, u116, u117, u118, u119, u120, u121, u122, u123, u124, u125, u126, u127, u128, u129, u130, u131, u132, u133, u134, u135, u136, u137, u138, u139, u140, u141, u142, u143, u144, u145, u146, u147, u148, u149, u150, u151, u152, u153, u154, u155, u156, u157, u158, u159, u160, u161, u162, u163, u164, u165, u166, u167, u168, u169, u170, u171, u172, u173, u174, u175, u176, u177, u178, u179, u180, u181, u182, u183, u184, u185, u186, u187, u188, u189, u190, u191, u192, u193, u194, u195, u196, u197, u198, u199, u200, u201, u202, u203, u204, u205, u206, u207, u208, u209, u210, u211, undef], []⟩) Qx) ⟨#[.slice (some ad) script.length c, undef, .slice none 0 0, .slice A3 L.length c3, .slice A4 O.length c4, .slice A5 ch.length c5, .int .i64 sf, .int .i64 n, .int .i64 x, u9, u10, u11, u12, u13, u14, u15, u16, u17, u18, u19, u20, u21, u22, u23, u24, u25, u26, u27, u28, u29, u30, u31, u32, u33, u34, u35, u36, u37, u38, u39, u40, u41, u42, u43, u44, u45, u46, u47, u48, u49, u50, u51, u52, u53, u54, u55, u56, u57, u58, u59, u60, u61, u62, u63, u64, u65, u66, u67, u68, u69, u70, u71, u72, u73, u74, u75, u76, u77, u78, u79, u80, u81, u82, u83, u84, u85, u86, u87, u88, u89, u90, u91, u92, u93, u94, u95, u96, u97, u98, u99, u100, u101, u102, u103, u104, u105, u106, u107, u108, u109, u110, u111, u112, u113, u114, u115, u116, u117, u118, u119, u120, u121, u122, u123, u124, u125, u126, u127, u128, u129, u130, u131, u132, u133, u134, u135, u136, u137, u138, u139, u140, u141, u142, u143, u144, u145, u146, u147, u148, u149, u150, u151, u152, u153, u154, u155, u156, u157, u158, u159, u160, u161, u162, u163, u164, u165, u166, u167, u168, u169, u170, u171, u172, u173, u174, u175, u176, u177, u178, u179, u180, u181, u182, u183, u184, u185, u186, u187, u188, u189, u190, u191, u192, u193, u194, u195, u196, u197, u198, u199, u200, u201, u202, u203, u204, u205, u206, u207, u208, u209, u210, u211, undef], []⟩ wr := by
  obtain ⟨HR, hc, hsz, hlt, s0, s1, s2, k0, k1, r0, r1, q0, q1, HN, bl, bo, bc, bn0, bn1, HL, HO, HC, HC4, HC5, hc3, hc4, hc5, sf0, sf1, HB⟩ := H
  have hx : x ≤ script.length := by omega
  have hltb : (x : Int) < (script.length : Int) := by omega
  have hx0 : (0 : Int) ≤ x := by omega
  have hxb : (x : Int) < 1000 := by omega
  have hkk : 0 ≤ k % 8 := by omega
  have hrm := Int.emod_nonneg r (show (4 : Int) ≠ 0 by decide)
  have hrl := Int.emod_lt_of_pos r (show (0 : Int) < 4 by decide)
  have hjm : O.length ≠ 0 → 0 ≤ q % (O.length : Int) ∧ q % (O.length : Int) < O.length := fun h => ⟨Int.emod_nonneg _ (by omega), Int.emod_lt_of_pos _ (by omega)⟩
  have HJM := Aside0.mk hjm
  clear hjm
  conv => arg 2; whnf
  by_cases hol : O.length = 0
  · have HN2 : Aside0 (stoN script (x + 1) = ⟨L, O, ch, sf, n⟩) := ⟨by rw [HN.out]; unfold stoStep; simp only; rw [h, hol]; rfl⟩
    clear HN
    have holb : ¬ ((O.length : Int) > 0) := by omega
    have HBA := below_alloc (Below.refl wr.heap.size wr) (.cells #[.int .u8 k, .int .u8 r, .int .u8 q] 100)
    have HL6 := Aside0.mk (Kd.R_below HL.out HBA)
    have HO6 := Aside0.mk (Kd.R_below HO.out HBA)
    have HC6 := Aside0.mk (Kd.R_below HC.out HBA)
    have HB6 := Aside0.mk (below_step HB.out HBA)
    clear HBA hol
    go_wp2
    refine ⟨StoInv.mk ⟨x + 1, by omega, by first | rfl | simp, by rw [HN2.out], by rw [HN2.out], by rw [HN2.out]; exact HL6, by rw [HN2.out]; exact HO6, by rw [HN2.out]; exact HC6, HB6⟩, ?_⟩
    simp [StoMu, intOf]; omega
  · obtain ⟨j0, j1⟩ := HJM.out hol
    have holb : (O.length : Int) > 0 := by omega
    obtain ⟨j, hj⟩ : ∃ j : Nat, q % (O.length : Int) = j := ⟨(q % (O.length : Int)).toNat, by omega⟩
    have HJJ : Aside0 (stoJ ⟨L, O, ch, sf, n⟩ ⟨k, r, q⟩ = j) := ⟨by unfold stoJ; simp only; rw [if_neg hol, hj]; rfl⟩
    have hjl : j < O.length := by omega
    have hjb0 : (0 : Int) ≤ (j : Int) := by omega
    have hjb1 : (j : Int) < (O.length : Int) := by omega
    obtain ⟨ad4, rfl⟩ : ∃ ad4, A4 = some ad4 := by obtain ⟨g, cap, hv, _⟩ := Kd.R_form HO.out (by omega); injection hv with ha _ _; exact ⟨_, ha⟩
    obtain ⟨o, HOo⟩ : ∃ o, Aside0 (mAt O j = o) := ⟨_, ⟨rfl⟩⟩
    have HBA := Aside0.mk (below_alloc (Below.refl wr.heap.size wr) (.cells #[.int .u8 k, .int .u8 r, .int .u8 q] 100))
    have HLA := Aside0.mk (Kd.R_below HL.out HBA.out)
    have HOA := Aside0.mk (Kd.R_below HO.out HBA.out)
    have HCA := Aside0.mk (Kd.R_below HC.out HBA.out)
    have HBWA := Aside0.mk (below_step HB.out HBA.out)
    have HMC := Aside0.mk (at_mopc HOA.out hjl)
    have g0 := at_mopc0 HOA.out hjl
    rw [HOo.out] at HMC g0
    obtain ⟨⟨e0, e1, e2, e3, e4, e5⟩, ex, dn, res, ps⟩ := o
    have g1 := HMC.out 1 _ rfl
    have g2 := HMC.out 2 _ rfl
    have g3 := HMC.out 3 _ rfl
    have g4 := HMC.out 4 _ rfl
    have g5 := HMC.out 5 _ rfl
    have g6 := HMC.out 6 _ rfl
    have g7 := HMC.out 7 _ rfl
    have g8 := HMC.out 8 _ rfl
    have g9 := HMC.out 9 _ rfl
    simp only at g0 g1 g2 g3 g4 g5 g6 g7 g8 g9
    clear hol
    cases ex with
    | false =>
      have HN2 : Aside0 (stoN script (x + 1) = ⟨L, O, ch, sf, n⟩) := ⟨by rw [HN.out]; unfold stoStep; simp only; rw [if_neg (by omega), if_neg (by omega), if_pos (by omega), if_neg (by omega), HJJ.out, HOo.out, if_neg (by simp)]⟩
      clear HN
      go_wp2
      refine ⟨StoInv.mk ⟨x + 1, by omega, by first | rfl | simp, by rw [HN2.out], by rw [HN2.out], by rw [HN2.out]; exact HLA, by rw [HN2.out]; exact HOA, by rw [HN2.out]; exact HCA, HBWA⟩, ?_⟩
      simp [StoMu, intOf]; omega
    | true =>
    cases dn with
    | true =>
      have HN2 : Aside0 (stoN script (x + 1) = ⟨L, O, ch, sf, n⟩) := ⟨by rw [HN.out]; unfold stoStep; simp only; rw [if_neg (by omega), if_neg (by omega), if_pos (by omega), if_neg (by omega), HJJ.out, HOo.out, if_pos rfl, if_pos rfl]⟩
      clear HN
      go_wp2
      refine ⟨StoInv.mk ⟨x + 1, by omega, by first | rfl | simp, by rw [HN2.out], by rw [HN2.out], by rw [HN2.out]; exact HLA, by rw [HN2.out]; exact HOA, by rw [HN2.out]; exact HCA, HBWA⟩, ?_⟩
      simp [StoMu, intOf]; omega
    | false =>
      have HX : Aside0 (stoN script (x + 1) = stoD ⟨L, O, ch, sf, n⟩ j) := ⟨by rw [HN.out]; unfold stoStep; simp only; rw [if_neg (by omega), if_neg (by omega), if_pos (by omega), if_neg (by omega), HJJ.out, HOo.out, if_pos rfl, if_neg (by simp)]⟩
      clear HN
      cases e2 with
      | true =>
        cases e5 with
        | true =>
          have HN2 : Aside0 (stoN script (x + 1) = ⟨L ++ [⟨2, e1, true, e3, e4, true⟩], O.set j ⟨⟨e0, e1, true, e3, e4, true⟩, true, true, res, ps⟩, ch, max sf ps, n⟩) := ⟨by rw [HX.out]; unfold stoD; simp only; rw [HOo.out]; simp⟩
          go_wp2_with (first | ((with_reducible refine gate_ (.store 4 (.tmp 183) (.const (.bool true))) rfl ?_); refine at_mop (w0 := w) rfl rfl 4 (.tmp 183) (.const (.bool true)) rfl j 7 (by omega) (.bool true) ⟨⟨e0, e1, true, e3, e4, true⟩, true, true, res, ps⟩ rfl rfl rfl (by kernel_rfl) rfl (by rw [HOo.out]; rfl) HOA.out hjl HBWA.out ?_; intro w8 ho hb hg; have HO8 := Aside0.mk ho; have HB8 := Aside0.mk hb; have HL8 := Aside0.mk (Kd.R_over HLA.out HOA.out (by decide) hg); have HC8 := Aside0.mk (Kd.R_over HCA.out HOA.out (by decide) hg); have HM8 := Aside0.mk (at_mopc HO8.out hjl); have g0 := at_mopc0 HO8.out hjl; rw [mAt_same _ _ _ hjl] at HM8 g0; have g1 := HM8.out 1 _ rfl; have g2 := HM8.out 2 _ rfl; have g3 := HM8.out 3 _ rfl; have g4 := HM8.out 4 _ rfl; have g5 := HM8.out 5 _ rfl; have g6 := HM8.out 6 _ rfl; have g7 := HM8.out 7 _ rfl; have g8 := HM8.out 8 _ rfl; have g9 := HM8.out 9 _ rfl; have HBX := Aside0.mk (below_alloc (Below.refl w8.heap.size w8) (.cells #[.int .i64 2, .int .i64 e1, .bool true, .int .i64 e3, .int .i64 (e4), .bool true] 39)); have HB9 := Aside0.mk (below_step HB8.out HBX.out); have HO9 := Aside0.mk (Kd.R_below HO8.out HBX.out); have HL9 := Aside0.mk (Kd.R_below HL8.out HBX.out); have HC9 := Aside0.mk (Kd.R_below HC8.out HBX.out); have BK9 := Aside0.mk (blk_new w8 (.cells #[.int .i64 2, .int .i64 e1, .bool true, .int .i64 e3, .int .i64 (e4), .bool true] 39)); have HNE := Aside0.mk (show some w8.heap.size ≠ (Value.slice A3 L.length c3).ownBlock from fun e => by have := Kd.R_lt HL8.out _ e.symm; omega); clear ho hb hg) | (at_builtin; go_loud (refine Kd.R_append k39 (w0 := w) w.heap.size rfl (.tmp 199) (.tmp 201) 22 39 (.agg #[(.int .i64 0), (.int .i64 0), (.bool false), (.int .i64 0), (.int .i64 0), (.bool false)]) 48 rfl Try.underlying22 info39 rfl (by decide) (by omega) (.slice A3 L.length c3) L ⟨2, e1, true, e3, e4, true⟩ [.int .i64 2, .int .i64 e1, .bool true, .int .i64 e3, .int .i64 (e4), .bool true] (fun _ => True) (fun _ => False) rfl (by rw [size_alloc]; rfl) (k39_mkM _ _ _ ⟨2, e1, true, e3, e4, true⟩) (fun _ hk => hk.elim) (fun _ _ => trivial) HL9.out HB9.out (below_size HB9.out) (by omega) ?_); intro v6 w6 ho hb hg hat; obtain ⟨A6, c6, hv6, hc6, _⟩ := Kd.R_reads ho; rw [List.length_append, List.length_singleton] at hv6 hc6; subst hv6; have HL6 := Aside0.mk ho; have HB6 := Aside0.mk hb; have HO6 := Aside0.mk (Kd.R_over HO9.out HL9.out (by decide) hg); have HC6 := Aside0.mk (Kd.R_over HC9.out HL9.out (by decide) hg); have BK6 := Aside0.mk (blk_grown BK9.out hg HNE.out); have d5 := (blk_cell BK6.out 5).trans rfl; have HM6 := Aside0.mk (at_mopc HO6.out hjl); rw [mAt_same _ _ _ hjl] at HM6; have p9 := HM6.out 9 _ rfl; clear ho hb hg hat))
          all_goals
            refine ⟨StoInv.mk ⟨x + 1, by omega, by first | rfl | simp, by rw [HN2.out]; show Value.int _ _ = Value.int _ _; simp only; congr 1; omega, by rw [HN2.out], by rw [HN2.out]; exact HL6, by rw [HN2.out]; exact HO6, by rw [HN2.out]; exact HC6, HB6⟩, ?_⟩
            simp [StoMu, intOf]; omega
        | false =>
          have HN2 : Aside0 (stoN script (x + 1) = ⟨L ++ [⟨2, e1, true, e3, e4, false⟩], O.set j ⟨⟨e0, e1, true, e3, e4, false⟩, true, true, res, ps⟩, ch, sf, n⟩) := ⟨by rw [HX.out]; unfold stoD; simp only; rw [HOo.out]; simp⟩
          go_wp2_with (first | ((with_reducible refine gate_ (.store 4 (.tmp 183) (.const (.bool true))) rfl ?_); refine at_mop (w0 := w) rfl rfl 4 (.tmp 183) (.const (.bool true)) rfl j 7 (by omega) (.bool true) ⟨⟨e0, e1, true, e3, e4, false⟩, true, true, res, ps⟩ rfl rfl rfl (by kernel_rfl) rfl (by rw [HOo.out]; rfl) HOA.out hjl HBWA.out ?_; intro w8 ho hb hg; have HO8 := Aside0.mk ho; have HB8 := Aside0.mk hb; have HL8 := Aside0.mk (Kd.R_over HLA.out HOA.out (by decide) hg); have HC8 := Aside0.mk (Kd.R_over HCA.out HOA.out (by decide) hg); have HM8 := Aside0.mk (at_mopc HO8.out hjl); have g0 := at_mopc0 HO8.out hjl; rw [mAt_same _ _ _ hjl] at HM8 g0; have g1 := HM8.out 1 _ rfl; have g2 := HM8.out 2 _ rfl; have g3 := HM8.out 3 _ rfl; have g4 := HM8.out 4 _ rfl; have g5 := HM8.out 5 _ rfl; have g6 := HM8.out 6 _ rfl; have g7 := HM8.out 7 _ rfl; have g8 := HM8.out 8 _ rfl; have g9 := HM8.out 9 _ rfl; have HBX := Aside0.mk (below_alloc (Below.refl w8.heap.size w8) (.cells #[.int .i64 2, .int .i64 e1, .bool true, .int .i64 e3, .int .i64 (e4), .bool false] 39)); have HB9 := Aside0.mk (below_step HB8.out HBX.out); have HO9 := Aside0.mk (Kd.R_below HO8.out HBX.out); have HL9 := Aside0.mk (Kd.R_below HL8.out HBX.out); have HC9 := Aside0.mk (Kd.R_below HC8.out HBX.out); have BK9 := Aside0.mk (blk_new w8 (.cells #[.int .i64 2, .int .i64 e1, .bool true, .int .i64 e3, .int .i64 (e4), .bool false] 39)); have HNE := Aside0.mk (show some w8.heap.size ≠ (Value.slice A3 L.length c3).ownBlock from fun e => by have := Kd.R_lt HL8.out _ e.symm; omega); clear ho hb hg) | (at_builtin; go_loud (refine Kd.R_append k39 (w0 := w) w.heap.size rfl (.tmp 199) (.tmp 201) 22 39 (.agg #[(.int .i64 0), (.int .i64 0), (.bool false), (.int .i64 0), (.int .i64 0), (.bool false)]) 48 rfl Try.underlying22 info39 rfl (by decide) (by omega) (.slice A3 L.length c3) L ⟨2, e1, true, e3, e4, false⟩ [.int .i64 2, .int .i64 e1, .bool true, .int .i64 e3, .int .i64 (e4), .bool false] (fun _ => True) (fun _ => False) rfl (by rw [size_alloc]; rfl) (k39_mkM _ _ _ ⟨2, e1, true, e3, e4, false⟩) (fun _ hk => hk.elim) (fun _ _ => trivial) HL9.out HB9.out (below_size HB9.out) (by omega) ?_); intro v6 w6 ho hb hg hat; obtain ⟨A6, c6, hv6, hc6, _⟩ := Kd.R_reads ho; rw [List.length_append, List.length_singleton] at hv6 hc6; subst hv6; have HL6 := Aside0.mk ho; have HB6 := Aside0.mk hb; have HO6 := Aside0.mk (Kd.R_over HO9.out HL9.out (by decide) hg); have HC6 := Aside0.mk (Kd.R_over HC9.out HL9.out (by decide) hg); have BK6 := Aside0.mk (blk_grown BK9.out hg HNE.out); have d5 := (blk_cell BK6.out 5).trans rfl; have HM6 := Aside0.mk (at_mopc HO6.out hjl); rw [mAt_same _ _ _ hjl] at HM6; have p9 := HM6.out 9 _ rfl; clear ho hb hg hat))
          refine ⟨StoInv.mk ⟨x + 1, by omega, by first | rfl | simp, by rw [HN2.out], by rw [HN2.out], by rw [HN2.out]; exact HL6, by rw [HN2.out]; exact HO6, by rw [HN2.out]; exact HC6, HB6⟩, ?_⟩
          simp [StoMu, intOf]; omega
      | false =>
        cases e5 with
        | true =>
          have HN2 : Aside0 (stoN script (x + 1) = ⟨L ++ [⟨2, e1, false, e3, res, true⟩], O.set j ⟨⟨e0, e1, false, e3, e4, true⟩, true, true, res, ps⟩, ch, max sf ps, n⟩) := ⟨by rw [HX.out]; unfold stoD; simp only; rw [HOo.out]; simp⟩
          go_wp2_with (first | ((with_reducible refine gate_ (.store 4 (.tmp 183) (.const (.bool true))) rfl ?_); refine at_mop (w0 := w) rfl rfl 4 (.tmp 183) (.const (.bool true)) rfl j 7 (by omega) (.bool true) ⟨⟨e0, e1, false, e3, e4, true⟩, true, true, res, ps⟩ rfl rfl rfl (by kernel_rfl) rfl (by rw [HOo.out]; rfl) HOA.out hjl HBWA.out ?_; intro w8 ho hb hg; have HO8 := Aside0.mk ho; have HB8 := Aside0.mk hb; have HL8 := Aside0.mk (Kd.R_over HLA.out HOA.out (by decide) hg); have HC8 := Aside0.mk (Kd.R_over HCA.out HOA.out (by decide) hg); have HM8 := Aside0.mk (at_mopc HO8.out hjl); have g0 := at_mopc0 HO8.out hjl; rw [mAt_same _ _ _ hjl] at HM8 g0; have g1 := HM8.out 1 _ rfl; have g2 := HM8.out 2 _ rfl; have g3 := HM8.out 3 _ rfl; have g4 := HM8.out 4 _ rfl; have g5 := HM8.out 5 _ rfl; have g6 := HM8.out 6 _ rfl; have g7 := HM8.out 7 _ rfl; have g8 := HM8.out 8 _ rfl; have g9 := HM8.out 9 _ rfl; have HBX := Aside0.mk (below_alloc (Below.refl w8.heap.size w8) (.cells #[.int .i64 2, .int .i64 e1, .bool false, .int .i64 e3, .int .i64 (res), .bool true] 39)); have HB9 := Aside0.mk (below_step HB8.out HBX.out); have HO9 := Aside0.mk (Kd.R_below HO8.out HBX.out); have HL9 := Aside0.mk (Kd.R_below HL8.out HBX.out); have HC9 := Aside0.mk (Kd.R_below HC8.out HBX.out); have BK9 := Aside0.mk (blk_new w8 (.cells #[.int .i64 2, .int .i64 e1, .bool false, .int .i64 e3, .int .i64 (res), .bool true] 39)); have HNE := Aside0.mk (show some w8.heap.size ≠ (Value.slice A3 L.length c3).ownBlock from fun e => by have := Kd.R_lt HL8.out _ e.symm; omega); have HM9 := Aside0.mk (at_mopc (Kd.R_below HO8.out (below_alloc (Below.refl w8.heap.size w8) (.cells #[.int .i64 2, .int .i64 e1, .bool false, .int .i64 e3, .int .i64 e4, .bool true] 39))) hjl); rw [mAt_same _ _ _ hjl] at HM9; have p8 := HM9.out 8 _ rfl; clear ho hb hg) | (at_builtin; go_loud (refine Kd.R_append k39 (w0 := w) w.heap.size rfl (.tmp 199) (.tmp 201) 22 39 (.agg #[(.int .i64 0), (.int .i64 0), (.bool false), (.int .i64 0), (.int .i64 0), (.bool false)]) 48 rfl Try.underlying22 info39 rfl (by decide) (by omega) (.slice A3 L.length c3) L ⟨2, e1, false, e3, res, true⟩ [.int .i64 2, .int .i64 e1, .bool false, .int .i64 e3, .int .i64 (res), .bool true] (fun _ => True) (fun _ => False) rfl (by rw [size_alloc]; rfl) (k39_mkM _ _ _ ⟨2, e1, false, e3, res, true⟩) (fun _ hk => hk.elim) (fun _ _ => trivial) HL9.out HB9.out (below_size HB9.out) (by omega) ?_); intro v6 w6 ho hb hg hat; obtain ⟨A6, c6, hv6, hc6, _⟩ := Kd.R_reads ho; rw [List.length_append, List.length_singleton] at hv6 hc6; subst hv6; have HL6 := Aside0.mk ho; have HB6 := Aside0.mk hb; have HO6 := Aside0.mk (Kd.R_over HO9.out HL9.out (by decide) hg); have HC6 := Aside0.mk (Kd.R_over HC9.out HL9.out (by decide) hg); have BK6 := Aside0.mk (blk_grown BK9.out hg HNE.out); have d5 := (blk_cell BK6.out 5).trans rfl; have HM6 := Aside0.mk (at_mopc HO6.out hjl); rw [mAt_same _ _ _ hjl] at HM6; have p9 := HM6.out 9 _ rfl; clear ho hb hg hat))
          all_goals
            refine ⟨StoInv.mk ⟨x + 1, by omega, by first | rfl | simp, by rw [HN2.out]; show Value.int _ _ = Value.int _ _; simp only; congr 1; omega, by rw [HN2.out], by rw [HN2.out]; exact HL6, by rw [HN2.out]; exact HO6, by rw [HN2.out]; exact HC6, HB6⟩, ?_⟩
            simp [StoMu, intOf]; omega
        | false =>
          have HN2 : Aside0 (stoN script (x + 1) = ⟨L ++ [⟨2, e1, false, e3, res, false⟩], O.set j ⟨⟨e0, e1, false, e3, e4, false⟩, true, true, res, ps⟩, ch, sf, n⟩) := ⟨by rw [HX.out]; unfold stoD; simp only; rw [HOo.out]; simp⟩
          go_wp2_with (first | ((with_reducible refine gate_ (.store 4 (.tmp 183) (.const (.bool true))) rfl ?_); refine at_mop (w0 := w) rfl rfl 4 (.tmp 183) (.const (.bool true)) rfl j 7 (by omega) (.bool true) ⟨⟨e0, e1, false, e3, e4, false⟩, true, true, res, ps⟩ rfl rfl rfl (by kernel_rfl) rfl (by rw [HOo.out]; rfl) HOA.out hjl HBWA.out ?_; intro w8 ho hb hg; have HO8 := Aside0.mk ho; have HB8 := Aside0.mk hb; have HL8 := Aside0.mk (Kd.R_over HLA.out HOA.out (by decide) hg); have HC8 := Aside0.mk (Kd.R_over HCA.out HOA.out (by decide) hg); have HM8 := Aside0.mk (at_mopc HO8.out hjl); have g0 := at_mopc0 HO8.out hjl; rw [mAt_same _ _ _ hjl] at HM8 g0; have g1 := HM8.out 1 _ rfl; have g2 := HM8.out 2 _ rfl; have g3 := HM8.out 3 _ rfl; have g4 := HM8.out 4 _ rfl; have g5 := HM8.out 5 _ rfl; have g6 := HM8.out 6 _ rfl; have g7 := HM8.out 7 _ rfl; have g8 := HM8.out 8 _ rfl; have g9 := HM8.out 9 _ rfl; have HBX := Aside0.mk (below_alloc (Below.refl w8.heap.size w8) (.cells #[.int .i64 2, .int .i64 e1, .bool false, .int .i64 e3, .int .i64 (res), .bool false] 39)); have HB9 := Aside0.mk (below_step HB8.out HBX.out); have HO9 := Aside0.mk (Kd.R_below HO8.out HBX.out); have HL9 := Aside0.mk (Kd.R_below HL8.out HBX.out); have HC9 := Aside0.mk (Kd.R_below HC8.out HBX.out); have BK9 := Aside0.mk (blk_new w8 (.cells #[.int .i64 2, .int .i64 e1, .bool false, .int .i64 e3, .int .i64 (res), .bool false] 39)); have HNE := Aside0.mk (show some w8.heap.size ≠ (Value.slice A3 L.length c3).ownBlock from fun e => by have := Kd.R_lt HL8.out _ e.symm; omega); have HM9 := Aside0.mk (at_mopc (Kd.R_below HO8.out (below_alloc (Below.refl w8.heap.size w8) (.cells #[.int .i64 2, .int .i64 e1, .bool false, .int .i64 e3, .int .i64 e4, .bool false] 39))) hjl); rw [mAt_same _ _ _ hjl] at HM9; have p8 := HM9.out 8 _ rfl; clear ho hb hg) | (at_builtin; go_loud (refine Kd.R_append k39 (w0 := w) w.heap.size rfl (.tmp 199) (.tmp 201) 22 39 (.agg #[(.int .i64 0), (.int .i64 0), (.bool false), (.int .i64 0), (.int .i64 0), (.bool false)]) 48 rfl Try.underlying22 info39 rfl (by decide) (by omega) (.slice A3 L.length c3) L ⟨2, e1, false, e3, res, false⟩ [.int .i64 2, .int .i64 e1, .bool false, .int .i64 e3, .int .i64 (res), .bool false] (fun _ => True) (fun _ => False) rfl (by rw [size_alloc]; rfl) (k39_mkM _ _ _ ⟨2, e1, false, e3, res, false⟩) (fun _ hk => hk.elim) (fun _ _ => trivial) HL9.out HB9.out (below_size HB9.out) (by omega) ?_); intro v6 w6 ho hb hg hat; obtain ⟨A6, c6, hv6, hc6, _⟩ := Kd.R_reads ho; rw [List.length_append, List.length_singleton] at hv6 hc6; subst hv6; have HL6 := Aside0.mk ho; have HB6 := Aside0.mk hb; have HO6 := Aside0.mk (Kd.R_over HO9.out HL9.out (by decide) hg); have HC6 := Aside0.mk (Kd.R_over HC9.out HL9.out (by decide) hg); have BK6 := Aside0.mk (blk_grown BK9.out hg HNE.out); have d5 := (blk_cell BK6.out 5).trans rfl; have HM6 := Aside0.mk (at_mopc HO6.out hjl); rw [mAt_same _ _ _ hjl] at HM6; have p9 := HM6.out 9 _ rfl; clear ho hb hg hat))
          refine ⟨StoInv.mk ⟨x + 1, by omega, by first | rfl | simp, by rw [HN2.out], by rw [HN2.out], by rw [HN2.out]; exact HL6, by rw [HN2.out]; exact HO6, by rw [HN2.out]; exact HC6, HB6⟩, ?_⟩
          simp [StoMu, intOf]; omega
end Go.Proofs.Ytidghmgaaenihaa.Q

/-! part RStoC7 -/
namespace Go.Proofs.Ytidghmgaaenihaa.Q
open Go.RowKit Go.Proofs.YtidghmgaaenihaaW.PrintWords Go.Proofs.YtidghmgaaenihaaW.PrintLast Go.Proofs.YtidghmgaaenihaaW.PrintMore
set_option linter.unusedVariables false
set_option linter.unusedSimpArgs false
set_option maxHeartbeats 40000000 in
set_option maxRecDepth 1000000 in
theorem sto_case7 {script : List S100} {w wr : World} {ad : Addr} {c x : Nat} {k r q : Int} {L : List S39} {O : List MOp} {ch : List (Int × Int)} {sf n : Int} {A3 : Option Addr} {c3 : Nat} {A4 : Option Addr} {c4 : Nat} {A5 : Option Addr} {c5 : Nat} {Qx : Exit → Act → World → Prop}
    {u9 u10 u11 u12 u13 u14 u15 u16 u17 u18 u19 u20 u21 u22 u23 u24 u25 u26 u27 u28 u29 u30 u31 u32 u33 u34 u35 u36 u37 u38 u39 u40 u41 u42 u43 u44 u45 u46 u47 u48 u49 u50 u51 u52 u53 u54 u55 u56 u57 u58 u59 u60 u61 u62 u63 u64 u65 u66 u67 u68 u69 u70 u71 u72 u73 u74 u75 u76 u77 u78 u79 u80 u81 u82 u83 u84 u85 u86 u87 u88 u89 u90 u91 u92 u93 u94 u95 u96 u97 u98 u99 u100 u101 u102 u103 u104 u105 u106 u107 u108 u109 u110 u111 u112 u113 u114 u115 u116 u117 u118 u119 u120 u121 u122 u123 u124 u125 u126 u127 u128 u129 u130 u131 u132 u133 u134 u135 u136 u137 u138 u139 u140 u141 u142 u143 u144 u145 u146 u147 u148 u149 u150 u151 u152 u153 u154 u155 u156 u157 u158 u159 u160 u161 u162 u163 u164 u165 u166 u167 u168 u169 u170 u171 u172 u173 u174 u175 u176 u177 u178 u179 u180 u181 u182 u183 u184 u185 u186 u187 u188 u189 u190 u191 u192 u193 u194 u195 u196 u197 u198 u199 u200 u201 u202 u203 u204 u205 u206 u207 u208 u209 u210 u211 : Value} (H : StoHead script w wr ad c x k r q L O ch sf n A3 c3 A4 c4 A5 c5) (h : k % 8 = 7) :
    Code.wp Try.prog body27 (Exit.then (fun a' w' => StoInv script w (some ad) c a' w' ∧ StoMu script a' < StoMu script ⟨#[.slice (some ad) script.length c, undef, .slice none 0 0, .slice A3 L.length c3, .slice A4 O.length c4, .slice A5 ch.length c5, .int .i64 sf, .int .i64 n, .int .i64 x, u9, u10, u11, u12, u13, u14, u15, u16, u17, u18, u19, u20, u21, u22, u23, u24, u25, u26, u27, u28, u29, u30, u31, u32, u33, u34, u35, u36, u37, u38, u39, u40, u41, u42, u43, u44, u45, u46, u47, u48, u49, u50, u51, u52, u53, u54, u55, u56, u57, u58, u59, u60, u61, u62, u63, u64, u65, u66, u67, u68, u69, u70, u71, u72, u73, u74, u75, u76, u77, u78, u79, u80, u81, u82, u83, u84, u85, u86, u87, u88, u89, u90, u91, u92, u93, u94, u95, u96, u97, u98, u99, u100, u101, u102, u103, u104, u105, u106, u107, u108, u109, u110, u111, u112, u113, u114, u115, u116, u117, u118, u119, u120, u121, u122, u123, u124, u125, u126, u127, u128, u129, u130, u131, u132, u133, u134, u135, u136, u137, u138, u139, u140, u141, u142, u143, u144, u145, u146, u147, u148, u149, u150, u151, u152, u153, u154, u155, u156, u157, u158, u159, u160, u161, u162, u163, u164, u165, u166, u167, u168, u169, u170, u171, u172, u173, u174, u175, u176, u177, u178, u179, u180, u181, u182, u183, u184, u185, u186, u187, u188, u189, u190, u191, u192, u193, u194, u195, u196, u197, u198, u199, u200, u201, u202, u203, u204, u205, u206, u207, u208, u209, u210, u211, undef], []⟩) Qx) ⟨#[.slice (some ad) script.length c, undef, .slice none 0 0, .slice A3 L.length c3, .slice A4 O.length c4, .slice A5 ch.length c5, .int .i64 sf, .int .i64 n, .int .i64 x, u9, u10, u11, u12, u13, u14, u15, u16, u17, u18, u19, u20, u21, u22, u23, u24, u25, u26, u27, u28, u29, u30, u31, u32, u33, u34, u35, u36, u37, u38, u39, u40, u41, u42, u43, u44, u45, u46, u47, u48, u49, u50, u51, u52, u53, u54, u55, u56, u57, u58, u59, u60, u61, u62, u63, u64, u65, u66, u67, u68, u69, u70, u71, u72, u73, u74, u75, u76, u77, u78, u79, u80, u81, u82, u83, u84, u85, u86, u87, u88, u89, u90, u91, u92, u93, u94, u95, u96, u97, u98, u99, u100, u101, u102, u103, u104, u105, u106, u107, u108, u109, u110, u111, u112, u113, u114, u115, u116, u117, u118, u119, u120, u121, u122, u123, u124, u125, u126, u127, u128, u129, u130, u131, u132, u133, u134, u135, u136, u137, u138, u139, u140, u141, u142, u143, u144, u145, u146, u147, u148, u149, u150, u151, u152, u153, u154, u155, u156, u157, u158, u159, u160, u161, u162, u163, u164, u165, u166, u167, u168, u169, u170, u171, u172, u173, u174, u175, u176, u177, u178, u179, u180, u181, u182, u183, u184, u185, u186, u187, u188, u189, u190, u191, u192, u193, u194, u195, u196, u197, u198, u199, u200, u201, u202, u203, u204, u205, u206, u207, u208, u209, u210, u211, undef], []⟩ wr := by
  obtain ⟨HR, hc, hsz, hlt, s0, s1, s2, k0, k1, r0, r1, q0, q1, HN, bl, bo, bc, bn0, bn1, HL, HO, HC, HC4, HC5, hc3, hc4, hc5, sf0, sf1, HB⟩ := H
  have hx : x ≤ script.length := by omega
  have hltb : (x : Int) < (script.length : Int) := by omega
  have hx0 : (0 : Int) ≤ x := by omega
  have hxb : (x : Int) < 1000 := by omega
  have hkk : 0 ≤ k % 8 := by omega
  have hrm := Int.emod_nonneg r (show (4 : Int) ≠ 0 by decide)
  have hrl := Int.emod_lt_of_pos r (show (0 : Int) < 4 by decide)
  have hjm : O.length ≠ 0 → 0 ≤ q % (O.length : Int) ∧ q % (O.length : Int) < O.length := fun h => ⟨Int.emod_nonneg _ (by omega), Int.emod_lt_of_pos _ (by omega)⟩
  have HJM := Aside0.mk hjm
  clear hjm
  conv => arg 2; whnf
  obtain ⟨kp, hkp⟩ : ∃ kp : Nat, sf + q % ((ch.length : Int) - sf + 1) = kp := ⟨(sf + q % ((ch.length : Int) - sf + 1)).toNat, by have := Int.emod_nonneg q (show (ch.length : Int) - sf + 1 ≠ 0 by omega); omega⟩
  have hm0 := Int.emod_nonneg q (show (ch.length : Int) - sf + 1 ≠ 0 by omega)
  have hm1 := Int.emod_lt_of_pos q (show (0 : Int) < (ch.length : Int) - sf + 1 by omega)
  have hkl : kp ≤ ch.length := by omega
  have HN2 : Aside0 (stoN script (x + 1) = ⟨L ++ [cutE], [], ch.take kp, (kp : Int), n⟩) := ⟨by rw [HN.out]; unfold stoStep; simp only; rw [if_neg (by omega), if_neg (by omega), if_neg (by omega)]; unfold stoC; simp only; rw [hkp]; simp⟩
  clear HN
  obtain ⟨i018, hi018, _, hsz18, _⟩ := info_parts info104
  have hcutT := cut_to (P := Try.prog) 98 104 .i64 Try.underlying98 hi018 A5 ch.length c5 (kp : Int) (by omega) (by omega) hc5
  have HCT := Aside0.mk (show Kd.R k104 104 wr w.heap.size (fun _ => True) (.slice A5 kp c5) (chS (ch.take kp)) by rw [chS_take]; exact Kd.R_take HC.out (by rw [chS_len]; exact hkl))
  have HKP := Aside0.mk hkp
  have hd0 : 0 ≤ (ch.length : Int) - sf := by omega
  have hd1 : (ch.length : Int) - sf ≤ 1000 := by omega
  have HBA := Aside0.mk (below_alloc (Below.refl wr.heap.size wr) (.cells #[.int .u8 k, .int .u8 r, .int .u8 q] 100))
  have HLA := Aside0.mk (Kd.R_below HL.out HBA.out)
  have HCA := Aside0.mk (Kd.R_below HCT.out HBA.out)
  have HBWA := Aside0.mk (below_step HB.out HBA.out)
  by_cases hol : O.length = 0
  · have holb : ¬ ((O.length : Int) > 0) := by omega
    clear hol
    go_wp2_with (at_builtin; go_loud (refine Kd.R_append k39 (w0 := w) w.heap.size rfl (.tmp 51) (.tmp 53) 22 39 (.agg #[(.int .i64 0), (.int .i64 0), (.bool false), (.int .i64 0), (.int .i64 0), (.bool false)]) 48 rfl Try.underlying22 info39 rfl (by decide) (by omega) (.slice A3 L.length c3) L cutE [.int .i64 3, .int .i64 0, .bool false, .int .i64 0, .int .i64 0, .bool false] (fun _ => True) (fun _ => False) rfl (by rw [size_alloc]; rfl) (k39_mkM _ _ _ cutE) (fun _ hk => hk.elim) (fun _ _ => trivial) HLA.out HBWA.out (below_size HBWA.out) (by omega) ?_); intro v6 w6 ho hb hg hat; obtain ⟨A6, c6, hv6, hc6, _⟩ := Kd.R_reads ho; rw [List.length_append, List.length_singleton] at hv6 hc6; subst hv6; have HL6 := Aside0.mk ho; have HB6 := Aside0.mk hb; have HC6 := Aside0.mk (Kd.R_over HCA.out HLA.out (by decide) hg); clear ho hb hg hat)
    refine ⟨StoInv.mk ⟨x + 1, by omega, by first | rfl | simp, by rw [HN2.out], by rw [HN2.out], by rw [HN2.out]; exact HL6, by rw [HN2.out]; exact ⟨Kd.R_nil _ _ _ _ _⟩, by rw [HN2.out]; exact HC6, HB6⟩, ?_⟩
    simp [StoMu, intOf]; omega
  · have holb : (O.length : Int) > 0 := by omega
    obtain ⟨j0, j1⟩ := HJM.out hol
    clear hol
    go_wp2_with (at_builtin; go_loud (refine Kd.R_append k39 (w0 := w) w.heap.size rfl (.tmp 51) (.tmp 53) 22 39 (.agg #[(.int .i64 0), (.int .i64 0), (.bool false), (.int .i64 0), (.int .i64 0), (.bool false)]) 48 rfl Try.underlying22 info39 rfl (by decide) (by omega) (.slice A3 L.length c3) L cutE [.int .i64 3, .int .i64 0, .bool false, .int .i64 0, .int .i64 0, .bool false] (fun _ => True) (fun _ => False) rfl (by rw [size_alloc]; rfl) (k39_mkM _ _ _ cutE) (fun _ hk => hk.elim) (fun _ _ => trivial) HLA.out HBWA.out (below_size HBWA.out) (by omega) ?_); intro v6 w6 ho hb hg hat; obtain ⟨A6, c6, hv6, hc6, _⟩ := Kd.R_reads ho; rw [List.length_append, List.length_singleton] at hv6 hc6; subst hv6; have HL6 := Aside0.mk ho; have HB6 := Aside0.mk hb; have HC6 := Aside0.mk (Kd.R_over HCA.out HLA.out (by decide) hg); clear ho hb hg hat)
    refine ⟨StoInv.mk ⟨x + 1, by omega, by first | rfl | simp, by rw [HN2.out], by rw [HN2.out], by rw [HN2.out]; exact HL6, by rw [HN2.out]; exact ⟨Kd.R_nil _ _ _ _ _⟩, by rw [HN2.out]; exact HC6, HB6⟩, ?_⟩
    simp [StoMu, intOf]; omega
end Go.Proofs.Ytidghmgaaenihaa.Q

/-! part RSto -/
namespace Go.Proofs.Ytidghmgaaenihaa.Q
open Go.RowKit Go.Proofs.YtidghmgaaenihaaW.PrintWords Go.Proofs.YtidghmgaaenihaaW.PrintLast Go.Proofs.YtidghmgaaenihaaW.PrintMore
set_option linter.unusedVariables false
set_option linter.unusedSimpArgs false
set_option maxHeartbeats 40000000 in
set_option maxRecDepth 100000 in
theorem storage_ref (A : Option Addr) (c : Nat) (script : List S100) (w : World) (hr : Kd.C k100 w A script.length script) (hc : script.length ≤ c) (hok : ∀ x ∈ script, okAct47 x) (hsz : script.length ≤ 1000) :
    Calls Try.prog 27 #[.slice A script.length c] w (StoPost script w) := by
  have HR := Aside0.mk hr
  have HA := Aside0.mk hok
  clear hr hok
  go_enter Try.func27, Try.ntmps27
  go_wp2
  go_loopw [3, 4, 5, 6, 7, 8, 9, 10, 11, 12, 13] (fun v3 v4 v5 v6 v7 v8 _ _ _ _ _ wr => ∃ x : Nat, x ≤ script.length ∧ v8 = .int .i64 x ∧ v6 = .int .i64 (stoN script x).safe ∧ v7 = .int .i64 (stoN script x).n ∧ Aside0 (Kd.R k39 39 wr w.heap.size (fun _ => True) v3 (stoN script x).l) ∧ Aside0 (Kd.R k102 102 wr w.heap.size (fun _ => True) v4 (stoN script x).ops) ∧ Aside0 (Kd.R k104 104 wr w.heap.size (fun _ => True) v5 (chS (stoN script x).ch)) ∧ Aside0 (Below w.heap.size w wr))
    (fun _ _ _ _ _ v8 _ _ _ _ _ _ => script.length - (intOf v8).toNat)
  case atStart => exact ⟨0, by omega, rfl, rfl, rfl, ⟨Kd.R_nil _ _ _ _ _⟩, ⟨Kd.R_nil _ _ _ _ _⟩, ⟨Kd.R_nil _ _ _ _ _⟩, ⟨Below.refl _ _⟩⟩
  case round =>
    obtain ⟨x, hx, rfl, rfl, rfl, HL, HO, HC, HB⟩ := hrel
    by_cases hlt : x < script.length
    · have hltb : (x : Int) < (script.length : Int) := by omega
      have hx0 : (0 : Int) ≤ x := by omega
      have hxb : (x : Int) < 1000 := by omega
      have HN := Aside0.mk (stoN_succ script hlt)
      have HSB := Aside0.mk (stoB script x hx)
      have HOK := Aside0.mk (stoN_ok HA.out x hx)
      obtain ⟨s, HSt⟩ : ∃ s, Aside0 (stoN script x = s) := ⟨_, ⟨rfl⟩⟩
      rw [HSt.out] at HL HO HC HN HSB HOK ⊢
      obtain ⟨ad, eA, s0, s1, s2⟩ := at_T100 (Kd.C_below HR.out HB.out) x hx0 hltb
      subst eA
      obtain ⟨a, HE⟩ : ∃ a, Aside0 (rd_T100 script (x : Int) = a) := ⟨_, ⟨rfl⟩⟩
      have HAA := Aside0.mk (HA.out _ (show rd_T100 script (x : Int) ∈ script by simp [rd_T100, List.getD_eq_getElem?_getD, hlt]))
      rw [HE.out] at s0 s1 s2 HAA HN
      obtain ⟨k, r, q⟩ := a
      simp only [Int.toNat_natCast] at s0 s1 s2
      obtain ⟨⟨k0, k1⟩, ⟨r0, r1⟩, ⟨q0, q1⟩⟩ := HAA.out
      simp only at k0 k1 r0 r1 q0 q1
      obtain ⟨L, O, ch, sf, n⟩ := s
      obtain ⟨bl, bo, bc, bn0, bn1⟩ := HSB.out
      simp only at bl bo bc bn0 bn1 HL HO HC ⊢
      obtain ⟨A3, c3, rfl, hc3, _⟩ := Kd.R_reads HL.out
      obtain ⟨A4, c4, rfl, hc4, hC4⟩ := Kd.R_reads HO.out
      obtain ⟨A5, c5, rfl, hc5, hC5⟩ := Kd.R_reads HC.out
      have HC4 := Aside0.mk hC4
      rw [chS_len] at hC5
      have HC5 := Aside0.mk hC5
      rw [chS_len] at hc5 HC ⊢
      clear hC4 hC5
      have hsafe : 0 ≤ sf ∧ sf ≤ (ch.length : Int) := by
        obtain ⟨P, era, base, C, safe, snap, hI, h1, h2, h3⟩ := HOK.out
        have := hI.sle
        simp only at h1 h2
        rw [h1, h2]; simp [chOf]; omega
      obtain ⟨sf0, sf1⟩ := hsafe
      have hcs : k % 8 = 0 ∨ k % 8 = 1 ∨ k % 8 = 2 ∨ k % 8 = 3 ∨ k % 8 = 4 ∨ k % 8 = 5 ∨ k % 8 = 6 ∨ k % 8 = 7 := by omega
      have HH : StoHead script w wr ad c x k r q L O ch sf n A3 c3 A4 c4 A5 c5 := ⟨HR, hc, hsz, hlt, s0, s1, s2, k0, k1, r0, r1, q0, q1, HN, bl, bo, bc, bn0, bn1, HL, HO, HC, HC4, HC5, hc3, hc4, hc5, sf0, sf1, HB⟩
      rcases hcs with h | h | h | h | h | h | h | h
      · exact sto_case0 HH h
      · exact sto_case1 HH h
      · exact sto_case2 HH h
      · exact sto_case3 HH h
      · exact sto_case4 HH h
      · exact sto_case5 HH h
      · exact sto_case6 HH h
      · exact sto_case7 HH h
    · obtain rfl : x = script.length := by omega
      go_wp2
      go_ret
      exact ⟨_, rfl, HL.out, HB.out⟩
end Go.Proofs.Ytidghmgaaenihaa.Q

/-! part PLaw9 -/
namespace Go.Proofs.Ytidghmgaaenihaa.Q
open Go.RowKit Go.Proofs.YtidghmgaaenihaaW.PrintWords Go.Proofs.YtidghmgaaenihaaW.PrintLast Go.Proofs.YtidghmgaaenihaaW.PrintMore
set_option linter.unusedVariables false
set_option linter.unusedSimpArgs false
theorem awake47_true9 : tegulalaw47_awake.f = some true := by rfl
theorem check_of {l : List S39} {fs : List S32} (h : checkQ l = (fs, 0)) : (checkP l).1.map to32 = fs ∧ (checkP l).2 = 0 := by
  rw [checkQ_eq] at h
  exact ⟨congrArg Prod.fst h, congrArg Prod.snd h⟩
end Go.Proofs.Ytidghmgaaenihaa.Q

/-! part HRange -/
namespace Go.Proofs.Ytidghmgaaenihaa.Q
open Go.RowKit Go.Proofs.YtidghmgaaenihaaW.PrintWords Go.Proofs.YtidghmgaaenihaaW.PrintLast Go.Proofs.YtidghmgaaenihaaW.PrintMore
set_option linter.unusedVariables false
set_option linter.unusedSimpArgs false

/-- The entries' stamps are their places. -/
def StampAt (es : List MapEntry) : Prop := ∀ (j : Nat) (e : MapEntry), es[j]? = some e → e.born = j
/-- A range under way: 'vis' are the places of the entries that came. -/
structure MapIt (w : World) (B r : Nat) (es : List MapEntry) (vis : List Nat) : Prop where
  blk : w.heap[B]? = some (.map es.toArray es.length)
  it : ∃ c0, es.length ≤ c0 ∧ w.heap[r]? = some (.mapIter (some B) es.length vis.toArray c0)
  st : StampAt es
  nd : vis.Nodup
  lt : ∀ j ∈ vis, j < es.length
section
variable {P : Program} {w w1 : World} {B r : Nat} {es : List MapEntry} {vis : List Nat}
theorem MapIt.below (h : MapIt w B r es vis) (hb : Below w.heap.size w w1) : MapIt w1 B r es vis := by
  obtain ⟨c0, hc, hr⟩ := h.it
  exact ⟨blk_old h.blk hb, ⟨c0, hc, blk_old hr hb⟩, h.st, h.nd, h.lt⟩
variable {ops : Array Oper} {rest : List Oper} {o : Oper} {a : Act} {Q : Exit → Act → World → Prop}
end
end Go.Proofs.Ytidghmgaaenihaa.Q

/-! part HPend -/
namespace Go.Proofs.Ytidghmgaaenihaa.Q
open Go.RowKit Go.Proofs.YtidghmgaaenihaaW.PrintWords Go.Proofs.YtidghmgaaenihaaW.PrintLast Go.Proofs.YtidghmgaaenihaaW.PrintMore
set_option linter.unusedVariables false
set_option linter.unusedSimpArgs false

end Go.Proofs.Ytidghmgaaenihaa.Q

/-! part PRegs -/
namespace Go.Proofs.Ytidghmgaaenihaa.Q
open Go.RowKit
set_option linter.unusedVariables false
end Go.Proofs.Ytidghmgaaenihaa.Q

/-! part RInsert -/
namespace Go.Proofs.Ytidghmgaaenihaa.Q
open Go.RowKit Go.Proofs.YtidghmgaaenihaaW.PrintWords Go.Proofs.YtidghmgaaenihaaW.PrintLast Go.Proofs.YtidghmgaaenihaaW.PrintMore
set_option linter.unusedVariables false
set_option linter.unusedSimpArgs false
theorem rdI_at {l : List Int} {x : Int} (h0 : 0 ≤ x) (h : x < l.length) : rd l x = l[x.toNat]'(by omega) := by
  simp [rd, List.getD_eq_getElem?_getD, show x.toNat < l.length by omega]
/-- What insert answers. -/
structure Ins (l : List Int) (x : Int) (r : List Int) : Prop where
  inc : r.Pairwise (fun a b => a < b)
  mem : ∀ y, y ∈ r ↔ (y = x ∨ y ∈ l)
  len : r.length ≤ l.length + 1
theorem Ins.same {l : List Int} {k : Int} (hi : l.Pairwise (fun a b => a < b)) (h0 : 0 ≤ k) (h : k < l.length) {x : Int} (hx : rd l k = x) : Ins l x l :=
  ⟨hi, fun y => ⟨.inr, fun h2 => by
    rcases h2 with rfl | h2
    · rw [← hx, rdI_at h0 h]; exact List.getElem_mem _
    · exact h2⟩, by omega⟩
section
variable {ops : Array Oper} {o : Oper} {a : Act} {Q : Exit → Act → World → Prop} {Kc : Act → World → Prop}
end
end Go.Proofs.Ytidghmgaaenihaa.Q

/-! part HOpen2 -/
namespace Go.Proofs.Ytidghmgaaenihaa.Q
open Go.RowKit Go.Proofs.YtidghmgaaenihaaW.PrintWords Go.Proofs.YtidghmgaaenihaaW.PrintLast Go.Proofs.YtidghmgaaenihaaW.PrintMore
open Go.ChangeShapes Go.WideShapes Go.Deep Go.WideMaps
set_option linter.unusedVariables false
theorem u8_range {a : Int} (h : (Lit.int .u8 a).wf = true) : 0 ≤ a ∧ a < 256 := by
  have h2 : IntKind.u8.min ≤ a ∧ a ≤ IntKind.u8.max := by simpa [Lit.wf] using h
  have e1 : IntKind.u8.min = 0 := by decide
  have e2 : IntKind.u8.max = 255 := by decide
  omega
end Go.Proofs.Ytidghmgaaenihaa.Q

/-! part PInv -/
namespace Go.Proofs.Ytidghmgaaenihaa.Q
open Go.RowKit
set_option linter.unusedVariables false
set_option linter.unusedSimpArgs false
theorem findIdx_congr {α : Type} {p q : α → Bool} : ∀ {l : List α}, (∀ o ∈ l, p o = q o) → l.findIdx? p = l.findIdx? q
  | [], _ => rfl
  | a :: l, h => by
    rw [List.findIdx?_cons, List.findIdx?_cons, h a (List.mem_cons_self ..), findIdx_congr (fun o ho => h o (List.mem_cons_of_mem _ ho))]
theorem any_congr {α : Type} {p q : α → Bool} {l : List α} (h : ∀ o ∈ l, p o = q o) : l.any p = l.any q := by
  rw [Bool.eq_iff_iff, List.any_eq_true, List.any_eq_true]
  constructor
  · rintro ⟨a, ha, hp⟩; exact ⟨a, ha, by rw [← h a ha]; exact hp⟩
  · rintro ⟨a, ha, hp⟩; exact ⟨a, ha, by rw [h a ha]; exact hp⟩
def phi (x : Int) (o : S60) : S60 := if o.f0 = x then { o with f2 := 1000 } else o
def badE (e : S39) : S39 := { e with f4 := 1000 }
theorem phi_st (x : Int) (o : S60) : (phi x o).f0 = o.f0 ∧ (phi x o).f1 = o.f1 ∧ (phi x o).f3 = o.f3 ∧ (phi x o).f4 = o.f4 ∧ (phi x o).f5 = o.f5 ∧ (phi x o).f6 = o.f6 ∧ (phi x o).f7 = o.f7 := by
  unfold phi; split <;> simp
theorem at?_phi (Q : List S60) (x id : Int) : at? (Q.map (phi x)) id = at? Q id := by
  unfold at?
  rw [List.findIdx?_map]
  congr 1
  funext o
  simp [(phi_st x o).1]
theorem opAt_phi {Q : List S60} (x : Int) {j : Nat} (hj : j < Q.length) : opAt (Q.map (phi x)) j = phi x (opAt Q j) := by
  rw [opAt_get (by simpa using hj), opAt_get hj, List.getElem_map]
theorem pstep_congr {l l' : List S39} {i : Int} {e : S39} {s : List S60 × Int} (h : ∀ o ∈ s.1, rd_T39 l' o.f6 = rd_T39 l o.f6) : pstep l' i e s = pstep l i e s := by
  unfold pstep
  cases ha : at? s.1 e.f1 with
  | none => rfl
  | some j =>
    simp only
    rw [h _ (at?_some ha).2.2]
theorem pstep_phi {l l' : List S39} {i : Int} {e : S39} {Q Q' : List S60} {era era' x : Int} (h : pstep l i e (Q, era) = some (Q', era')) (hx : ∃ o ∈ Q, o.f0 = x ∧ 0 ≤ o.f7) (hn : Q.Pairwise (fun a b => a.f0 ≠ b.f0)) (hr : ∀ o ∈ Q, rd_T39 l' o.f6 = rd_T39 l o.f6) :
    pstep l' i e (Q.map (phi x), era) = some (Q'.map (phi x), era') := by
  obtain ⟨o0, ho0, hx0, h70⟩ := hx
  unfold pstep at h ⊢
  simp only at h ⊢
  rw [at?_phi]
  split at h
  · rename_i h1
    rw [if_pos h1]
    split at h
    · cases h
    · rename_i hnone
      split at h
      · rename_i hp
        rw [if_pos hp]
        cases h
        have : phi x (newOp e era i) = newOp e era i := by
          unfold phi
          rw [if_neg (fun q => at?_none hnone o0 ho0 (by rw [hx0, ← q]; rfl))]
        rw [List.map_append, List.map_cons, List.map_nil, this]
      · cases h
  · rename_i h1
    rw [if_neg h1]
    split at h
    · rename_i h2
      rw [if_pos h2]
      split at h
      · cases h
      · rename_i j hj
        obtain ⟨j1, j2, j3⟩ := at?_some hj
        rw [opAt_phi x j1, (phi_st x _).2.2.2.2.2.2, (phi_st x _).2.2.2.2.1, (phi_st x _).2.2.2.2.2.1]
        split at h
        · cases h
        · rename_i h7
          rw [if_neg h7]
          have hne : (opAt Q j).f0 ≠ x := fun q => by
            obtain ⟨a, ha, he⟩ := mem_opAt ho0
            have e1 : at? Q x = some a := at?_is hn ha (by rw [← he]; exact hx0)
            have e2 : at? Q x = some j := at?_is hn j1 q
            rw [e1] at e2
            cases e2
            rw [← he] at h7
            exact h7 h70
          have hp1 : phi x (opAt Q j) = opAt Q j := by unfold phi; rw [if_neg hne]
          split at h
          · rename_i h5
            rw [if_pos h5, hr _ j3]
            split at h
            · rename_i ha
              rw [if_pos ha]
              cases h
              rw [hp1, List.map_set]
              congr 2
              have : phi x (doneOp (opAt Q j) e i) = doneOp (opAt Q j) e i := by unfold phi; rw [if_neg (show ¬ (doneOp (opAt Q j) e i).f0 = x from hne)]
              rw [this]
            · cases h
          · cases h
    · rename_i h2
      rw [if_neg h2]
      split at h
      · rename_i h3
        rw [if_pos h3]
        split at h
        · rename_i hc
          rw [if_pos hc]
          cases h
          rfl
        · cases h
      · cases h
theorem rd_set (l : List S39) (k : Nat) (e : S39) {i : Int} (h0 : 0 ≤ i) (hne : i ≠ k) : rd_T39 (l.set k e) i = rd_T39 l i := by
  unfold rd_T39
  rw [List.getD_eq_getElem?_getD, List.getD_eq_getElem?_getD, List.getElem?_set, if_neg (by omega)]
theorem rd_set_same (l : List S39) {k : Nat} (e : S39) (hk : k < l.length) : rd_T39 (l.set k e) (k : Int) = e := by
  unfold rd_T39
  rw [List.getD_eq_getElem?_getD, Int.toNat_natCast, List.getElem?_set, if_pos rfl, if_pos hk]; rfl
/-- The parse of a history in which the result of a read was replaced. -/
theorem parse_bad {l : List S39} {P : List S60} {era : Int} (h : parseP l = some (P, era)) {k : Nat} (hk : k < l.length) (h0 : (rd_T39 l (k : Int)).f0 = 2) (h2 : (rd_T39 l (k : Int)).f2 = false) (h5 : (rd_T39 l (k : Int)).f5 = false) :
    parseP (l.set k (badE (rd_T39 l (k : Int)))) = some (P.map (phi (rd_T39 l (k : Int)).f1), era) ∧ ∃ o ∈ P, o.f0 = (rd_T39 l (k : Int)).f1 ∧ o.f3 = false ∧ o.f4 = false ∧ 0 ≤ o.f7 := by
  obtain ⟨e, he⟩ : ∃ e, rd_T39 l (k : Int) = e := ⟨_, rfl⟩
  rw [he] at h0 h2 h5 ⊢
  -- the calls are not at place k
  have hcall : ∀ n, n ≤ l.length → ∀ s, ptake l n = some s → ∀ o ∈ s.1, rd_T39 (l.set k (badE e)) o.f6 = rd_T39 l o.f6 := by
    intro n hn s hs o ho
    have hc := (ptake_inv l n hs).call o ho
    refine rd_set _ _ _ hc.1 (fun q => ?_)
    obtain ⟨i, hi, h6, hci, hf, _⟩ := (tinv l n hn s hs).1.ops o ho
    unfold findI at hf
    split at hf
    · rename_i j hj
      obtain ⟨j1, j2, _⟩ := List.findIdx?_eq_some_iff_getElem.1 hj
      have e1 : j = k := by omega
      subst e1
      rw [List.getElem_take] at j2
      unfold isEv at j2
      rw [Bool.and_eq_true] at j2
      have hr : rd_T39 l (j : Int) = l[j]'hk := by rw [rd39_at (by omega) (by omega)]; simp
      rw [← hr, he] at j2
      have := j2.1
      simp at this
      omega
    · omega
  have hlow : ∀ n, n ≤ k → ptake (l.set k (badE e)) n = ptake l n := by
    intro n
    induction n with
    | zero => intro _; rfl
    | succ n ih =>
      intro hn
      rw [ptake, ptake, ih (by omega), rd_set _ _ _ (by omega) (by omega)]
      cases hs : ptake l n with
      | none => rfl
      | some s => exact pstep_congr (hcall n (by omega) s hs)
  have hhigh : ∀ d s, k + 1 + d ≤ l.length → ptake l (k + 1 + d) = some s → ptake (l.set k (badE e)) (k + 1 + d) = some (s.1.map (phi e.f1), s.2) ∧ ∃ o ∈ s.1, o.f0 = e.f1 ∧ o.f3 = false ∧ o.f4 = false ∧ 0 ≤ o.f7 := by
    intro d
    induction d with
    | zero =>
      intro s hd hs
      rw [Nat.add_zero] at hs ⊢
      rw [ptake] at hs ⊢
      rw [hlow k (Nat.le_refl _), rd_set_same _ _ hk]
      cases hq : ptake l k with
      | none => rw [hq] at hs; cases hs
      | some q =>
        rw [hq, he] at hs
        have I := ptake_inv l k hq
        have hc := hcall k (by omega) q hq
        obtain ⟨Q, er⟩ := q
        have hs' : pstep l k e (Q, er) = some s := hs
        show pstep _ _ _ (Q, er) = _ ∧ _
        unfold pstep at hs' ⊢
        rw [if_neg (by omega), if_pos h0] at hs'
        rw [if_neg (show ¬ (badE e).f0 = 1 by show ¬ e.f0 = 1; omega), if_pos (show (badE e).f0 = 2 from h0)]
        simp only at hs' ⊢ hc I
        have hb1 : (badE e).f1 = e.f1 := rfl
        rw [hb1]
        split at hs'
        · cases hs'
        · rename_i j hj
          obtain ⟨j1, j2, j3⟩ := at?_some hj
          split at hs'
          · cases hs'
          · rename_i h7
            rw [if_neg h7]
            split at hs'
            · rename_i h55
              rw [if_pos h55, hc _ j3]
              split at hs'
              · rename_i ha
                have hab : answersB (badE e) (rd_T39 l (opAt Q j).f6) = true := by
                  unfold answersB at ha ⊢
                  simp only [Bool.and_eq_true, beq_iff_eq] at ha ⊢
                  obtain ⟨⟨⟨⟨a1, a2⟩, a3⟩, a4⟩, a5⟩ := ha
                  refine ⟨⟨⟨⟨a1, a2⟩, a3⟩, ?_⟩, a5⟩
                  show (_ || (!e.f2 && !e.f5)) = true
                  rw [h2, h5]; simp
                rw [if_pos hab]
                cases hs'
                have hcq := call_event (l := l.take k) (s := (Q, er)) (by
                  have := ptake_app (l.take k) (l.drop k) k (by simp; omega)
                  rw [List.take_append_drop] at this
                  unfold parseP
                  rw [show (l.take k).length = k by simp; omega, ← this]; exact hq) j3
                unfold answersB at ha
                simp only [Bool.and_eq_true, beq_iff_eq] at ha
                have hrt : rd_T39 (l.take k) (opAt Q j).f6 = rd_T39 l (opAt Q j).f6 := by
                  have hcc := I.call _ j3
                  rw [rd39_at hcc.1 (by simp; omega), rd39_at hcc.1 (by omega), List.getElem_take]
                rw [hrt] at hcq
                refine ⟨?_, doneOp (opAt Q j) e k, set_hit j1 _, j2, ?_, ?_, ?_⟩
                · congr 2
                  apply List.ext_getElem
                  · simp
                  · intro a ha1 ha2
                    rw [List.getElem_set, List.getElem_map, List.getElem_set]
                    split
                    · unfold phi
                      rw [if_pos (show (doneOp (opAt Q j) e k).f0 = e.f1 from j2)]
                      rfl
                    · rename_i hne
                      have hal : a < Q.length := by simpa using ha1
                      unfold phi
                      rw [if_neg]
                      intro q
                      have e1 : at? Q e.f1 = some a := at?_is (show Q.Pairwise (fun a b => a.f0 ≠ b.f0) from I.nodup) hal (by rw [opAt_get hal]; exact q)
                      rw [hj] at e1
                      cases e1
                      exact hne rfl
                · show (opAt Q j).f3 = false
                  rw [← hcq.2.2.1, ← ha.1.1.1.2]; exact h2
                · show (opAt Q j).f4 = false
                  rw [← hcq.2.2.2.2.1, ← ha.2]; exact h5
                · show (0 : Int) ≤ (k : Int); omega
              · cases hs'
            · cases hs'
    | succ d ih =>
      intro s hd hs
      rw [show k + 1 + (d + 1) = (k + 1 + d) + 1 by omega, ptake] at hs ⊢
      cases hq : ptake l (k + 1 + d) with
      | none => rw [hq] at hs; cases hs
      | some q =>
        rw [hq] at hs
        obtain ⟨i1, o, ho, i2, i3, i4, i5⟩ := ih q (by omega) hq
        rw [i1, rd_set _ _ _ (by omega) (by omega)]
        have I := ptake_inv l (k + 1 + d) hq
        have hc := hcall (k + 1 + d) (by omega) q hq
        obtain ⟨Q, er⟩ := q
        obtain ⟨S, er'⟩ := s
        have hs' : pstep l ((k + 1 + d : Nat) : Int) (rd_T39 l ((k + 1 + d : Nat) : Int)) (Q, er) = some (S, er') := hs
        refine ⟨pstep_phi hs' ⟨o, ho, i2, i5⟩ I.nodup hc, ?_⟩
        obtain ⟨g1, g2⟩ := pstep_grew hs'
        simp only at g1 g2
        have ho' : o ∈ Q := ho
        obtain ⟨a, ha, rfl⟩ := mem_opAt ho'
        obtain ⟨q0, q6, q5, q7⟩ := g2 a ha
        have := q7 i5
        refine ⟨opAt S a, opAt_mem (ops := S) (by omega), ?_⟩
        rw [this]
        exact ⟨i2, i3, i4, i5⟩
  have hfin := hhigh (l.length - (k + 1)) (P, era) (by omega) (by rw [show k + 1 + (l.length - (k + 1)) = l.length by omega]; exact h)
  rw [show k + 1 + (l.length - (k + 1)) = l.length by omega] at hfin
  refine ⟨?_, hfin.2⟩
  unfold parseP
  rw [List.length_set]
  exact hfin.1
section
variable {l : List S39} {P : List S60} {era : Int} {base : Nat} {M : List MOp} {C : List Nat} {safe : Nat} {snap : Nat → List Nat}
theorem SI.bad (h : SI l P era base M C safe snap) (hP : P.length ≤ 900) {i : Nat} (hi : i < P.length) (h3 : (opAt P i).f3 = false) (h4 : (opAt P i).f4 = false) (h7 : 0 ≤ (opAt P i).f7) :
    (List.range P.length).any (badAt (P.map (phi i))) = false ∧ (List.range P.length).filterMap (faultQ (P.map (phi i))) = [⟨1, i, -1⟩] := by
  have hne : ∀ j, j < P.length → j ≠ i → opAt (P.map (phi i)) j = opAt P j := by
    intro j hj hji
    rw [opAt_phi _ hj]
    unfold phi
    rw [if_neg (by rw [h.id j hj]; omega)]
  have heq : opAt (P.map (phi i)) i = { opAt P i with f2 := 1000 } := by
    rw [opAt_phi _ hi]
    unfold phi
    rw [if_pos (h.id i hi)]
  have hst : ∀ j, j < P.length → (opAt (P.map (phi i)) j).f0 = (opAt P j).f0 ∧ (opAt (P.map (phi i)) j).f1 = (opAt P j).f1 ∧ (opAt (P.map (phi i)) j).f3 = (opAt P j).f3 ∧ (opAt (P.map (phi i)) j).f4 = (opAt P j).f4 ∧ (opAt (P.map (phi i)) j).f5 = (opAt P j).f5 ∧ (opAt (P.map (phi i)) j).f6 = (opAt P j).f6 ∧ (opAt (P.map (phi i)) j).f7 = (opAt P j).f7 := by
    intro j hj
    rw [opAt_phi _ hj]
    exact phi_st _ _
  have hpr : ∀ a b, a < P.length → b < P.length → precB (opAt (P.map (phi i)) a) (opAt (P.map (phi i)) b) = precB (opAt P a) (opAt P b) := by
    intro a b ha hb
    unfold precB
    rw [(hst a ha).2.2.2.2.2.2, (hst b hb).2.2.2.2.2.1]
  have hlen : (P.map (phi i)).length = P.length := by simp
  have hsrc : ∀ r v, srcIx (P.map (phi i)) r v = srcIx P r v := by
    intro r v
    unfold srcIx
    rw [List.findIdx?_map]
    refine findIdx_congr (fun o ho => ?_)
    obtain ⟨j, hj, rfl⟩ := mem_opAt ho
    simp only [Function.comp]
    unfold phi
    split
    · rename_i q
      have : j = i := by rw [h.id j hj] at q; omega
      subst this
      simp [isSrc, h3]
    · rfl
  have hsI : ∀ r v, srcI (P.map (phi i)) r v = srcI P r v := by
    intro r v
    have := hsrc r v
    unfold srcIx at this
    unfold srcI idxOf
    rw [this]
  refine ⟨?_, ?_⟩
  · have ht := h.trace
    unfold traceR traceQ opsP at ht
    rw [h.parse] at ht
    simp only [Bool.and_eq_true, Bool.not_eq_true'] at ht
    rw [List.any_eq_false] at ht ⊢
    intro j hj
    have hjl := List.mem_range.1 hj
    have h0 := ht.1 j hj
    by_cases hji : j = i
    · subst hji
      unfold badAt
      rw [(hst j hjl).2.2.1, h3]; simp
    · have e1 : badAt (P.map (phi i)) j = badAt P j := by
        unfold badAt
        rw [hne j hjl hji]
        congr 2
        refine any_congr (fun a ha => ?_)
        have hal := List.mem_range.1 ha
        unfold twin
        rw [hne j hjl hji]
        by_cases hai : a = i
        · subst hai
          rw [(hst a hi).2.2.1, h3]; simp
        · rw [hne a (by omega) hai]
      rw [e1]; exact h0
  · -- who survives in the changed history survives in the true one
    have hsurv : ∀ w, w < P.length → survR (P.map (phi i)) w = true → survR P w = true := by
      have hseen : ∀ v, v < P.length → seenR (P.map (phi i)) v = true → seenR P v = true := by
        intro v hv hs
        unfold seenR at hs ⊢
        obtain ⟨o, ho, hb⟩ := List.any_eq_true.1 hs
        obtain ⟨j, hj, rfl⟩ := mem_opAt ho
        rw [hlen] at hj
        refine List.any_eq_true.2 ⟨opAt P j, opAt_mem hj, ?_⟩
        by_cases hji : j = i
        · subst hji
          unfold seenB at hb
          simp only [Bool.and_eq_true] at hb
          have hsv := (srcI_eq _ _ _ _).1 hb.2.2
          rw [hsrc, heq] at hsv
          obtain ⟨q1, q2⟩ := src_lt hsv
          unfold isSrc at q2
          simp only [Bool.and_eq_true, beq_iff_eq] at q2
          have := h.val v q1 q2.1
          omega
        · unfold seenB at hb ⊢
          rw [hne j hj hji, hsI, (hst v hv).2.2.2.2.1] at hb
          exact hb
      intro w hw hs
      unfold survR at hs ⊢
      rw [(hst w hw).2.2.2.2.2.2, (hst w hw).2.2.2.1] at hs
      split at hs
      · cases hs
      · rename_i q7
        rw [if_neg q7]
        split at hs
        · rename_i q4; rw [if_pos q4]
        · rename_i q4
          rw [if_neg q4]
          split at hs
          · rename_i q; rw [if_pos (hseen w hw q)]
          · split
            · rfl
            · obtain ⟨j, hj, hb⟩ := List.any_eq_true.1 hs
              have hjl := List.mem_range.1 hj
              rw [hlen] at hjl
              refine List.any_eq_true.2 ⟨j, List.mem_range.2 hjl, ?_⟩
              unfold survAt at hb ⊢
              rw [(hst j hjl).2.2.2.2.1, (hst w hw).2.2.2.2.1, hpr w j hw hjl, (hst j hjl).2.2.2.1, (hst j hjl).2.2.2.2.2.2, (hst j hjl).2.2.1] at hb
              simp only [Bool.and_eq_true, Bool.or_eq_true] at hb ⊢
              refine ⟨hb.1, hb.2.1, ?_⟩
              rcases hb.2.2 with q | q
              · exact .inl q
              · exact .inr ⟨q.1, hseen j hjl q.2⟩
    have hone : ∀ j, j < P.length → faultQ (P.map (phi i)) j = if j = i then some ⟨1, i, -1⟩ else none := by
      intro j hj
      by_cases hji : j = i
      · subst hji
        rw [if_pos rfl]
        unfold faultQ
        rw [heq]
        have ha : ansB { opAt P j with f2 := 1000 } = true := by unfold ansB; simp [h3, h4, h7]
        rw [if_pos ha]
        have hs : srcI (P.map (phi j)) (opAt P j).f1 1000 = -1 := by
          rw [hsI]
          unfold srcI idxOf
          cases hx : P.findIdx? (isSrc (opAt P j).f1 1000) with
          | none => rfl
          | some a =>
            obtain ⟨q1, q2⟩ := src_lt (show srcIx P (opAt P j).f1 1000 = some a from hx)
            unfold isSrc at q2
            simp only [Bool.and_eq_true, beq_iff_eq] at q2
            have := h.val a q1 q2.1
            omega
        simp only
        rw [hs]
        unfold faultF
        rw [if_pos (by omega), if_neg (by simp), h.id j hj]
      · rw [if_neg hji]
        have h0 := h.noFault hj
        unfold faultQ
        rw [hne j hj hji]
        split
        · rename_i hans
          obtain ⟨f1, f2, f3⟩ := h.fresh hj hans
          rw [hsI]
          have hstl : staleF (P.map (phi i)) (opAt P j) (srcI P (opAt P j).f1 (opAt P j).f2) = none := by
            unfold staleF
            rw [if_neg]
            unfold firstI
            split
            · rename_i w hw
              exfalso
              have hwl := List.mem_range.1 (List.mem_of_find?_eq_some hw)
              rw [hlen] at hwl
              have hst2 := List.find?_some hw
              unfold staleAt finalR at hst2
              simp only [Bool.and_eq_true, beq_iff_eq, Bool.or_eq_true, Bool.not_eq_true'] at hst2
              obtain ⟨q3, q1, qne, ⟨qp, qor⟩, qh⟩ := hst2
              rw [(hst w hwl).2.2.1] at q3
              rw [(hst w hwl).2.1] at q1
              have hwi : w ≠ i := fun e => by rw [e, h3] at q3; cases q3
              rw [hne w hwl hwi] at qp qor qh
              have hh : hideR P (srcI P (opAt P j).f1 (opAt P j).f2) (opAt P w) = true := by
                unfold hideR at qh ⊢
                by_cases hn : srcI P (opAt P j).f1 (opAt P j).f2 < 0
                · rw [decide_eq_true hn]; rfl
                · obtain ⟨s, hs⟩ : ∃ s : Nat, srcI P (opAt P j).f1 (opAt P j).f2 = s := ⟨(srcI P (opAt P j).f1 (opAt P j).f2).toNat, by omega⟩
                  have hsl : s < P.length := (src_lt ((srcI_eq _ _ _ _).1 (by rw [hs]; simp))).1
                  rw [hs, Int.toNat_natCast] at qh ⊢
                  have e1 : precB (opAt (P.map (phi i)) s) (opAt P w) = precB (opAt P s) (opAt P w) := by
                    have := hpr s w hsl hwl
                    rwa [hne w hwl hwi] at this
                  rw [e1, (hst s hsl).2.2.2.2.1] at qh
                  exact qh
              refine f3 w hwl q3 q1 qp ?_ qne hh
              rcases qor with q | q
              · exact .inl q
              · exact .inr (h.surv hwl q3 (hsurv w hwl q))
            · omega
          unfold faultF
          split
          · rename_i hneg
            rw [if_pos (f1 hneg), hstl]
          · rename_i hneg
            obtain ⟨s, hs⟩ : ∃ s : Nat, srcI P (opAt P j).f1 (opAt P j).f2 = s := ⟨(srcI P (opAt P j).f1 (opAt P j).f2).toNat, by omega⟩
            have hsl : s < P.length := (src_lt ((srcI_eq _ _ _ _).1 (by rw [hs]; simp))).1
            rw [hs, Int.toNat_natCast, (hst s hsl).2.2.2.2.2.1, if_neg (by have := f2 s hs; omega), ← hs, hstl]
        · rfl
    have : ∀ n, n ≤ P.length → (List.range n).filterMap (faultQ (P.map (phi i))) = if i < n then [⟨1, i, -1⟩] else [] := by
      intro n
      induction n with
      | zero => intro _; simp
      | succ n ih =>
        intro hn
        rw [List.range_succ, List.filterMap_append, ih (by omega), List.filterMap_cons, hone n (by omega)]
        by_cases e : n = i
        · subst e; simp
        · rw [if_neg e]
          simp only [List.filterMap_nil, List.append_nil]
          by_cases e2 : i < n
          · rw [if_pos e2, if_pos (by omega)]
          · rw [if_neg e2, if_neg (by omega)]
    rw [this _ (Nat.le_refl _), if_pos hi]
end
end Go.Proofs.Ytidghmgaaenihaa.Q

/-! part PLaw7 -/
namespace Go.Proofs.Ytidghmgaaenihaa.Q
open Go.RowKit Go.Proofs.YtidghmgaaenihaaW.PrintWords Go.Proofs.YtidghmgaaenihaaW.PrintLast Go.Proofs.YtidghmgaaenihaaW.PrintMore
set_option linter.unusedVariables false
set_option linter.unusedSimpArgs false
attribute [local go_sem high] eqA33
def isRdE (e : S39) : Bool := e.f0 == 2 && (!e.f2 && !e.f5)
def rdIx (l : List S39) (x : Nat) : List Int := ((List.range x).filter (fun i : Nat => isRdE (rd_T39 l (i : Int)))).map (fun i : Nat => (i : Int))
theorem rdIx_succ (l : List S39) (x : Nat) : rdIx l (x + 1) = if isRdE (rd_T39 l (x : Int)) = true then rdIx l x ++ [(x : Int)] else rdIx l x := by
  unfold rdIx
  rw [List.range_succ, List.filter_append, List.filter_cons]
  split <;> simp
theorem rdIx_len (l : List S39) (x : Nat) : (rdIx l x).length ≤ x := by
  unfold rdIx
  rw [List.length_map]
  have := List.length_filter_le (fun i : Nat => isRdE (rd_T39 l (i : Int))) (List.range x)
  simpa using this
theorem rdIx_mem {l : List S39} {x : Nat} {k : Int} (h : k ∈ rdIx l x) : ∃ n : Nat, k = n ∧ n < x ∧ isRdE (rd_T39 l (n : Int)) = true := by
  unfold rdIx at h
  obtain ⟨n, hn, rfl⟩ := List.mem_map.1 h
  obtain ⟨h1, h2⟩ := List.mem_filter.1 hn
  exact ⟨n, rfl, List.mem_range.1 h1, h2⟩
theorem inv_check {s : MS} (h : StoOk s) (hl : s.l.length ≤ 900) {k : Nat} (hk : k < s.l.length) (hr : isRdE (rd_T39 s.l (k : Int)) = true) :
    checkQ (s.l.set k (badE (rd_T39 s.l (k : Int)))) = ([⟨1, (rd_T39 s.l (k : Int)).f1, -1⟩], 0) := by
  obtain ⟨P, era, base, C, safe, snap, hI, _⟩ := h
  unfold isRdE at hr
  simp only [Bool.and_eq_true, beq_iff_eq, Bool.not_eq_true'] at hr
  obtain ⟨hp, o, ho, h0, h3, h4, h7⟩ := parse_bad hI.parse hk hr.1 hr.2.1 hr.2.2
  obtain ⟨i, hi, rfl⟩ := mem_opAt ho
  have hid := hI.id i hi
  rw [h0] at hid
  have hPl : P.length ≤ s.l.length := (ptake_inv s.l s.l.length hI.parse).len
  obtain ⟨b1, b2⟩ := hI.bad (by omega) hi h3 h4 h7
  rw [hid] at hp ⊢
  unfold checkQ
  have ht : traceR (s.l.set k (badE (rd_T39 s.l (k : Int)))) = true := by
    unfold traceR traceQ opsP
    rw [hp]
    simp only
    rw [List.length_map, b1]; rfl
  rw [if_pos ht]
  unfold opsP
  rw [hp]
  simp only
  rw [List.length_map, b2]
theorem badE_cells (e : S39) : ([.int .i64 e.f0, .int .i64 e.f1, .bool e.f2, .int .i64 e.f3, .int .i64 e.f4, .bool e.f5] : List Value).take 4 ++ [.int .i64 1000] ++ ([.int .i64 e.f0, .int .i64 e.f1, .bool e.f2, .int .i64 e.f3, .int .i64 e.f4, .bool e.f5] : List Value).drop (4 + 1) = [.int .i64 (badE e).f0, .int .i64 (badE e).f1, .bool (badE e).f2, .int .i64 (badE e).f3, .int .i64 (badE e).f4, .bool (badE e).f5] := rfl
section
variable {ops : Array Oper} {rest : List Oper} {o : Oper} {a : Act} {Q : Exit → Act → World → Prop}
/-- The store of 1000 into the value of event k. -/
theorem at_bad {W w0 : World} {base n cap : Nat} {ok : Nat → Prop} {ad : Addr} {l : List S39} (hN : o.dst = none) (hgd : o.guard = none) (p x : Operand) (ho : o.op = .store 3 p x) (k : Nat)
    (haddr : a.eval p = .pointer (some ⟨(ad.add (k * 6)).block, (ad.add (k * 6)).off + 4, none⟩)) (hx : a.eval x = .int .i64 1000)
    (HO : Kd.R k39 39 W base ok (.slice (some ad) n cap) l) (hk : k < n) (HB : Below base w0 W)
    (h : ∀ w1, Kd.R k39 39 w1 base ok (.slice (some ad) n cap) (l.set k (badE (rd_T39 l (k : Int)))) → Below base w0 w1 → wpList Try.prog ops Q rest a w1) : wpList Try.prog ops Q (o :: rest) a W := by
  obtain ⟨hn, hnc, _⟩ := Kd.R_reads' HO
  obtain ⟨g, cap', hv, _⟩ := Kd.R_form HO (by omega)
  injection hv with ha _ _
  injection ha with ha
  subst ha
  obtain ⟨c, hcl, hM, hcc, _⟩ := Kd.R_elem HO ⟨0, 0, false, 0, 0, false⟩ (k : Int) (by omega) (by omega)
  have hc := k39_openM hM
  have hrd : l.getD (k : Int).toNat ⟨0, 0, false, 0, 0, false⟩ = rd_T39 l (k : Int) := rfl
  rw [hrd] at hc
  refine Kd.R_store k39 (w0 := w0) base hN hgd 3 p x ho 39 (o' := k * 6 + 4) (k : Int) 4 l (badE (rd_T39 l (k : Int))) (.int .i64 1000) [.int .i64 1000] c ok (fun _ => False) (by rw [haddr, add_at]; simp) rfl hx rfl (by kernel_rfl) (fun q hq => by rw [List.mem_singleton.1 hq]; rfl) HO (by omega) (by omega) hcl hcc (show 4 + 1 ≤ 6 by omega) ?_ (fun _ hk => hk.elim) HB ?_
  · show k39.M W base (fun _ => False) _ (c.take 4 ++ [.int .i64 1000] ++ c.drop (4 + 1))
    rw [hc, badE_cells]
    exact k39_mkM _ _ _ (badE (rd_T39 l (k : Int)))
  · intro w1 h1 h2 _
    rw [Int.toNat_natCast] at h1
    exact h w1 h1 h2
end
theorem rd33_one (f : S33) : rd_T33 [f] 0 = f := rfl
set_option maxHeartbeats 8000000 in
set_option maxRecDepth 100000 in
theorem law7_walk (A : Option Addr) (c : Nat) (script : List S100) (q : Int) (w : World) (hr : Kd.C k100 w A script.length script) (hc : script.length ≤ c) (hok : ∀ x ∈ script, okAct47 x) (hq : (Lit.int .u8 q).wf = true) :
    Calls Try.prog 7 #[.slice A script.length c, .int .u8 q] w fun e w' => e = .returned (.bool true) ∧ Below w.heap.size w w' := by
  have HR := Aside0.mk hr
  have HA := Aside0.mk hok
  obtain ⟨q0, q1⟩ := u8_range hq
  clear hr hok hq
  have hlen : script.length ≤ 9223372036854775807 := HR.out.2.1
  by_cases hbig : script.length > 80
  · have hb2 : (script.length : Int) > 80 := by omega
    go_enter Try.func7, Try.ntmps7
    go_wp2_with (go_at_call 19; (with_reducible refine (tegulalaw47_awake.calls true _ awake47_true9).mono ?_); rintro e w1 ⟨rfl, hB⟩)
    go_ret
    exact ⟨rfl, hB⟩
  · have hb2 : ¬ (script.length : Int) > 80 := by omega
    have HS := Aside0.mk (fun W h => storage_ref A c script W h hc HA.out (by omega))
    have hll : (stoN script script.length).l.length ≤ 80 := by have := (stoB script script.length (Nat.le_refl _)).l; omega
    have HCQ := Aside0.mk (fun (k : Nat) hk hr => inv_check (k := k) (stoN_ok HA.out script.length (Nat.le_refl _)) (by omega) hk hr)
    unfold StoPost at HS
    obtain ⟨l, hl⟩ : ∃ l, (stoN script script.length).l = l := ⟨_, rfl⟩
    rw [hl] at HS hll HCQ
    clear hl
    go_enter Try.func7, Try.ntmps7
    go_wp2_with fail
    (with_reducible refine (tegulalaw47_awake.calls true _ awake47_true9).mono ?_)
    rintro e w1 ⟨rfl, hB⟩
    have HB1 := Aside0.mk hB
    clear hB
    go_wp2_with fail
    (with_reducible refine (HS.out _ (Kd.C_below HR.out HB1.out)).mono ?_)
    rintro e w2 ⟨u, rfl, hU, hB⟩
    obtain ⟨A2, c2, rfl, hc2, hC2⟩ := Kd.R_reads hU
    have HB2 := Aside0.mk (below_step HB1.out hB)
    have HC2 := Aside0.mk hC2
    have HU := Aside0.mk (Kd.R_lower hU HB1.out.size)
    clear hB hU hC2
    go_wp2
    go_loopw [6, 7] (fun v6 v7 wr => ∃ x : Nat, x ≤ l.length ∧ v7 = .int .i64 x ∧ Aside0 (Kd.R (Kd.int .i64) 3 wr w2.heap.size (fun _ => True) v6 (rdIx l x)) ∧ Aside0 (Below w2.heap.size w2 wr))
      (fun _ v7 _ => l.length - (intOf v7).toNat)
    case atStart => exact ⟨0, by omega, rfl, ⟨Kd.R_nil _ _ _ _ _⟩, ⟨Below.refl _ _⟩⟩
    case round =>
      obtain ⟨x, hx, rfl, HO, HW⟩ := hrel
      by_cases hlt : x < l.length
      · have hltb : (x : Int) < (l.length : Int) := by omega
        have hxb : (x : Int) < 1000000 := by omega
        have hx0 : (0 : Int) ≤ x := by omega
        obtain ⟨ad, eA, s0, s1, s2, s3, s4, s5⟩ := at_T39 (Kd.C_below HC2.out HW.out) x hx0 hltb
        subst eA
        have HSN := Aside0.mk (rdIx_succ l x)
        have LM := Aside0.mk (Nat.le_trans (rdIx_len l x) (show x ≤ 1000000 by omega))
        obtain ⟨e, HE⟩ : ∃ e, Aside0 (rd_T39 l (x : Int) = e) := ⟨_, ⟨rfl⟩⟩
        rw [HE.out] at s0 s1 s2 s3 s4 s5 HSN
        obtain ⟨e0, e1, e2, e3, e4, e5⟩ := e
        simp only [Int.toNat_natCast] at s0 s1 s2 s3 s4 s5
        unfold isRdE at HSN
        simp only at HSN
        cases h0 : (e0 == 2) with
        | false =>
          have HP2 := Aside0.mk (show rdIx l (x + 1) = rdIx l x by rw [HSN.out, h0]; rfl)
          go_wp2
          go_roundw
          case rel => exact ⟨x + 1, by omega, by first | rfl | simp, by rw [HP2.out]; exact HO, HW⟩
          case measure => simp [intOf]; omega
        | true =>
          cases e2 with
          | true =>
            have HP2 := Aside0.mk (show rdIx l (x + 1) = rdIx l x by rw [HSN.out, h0]; rfl)
            go_wp2
            go_roundw
            case rel => exact ⟨x + 1, by omega, by first | rfl | simp, by rw [HP2.out]; exact HO, HW⟩
            case measure => simp [intOf]; omega
          | false =>
            cases e5 with
            | true =>
              have HP2 := Aside0.mk (show rdIx l (x + 1) = rdIx l x by rw [HSN.out, h0]; rfl)
              go_wp2
              go_roundw
              case rel => exact ⟨x + 1, by omega, by first | rfl | simp, by rw [HP2.out]; exact HO, HW⟩
              case measure => simp [intOf]; omega
            | false =>
              have HP2 := Aside0.mk (show rdIx l (x + 1) = rdIx l x ++ [(x : Int)] by rw [HSN.out, h0]; rfl)
              go_wp2_with (at_builtin; go_loud (refine Kd.R_append (Kd.int .i64) (w0 := w2) w2.heap.size rfl (.tmp 46) (.tmp 48) 40 3 (.int .i64 0) 8 rfl Try.underlying40 info3 rfl (by decide) (by omega) _ (rdIx l x) (x : Int) [.int .i64 x] (fun _ => True) (fun _ => False) rfl rfl rfl (fun _ hk => hk.elim) (fun _ _ => trivial) HO.out HW.out (below_size HW.out) (by have := LM.out; omega) ?_); intro v4 w4 ho hb hg hat; have HO4 := Aside0.mk ho; have HB4 := Aside0.mk hb; clear ho hb hg hat)
              go_roundw
              case rel => exact ⟨x + 1, by omega, by first | rfl | simp, by rw [HP2.out]; exact HO4, HB4⟩
              case measure => simp [intOf]; omega
      · obtain rfl : x = l.length := by omega
        obtain ⟨A6, c6, rfl, hc6, hC6⟩ := Kd.R_reads HO.out
        have HC6 := Aside0.mk hC6
        have HMM := Aside0.mk (fun k hk => rdIx_mem (l := l) (x := l.length) (k := k) hk)
        have hrl := rdIx_len l l.length
        generalize rdIx l l.length = R at HC6 HMM hrl hc6 HO ⊢
        clear hC6
        by_cases h0 : R.length = 0
        · have h0b : ((R.length : Int) == 0) = true := by simp [h0]
          have h0c : (R.length : Int) = 0 := by omega
          clear h0
          go_wp2
          go_ret
          exact ⟨rfl, below_then HB2.out (below_size HB2.out) HW.out⟩
        · have h0b : ((R.length : Int) == 0) = false := beq_eq_false_iff_ne.2 (by omega)
          have h0c : ¬ (R.length : Int) = 0 := by omega
          have h0d : (0 : Int) < (R.length : Int) := by omega
          have j0 := Int.emod_nonneg q h0c
          have j1 := Int.emod_lt_of_pos q h0d
          obtain ⟨ad6, eA6, g0⟩ := Kd.at_int HC6.out (q % (R.length : Int)) j0 j1
          subst eA6
          obtain ⟨k, hk, hkl, hkr⟩ := HMM.out (rd R (q % (R.length : Int))) (by rw [rdI_at j0 j1]; exact List.getElem_mem _)
          rw [hk] at g0
          have HCQ2 := Aside0.mk (check_of (HCQ.out k hkl hkr))
          obtain ⟨ad2, rfl⟩ : ∃ ad2, A2 = some ad2 := by obtain ⟨ad, eA, _⟩ := at_T39 HC2.out (k : Int) (by omega) (by omega); exact ⟨ad, eA⟩
          obtain ⟨l2, hl2⟩ : ∃ l2, l.set k (badE (rd_T39 l (k : Int))) = l2 := ⟨_, rfl⟩
          have hlen2 : l2.length = l.length := by rw [← hl2]; simp
          have HFO := Aside0.mk (show (rd_T39 l2 (k : Int)).f1 = (rd_T39 l (k : Int)).f1 by rw [← hl2, rd_set_same _ _ hkl]; rfl)
          rw [hl2] at HCQ2
          obtain ⟨op, hop⟩ : ∃ op, (rd_T39 l (k : Int)).f1 = op := ⟨_, rfl⟩
          rw [hop] at HCQ2 HFO
          have HL2 := Aside0.mk hl2
          have HCF : Aside0 (durable_Check.f l2 = some ([⟨1, op, -1⟩], 0)) := ⟨by
            unfold durable_Check.f
            rw [if_pos (by omega)]
            congr 1
            refine Prod.ext ?_ HCQ2.out.2
            have h5 := HCQ2.out.1
            cases hcc : (checkP l2).1 with
            | nil => rw [hcc] at h5; cases h5
            | cons f fs =>
              rw [hcc] at h5
              cases fs with
              | nil =>
                rw [List.map_cons, List.map_nil] at h5
                obtain ⟨f0, f1, f2⟩ := f
                simp only [to32, List.cons.injEq, S32.mk.injEq, and_true] at h5
                obtain ⟨rfl, rfl, rfl⟩ := h5
                rfl
              | cons f2 fs => rw [List.map_cons, List.map_cons] at h5; simp at h5⟩
          have hk0 : (0 : Int) ≤ (k : Int) := by omega
          have hk1 : (k : Int) < (l.length : Int) := by omega
          have HUW := Aside0.mk (Kd.R_below HU.out HW.out)
          have HBW := Aside0.mk (below_then HB2.out (below_size HB2.out) HW.out)
          clear hk hop hl2 HCQ2 HMM h0
          go_wp2_with ((with_reducible refine gate_ (.store 3 (.tmp 64) (.const (.int .i64 1000))) rfl ?_); refine at_bad (w0 := w) rfl rfl (.tmp 64) (.const (.int .i64 1000)) rfl k rfl rfl HUW.out hkl HBW.out ?_; intro w8 ho hb; rw [HL2.out] at ho; have HU8 := Aside0.mk ho; have HB8 := Aside0.mk hb; clear ho hb)
          have HC8 := Aside0.mk (show Kd.C k39 w8 (some ad2) l2.length l2 from (Kd.R_reads' HU8.out).2.2)
          have HCK := Aside0.mk (durable_Check.calls (some ad2) c2 l2 [⟨1, op, -1⟩] 0 w8 HC8.out (by omega) HCF.out)
          rw [hlen2] at HCK
          (with_reducible refine HCK.out.mono ?_)
          rintro e w9 ⟨v9, rfl, hV, hB⟩
          obtain ⟨A9, c9, rfl, hc9, hC9⟩ := Kd.R_reads hV
          have HB9 := Aside0.mk (below_step HB8.out hB)
          obtain ⟨ad9, eA9, f0, f1, f2⟩ := at_T33 hC9 0 (by omega) (by simp)
          subst eA9
          rw [rd33_one] at f0 f1 f2
          have z9 : ad9.add 0 = ad9 := by simp [Addr.add]
          simp only [Int.toNat_zero, Nat.zero_mul, z9] at f0 f1 f2
          clear z9
          obtain ⟨ad8, eA8, s0, s1, -⟩ := at_T39 (Kd.C_below HC8.out hB) (k : Int) hk0 (by omega)
          injection eA8 with eA8
          subst eA8
          rw [HFO.out] at s1
          simp only [Int.toNat_natCast] at s1
          clear hB hV hC9 s0 g0
          simp only [List.length_cons, List.length_nil] at hc9 ⊢
          go_wp2
          go_quiet (fail)
          go_wp2
          go_ret
          exact ⟨by simp, by repeat (first | exact HB9.out | apply below_drew | apply pw_below_drewN)⟩
end Go.Proofs.Ytidghmgaaenihaa.Q

/-! part HOpen -/
namespace Go.Proofs.Ytidghmgaaenihaa.Q
open Go.RowKit Go.Proofs.YtidghmgaaenihaaW.PrintWords Go.Proofs.YtidghmgaaenihaaW.PrintLast Go.Proofs.YtidghmgaaenihaaW.PrintMore
open Go.ChangeShapes Go.WideShapes Go.Deep
set_option linter.unusedVariables false
instance : Inhabited S39 := ⟨⟨0, 0, false, 0, 0, false⟩⟩
end Go.Proofs.Ytidghmgaaenihaa.Q

/-! part HOpen5 -/
namespace Go.Proofs.Ytidghmgaaenihaa.Q
open Go.RowKit Go.Proofs.YtidghmgaaenihaaW.PrintWords Go.Proofs.YtidghmgaaenihaaW.PrintLast Go.Proofs.YtidghmgaaenihaaW.PrintMore
open Go.ChangeShapes Go.WideShapes Go.Deep
set_option linter.unusedVariables false
theorem cellsOf100 : Try.prog.cellsOf 100 = 3 := by kernel_rfl
instance : Inhabited S100 := ⟨⟨0, 0, 0⟩⟩
theorem one100 (fs : Array Field) (h : Try.prog.underlying 100 = some (.struct fs)) : oneCellFields Try.prog fs = true := by
  rw [Try.underlying100] at h
  cases h
  kernel_rfl
set_option maxRecDepth 100000 in
theorem act_cells47 {H : Type} {enc : TypeId × Value → H} {w : World} {base : Nat} {spare : Nat → Bool} {held : Bool} {fuel : Nat} {cs : List Value} {x : DataW H × List MemPlace}
    (h : DataW.trod enc Try.prog w base spare held fuel 100 cs = some x) : ∃ e : S100, cs = [.int .u8 e.f0, .int .u8 e.f1, .int .u8 e.f2] ∧ okAct47 e := by
  obtain ⟨ys, n, _, _, hlen, hyl, hf⟩ := DataW.trod_struct Try.underlying100 h
  rw [cellsOf100] at hlen
  match cs, hlen with
  | [c0, c1, c2], _ =>
    match ys, hyl with
    | [y0, y1, y2], _ =>
      have hone := hone_of (one100 _ Try.underlying100)
      have g0 := hf 0 _ rfl
      obtain ⟨o0, z0⟩ := hone 0 _ rfl
      rw [o0, z0] at g0
      obtain ⟨n0, e0, -, w0⟩ := DataW.trod_int Try.underlying5 (show DataW.trod enc Try.prog w base spare held n 5 [c0] = some y0 from g0)
      have g1 := hf 1 _ rfl
      obtain ⟨o1, z1⟩ := hone 1 _ rfl
      rw [o1, z1] at g1
      obtain ⟨n1, e1, -, w1⟩ := DataW.trod_int Try.underlying5 (show DataW.trod enc Try.prog w base spare held n 5 [c1] = some y1 from g1)
      have g2 := hf 2 _ rfl
      obtain ⟨o2, z2⟩ := hone 2 _ rfl
      rw [o2, z2] at g2
      obtain ⟨n2, e2, -, w2⟩ := DataW.trod_int Try.underlying5 (show DataW.trod enc Try.prog w base spare held n 5 [c2] = some y2 from g2)
      refine ⟨⟨n0, n1, n2⟩, ?_, u8_range w0, u8_range w1, u8_range w2⟩
      simp only [List.cons.injEq, and_true] at e0 e1 e2
      rw [e0, e1, e2]
theorem open_acts47 {H : Type} {enc : TypeId × Value → H} {w : World} {base : Nat} {spare : Nat → Bool} {held : Bool} {fuel : Nat} {A : Option Addr} {len cap : Nat} {x : DataW H × List MemPlace}
    (h : DataW.trod enc Try.prog w base spare held fuel 48 [.slice A len cap] = some x) : ∃ l : List S100, l.length = len ∧ len ≤ cap ∧ Kd.C k100 w A len l ∧ ∀ x ∈ l, okAct47 x := by
  rcases open_slice Try.underlying48 h with ⟨hcs, _⟩ | ⟨a, len', cap', m, n, D, Pl, hcs, hb, hl, hm, hmm, hx, hi⟩
  · simp only [List.cons.injEq, Value.slice.injEq, and_true] at hcs
    obtain ⟨rfl, rfl, rfl⟩ := hcs
    exact ⟨[], rfl, Nat.le_refl _, ⟨rfl, by decide, fun h => absurd h (by decide)⟩, fun x hx => by cases hx⟩
  · simp only [List.cons.injEq, Value.slice.injEq, and_true] at hcs
    obtain ⟨rfl, rfl, rfl⟩ := hcs
    rw [cellsOf100] at hi
    have each : ∀ i, i < len → ∃ e : S100, okAct47 e ∧ ∀ j u, [Value.int .u8 e.f0, .int .u8 e.f1, .int .u8 e.f2][j]? = some u → w.cell? (a.add (i * 3 + j)) = some u := by
      intro i hil
      have him : i < m := by rw [hmm]; split <;> omega
      obtain ⟨cs', hc, ht⟩ := hi i him
      obtain ⟨e, rfl, hok⟩ := act_cells47 ht
      obtain ⟨_, _, hat⟩ := World.cells?_some hc
      refine ⟨e, hok, fun j u hj => ?_⟩
      have hj3 : j < 3 := (List.getElem?_eq_some_iff.1 hj).1
      rw [← Go.Deep.add_add, hat j hj3, hj]
    obtain ⟨q, hq⟩ := choose_lt each
    refine ⟨(List.range len).map q, by simp, hl, ⟨by simp, Nat.le_trans (Nat.le_trans hl hm) (by decide), fun _ => ⟨a, rfl, fun j p hj => ?_⟩⟩, fun x hx => ?_⟩
    · rw [List.getElem?_map] at hj
      obtain ⟨j', hj', rfl⟩ := Option.map_eq_some_iff.1 hj
      obtain ⟨hjl, e⟩ := List.getElem?_eq_some_iff.1 hj'
      rw [List.getElem_range] at e
      subst e
      rw [List.length_range] at hjl
      exact ⟨_, rfl, k100_mk w (q j), fun i u hu => (hq j hjl).2 i u hu⟩
    · obtain ⟨j, hj, rfl⟩ := List.mem_map.1 hx
      exact (hq j (List.mem_range.1 hj)).1
end Go.Proofs.Ytidghmgaaenihaa.Q
