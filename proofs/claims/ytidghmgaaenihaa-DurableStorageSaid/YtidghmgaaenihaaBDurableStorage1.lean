/- Texts of this claim, packed: RStoC6, RStoC7, RSto, PLaw9, HOpen, HOpen2, HOpen5. -/
import Derived.Test.YtidghmgaaenihaaBDurableStorage0
import Derived.Test.YtidghmgaaenihaaQ19
import Derived.Test.YtidghmgaaenihaaHCheck
import Derived.Test.YtidghmgaaenihaaQ0
import Derived.Deep.Slices
import Derived.Deep.Fields
import Derived.ChangeSame
import Derived.ChangeSlices
import Derived.WideKeyArr2
/-! part RStoC6 -/
namespace Go.Proofs.Ytidghmgaaenihaa.Q
open Go.RowKit Go.Proofs.YtidghmgaaenihaaW.PrintWords Go.Proofs.YtidghmgaaenihaaW.PrintLast Go.Proofs.YtidghmgaaenihaaW.PrintMore
set_option linter.unusedVariables false
set_option linter.unusedSimpArgs false
set_option maxHeartbeats 40000000 in
set_option maxRecDepth 1000000 in
theorem sto_case6 {script : List S100} {w wr : World} {ad : Addr} {c x : Nat} {k r q : Int} {L : List S39} {O : List MOp} {ch : List (Int × Int)} {sf n : Int} {A3 : Option Addr} {c3 : Nat} {A4 : Option Addr} {c4 : Nat} {A5 : Option Addr} {c5 : Nat} {Qx : Exit → Act → World → Prop}
    {u9 u10 u11 u12 u13 u14 u15 u16 u17 u18 u19 u20 u21 u22 u23 u24 u25 u26 u27 u28 u29 u30 u31 u32 u33 u34 u35 u36 u37 u38 u39 u40 u41 u42 u43 u44 u45 u46 u47 u48 u49 u50 u51 u52 u53 u54 u55 u56 u57 u58 u59 u60 u61 u62 u63 u64 u65 u66 u67 u68 u69 u70 u71 u72 u73 u74 u75 u76 u77 u78 u79 u80 u81 u82 u83 u84 u85 u86 u87 u88 u89 u90 u91 u92 u93 u94 u95 u96 u97 u98 u99 u100 u101 u102 u103 u104 u105 u106 u107 u108 u109 u110 u111 u112 u113 u114 u115 u116 u117 u118 u119 u120 u121 u122 u123 u124 u125 u126 u127 u128 u129 u130 u131 u132 u133 u134 u135 u136 u137 u138 u139 u140 u141 u142 u143 u144 u145 u146 u147 u148 u149 u150 u151 u152 u153 u154 u155 u156 u157 u158 u159 u160 u161 u162 u163 u164 u165 u166 u167 u168 u169 u170 u171 u172 u173 u174 u175 u176 u177 u178 u179 u180 u181 u182 u183 u184 u185 u186 u187 u188 u189 u190 u191 u192 u193 u194 u195 u196 u197 u198 u199 u200 u201 u202 u203 u204 u205 u206 u207 u208 u209 u210 u211 : Value} (H : StoHead script w wr ad c x k r q L O ch sf n A3 c3 A4 c4 A5 c5) (h : k % 8 = 6) :
    Code.wp Try.prog body27 (Exit.then (fun a' w' => StoInv script w (some ad) c a' w' ∧ StoMu script a' < StoMu script ⟨#[.slice (some ad) script.length c, undef, .slice none 0 0, .slice A3 L.length c3, .slice A4 O.length c4, .slice A5 ch.length c5, .int .i64 sf, .int .i64 n, .int .i64 x, u9, u10, u11, u12, u13, u14, u15, u16, u17, u18, u19, u20, u21, u22, u23, u24, u25, u26, u27, u28, u29, u30, u31, u32, u33, u34, u35, u36, u37, u38, u39, u40, u41, u42, u43, u44, u45, u46, u47, u48, u49, u50, u51, u52, u53, u54, u55, u56, u57, u58, u59, u60, u61, u62, u63, u64, u65, u66, u67, u68, u69, u70, u71, u72, u73, u74, u75, u76, u77, u78, u79, u80, u81, u82, u83, u84, u85, u86, u87, u88, u89, u90, u91, u92, u93, u94, u95, u96, u97, u98, u99, u100, u101, u102, u103, u104, u105, u106, u107, u108, u109, u110, u111, u112, u113, u114, u115, u116, u117, u118, u119, u120, u121, u122, u123, u124, u125, u126, u127, u128, u129, u130, u131, u132, u133, u134, u135, u136, u137, u138, u139, u140, u141, u142, u143, u144, u145, u146, u147, u148, u149, u150, u151, u152, u153, u154, u155, u156, u157, u158, u159, u160, u161, u162, u163, u164, u165, u166, u167, u168, u169, u170, u171, u172, u173, u174, u175, u176, u177, u178, u179, u180, u181, u182, u183, u184, u185, u186, u187, u188, u189, u190, u191, u192, u193, u194, u195, u196, u197, u198, u199, u200, u201, u202, u203, u204, u205, u206, u207, u208, u209, u210, u211, undef], []⟩) Qx) ⟨#[.slice (some ad) script.length c, undef, .slice none 0 0, .slice A3 L.length c3, .slice A4 O.length c4, .slice A5 ch.length c5, .int .i64 sf, .int .i64 n, .int .i64 x, u9, u10, u11, u12, u13, u14, u15, u16, u17, u18, u19, u20, u21, u22, u23, u24, u25, u26, u27, u28, u29, u30, u31, u32, u33, u34, u35, u36, u37, u38, u39, u40, u41, u42, u43, u44, u45, u46, u47, u48, u49, u50, u51, u52, u53, u54, u55, u56, u57, u58, u59, u60, u61, u62, u63, u64, u65, u66, u67, u68, u69, u70, u71, u72, u73, u74, u75, u76, u77, u78, u79, u80, u81, u82, u83, u84, u85, u86, u87, u88, u89, u90, u91, u92, u93, u94, u95, u96, u97, u98, u99, u100, u101, u102, u103, u104, u105, u106, u107, u108, u109, u110, u111, u112, u113, u114, u115, u116, u117, u118, u119, u120, u121, u122, u123, u124, u125, u126, u127, u128, u129, u130, u131, u132, u133, u134, u135, u136, u137, u138, u139, u140, u141, u142, u143, u144, u145, u146, u147, u148, u149, u150, u151, u152, u153, u154, u155, u156, u157, u158, u159, u160, u161, u162, u163, u164, u165, u166, u167, u168, u169, u170, u171, u172, u173, u174, u175, u176, u177, u178, u179, u180, u181, u182, u183, u184, u185, u186, u187, u188, u189, u190, u191, u192, u193, u194, u195, u196, u197, u198, u199, u200, u201, u202, u203, u204, u205, u206, u207, u208, u209, u210, u211, undef], []⟩ wr := by
  obtain ⟨HR, hc, hsz, hlt, s0, s1, s2, k0, k1, r0, r1, q0, q1, HN, bl, bo, bc, bn0, bn1, HL, HO, HC, HC4, HC5, hc3, hc4, hc5, sf0, sf1, HB⟩ := H
  have hx : x ≤ script.length := by omega
  have hltb : (x : Int) < (script.length : Int) := by omega
  have hx0 : (0 : Int) ≤ x := by omega
  have hxb : (x : Int) < 1000 := by omega
  have hkk : 0 ≤ k % 8 := by omega
  have hrm := Int.emod_nonneg r (show (4 : Int) ≠ 0 by decide)
  have hrl := Int.emod_lt_of_pos r (show (0 : Int) < 4 by decide)
  have hjm : O.length ≠ 0 → 0 ≤ q % (O.length : Int) ∧ q % (O.length : Int) < O.length := fun h => ⟨Int.emod_nonneg _ (by omega), Int.emod_lt_of_pos _ (by omega)⟩
  have HJM := Aside0.mk hjm
  clear hjm
  conv => arg 2; whnf
  by_cases hol : O.length = 0
  · have HN2 : Aside0 (stoN script (x + 1) = ⟨L, O, ch, sf, n⟩) := ⟨by rw [HN.out]; unfold stoStep; simp only; rw [h, hol]; rfl⟩
    clear HN
    have holb : ¬ ((O.length : Int) > 0) := by omega
    have HBA := below_alloc (Below.refl wr.heap.size wr) (.cells #[.int .u8 k, .int .u8 r, .int .u8 q] 100)
    have HL6 := Aside0.mk (Kd.R_below HL.out HBA)
    have HO6 := Aside0.mk (Kd.R_below HO.out HBA)
    have HC6 := Aside0.mk (Kd.R_below HC.out HBA)
    have HB6 := Aside0.mk (below_step HB.out HBA)
    clear HBA hol
    go_wp2
    refine ⟨StoInv.mk ⟨x + 1, by omega, by first | rfl | simp, by rw [HN2.out], by rw [HN2.out], by rw [HN2.out]; exact HL6, by rw [HN2.out]; exact HO6, by rw [HN2.out]; exact HC6, HB6⟩, ?_⟩
    simp [StoMu, intOf]; omega
  · obtain ⟨j0, j1⟩ := HJM.out hol
    have holb : (O.length : Int) > 0 := by omega
    obtain ⟨j, hj⟩ : ∃ j : Nat, q % (O.length : Int) = j := ⟨(q % (O.length : Int)).toNat, by omega⟩
    have HJJ : Aside0 (stoJ ⟨L, O, ch, sf, n⟩ ⟨k, r, q⟩ = j) := ⟨by unfold stoJ; simp only; rw [if_neg hol, hj]; rfl⟩
    have hjl : j < O.length := by omega
    have hjb0 : (0 : Int) ≤ (j : Int) := by omega
    have hjb1 : (j : Int) < (O.length : Int) := by omega
    obtain ⟨ad4, rfl⟩ : ∃ ad4, A4 = some ad4 := by obtain ⟨g, cap, hv, _⟩ := Kd.R_form HO.out (by omega); injection hv with ha _ _; exact ⟨_, ha⟩
    obtain ⟨o, HOo⟩ : ∃ o, Aside0 (mAt O j = o) := ⟨_, ⟨rfl⟩⟩
    have HBA := Aside0.mk (below_alloc (Below.refl wr.heap.size wr) (.cells #[.int .u8 k, .int .u8 r, .int .u8 q] 100))
    have HLA := Aside0.mk (Kd.R_below HL.out HBA.out)
    have HOA := Aside0.mk (Kd.R_below HO.out HBA.out)
    have HCA := Aside0.mk (Kd.R_below HC.out HBA.out)
    have HBWA := Aside0.mk (below_step HB.out HBA.out)
    have HMC := Aside0.mk (at_mopc HOA.out hjl)
    have g0 := at_mopc0 HOA.out hjl
    rw [HOo.out] at HMC g0
    obtain ⟨⟨e0, e1, e2, e3, e4, e5⟩, ex, dn, res, ps⟩ := o
    have g1 := HMC.out 1 _ rfl
    have g2 := HMC.out 2 _ rfl
    have g3 := HMC.out 3 _ rfl
    have g4 := HMC.out 4 _ rfl
    have g5 := HMC.out 5 _ rfl
    have g6 := HMC.out 6 _ rfl
    have g7 := HMC.out 7 _ rfl
    have g8 := HMC.out 8 _ rfl
    have g9 := HMC.out 9 _ rfl
    simp only at g0 g1 g2 g3 g4 g5 g6 g7 g8 g9
    clear hol
    cases ex with
    | false =>
      have HN2 : Aside0 (stoN script (x + 1) = ⟨L, O, ch, sf, n⟩) := ⟨by rw [HN.out]; unfold stoStep; simp only; rw [if_neg (by omega), if_neg (by omega), if_pos (by omega), if_neg (by omega), HJJ.out, HOo.out, if_neg (by simp)]⟩
      clear HN
      go_wp2
      refine ⟨StoInv.mk ⟨x + 1, by omega, by first | rfl | simp, by rw [HN2.out], by rw [HN2.out], by rw [HN2.out]; exact HLA, by rw [HN2.out]; exact HOA, by rw [HN2.out]; exact HCA, HBWA⟩, ?_⟩
      simp [StoMu, intOf]; omega
    | true =>
    cases dn with
    | true =>
      have HN2 : Aside0 (stoN script (x + 1) = ⟨L, O, ch, sf, n⟩) := ⟨by rw [HN.out]; unfold stoStep; simp only; rw [if_neg (by omega), if_neg (by omega), if_pos (by omega), if_neg (by omega), HJJ.out, HOo.out, if_pos rfl, if_pos rfl]⟩
      clear HN
      go_wp2
      refine ⟨StoInv.mk ⟨x + 1, by omega, by first | rfl | simp, by rw [HN2.out], by rw [HN2.out], by rw [HN2.out]; exact HLA, by rw [HN2.out]; exact HOA, by rw [HN2.out]; exact HCA, HBWA⟩, ?_⟩
      simp [StoMu, intOf]; omega
    | false =>
      have HX : Aside0 (stoN script (x + 1) = stoD ⟨L, O, ch, sf, n⟩ j) := ⟨by rw [HN.out]; unfold stoStep; simp only; rw [if_neg (by omega), if_neg (by omega), if_pos (by omega), if_neg (by omega), HJJ.out, HOo.out, if_pos rfl, if_neg (by simp)]⟩
      clear HN
      cases e2 with
      | true =>
        cases e5 with
        | true =>
          have HN2 : Aside0 (stoN script (x + 1) = ⟨L ++ [⟨2, e1, true, e3, e4, true⟩], O.set j ⟨⟨e0, e1, true, e3, e4, true⟩, true, true, res, ps⟩, ch, max sf ps, n⟩) := ⟨by rw [HX.out]; unfold stoD; simp only; rw [HOo.out]; simp⟩
          go_wp2_with (first | ((with_reducible refine gate_ (.store 4 (.tmp 183) (.const (.bool true))) rfl ?_); refine at_mop (w0 := w) rfl rfl 4 (.tmp 183) (.const (.bool true)) rfl j 7 (by omega) (.bool true) ⟨⟨e0, e1, true, e3, e4, true⟩, true, true, res, ps⟩ rfl rfl rfl (by kernel_rfl) rfl (by rw [HOo.out]; rfl) HOA.out hjl HBWA.out ?_; intro w8 ho hb hg; have HO8 := Aside0.mk ho; have HB8 := Aside0.mk hb; have HL8 := Aside0.mk (Kd.R_over HLA.out HOA.out (by decide) hg); have HC8 := Aside0.mk (Kd.R_over HCA.out HOA.out (by decide) hg); have HM8 := Aside0.mk (at_mopc HO8.out hjl); have g0 := at_mopc0 HO8.out hjl; rw [mAt_same _ _ _ hjl] at HM8 g0; have g1 := HM8.out 1 _ rfl; have g2 := HM8.out 2 _ rfl; have g3 := HM8.out 3 _ rfl; have g4 := HM8.out 4 _ rfl; have g5 := HM8.out 5 _ rfl; have g6 := HM8.out 6 _ rfl; have g7 := HM8.out 7 _ rfl; have g8 := HM8.out 8 _ rfl; have g9 := HM8.out 9 _ rfl; have HBX := Aside0.mk (below_alloc (Below.refl w8.heap.size w8) (.cells #[.int .i64 2, .int .i64 e1, .bool true, .int .i64 e3, .int .i64 (e4), .bool true] 39)); have HB9 := Aside0.mk (below_step HB8.out HBX.out); have HO9 := Aside0.mk (Kd.R_below HO8.out HBX.out); have HL9 := Aside0.mk (Kd.R_below HL8.out HBX.out); have HC9 := Aside0.mk (Kd.R_below HC8.out HBX.out); have BK9 := Aside0.mk (blk_new w8 (.cells #[.int .i64 2, .int .i64 e1, .bool true, .int .i64 e3, .int .i64 (e4), .bool true] 39)); have HNE := Aside0.mk (show some w8.heap.size ≠ (Value.slice A3 L.length c3).ownBlock from fun e => by have := Kd.R_lt HL8.out _ e.symm; omega); clear ho hb hg) | (at_builtin; go_loud (refine Kd.R_append k39 (w0 := w) w.heap.size rfl (.tmp 199) (.tmp 201) 22 39 (.agg #[(.int .i64 0), (.int .i64 0), (.bool false), (.int .i64 0), (.int .i64 0), (.bool false)]) 48 rfl Try.underlying22 info39 rfl (by decide) (by omega) (.slice A3 L.length c3) L ⟨2, e1, true, e3, e4, true⟩ [.int .i64 2, .int .i64 e1, .bool true, .int .i64 e3, .int .i64 (e4), .bool true] (fun _ => True) (fun _ => False) rfl (by rw [size_alloc]; rfl) (k39_mkM _ _ _ ⟨2, e1, true, e3, e4, true⟩) (fun _ hk => hk.elim) (fun _ _ => trivial) HL9.out HB9.out (below_size HB9.out) (by omega) ?_); intro v6 w6 ho hb hg hat; obtain ⟨A6, c6, hv6, hc6, _⟩ := Kd.R_reads ho; rw [List.length_append, List.length_singleton] at hv6 hc6; subst hv6; have HL6 := Aside0.mk ho; have HB6 := Aside0.mk hb; have HO6 := Aside0.mk (Kd.R_over HO9.out HL9.out (by decide) hg); have HC6 := Aside0.mk (Kd.R_over HC9.out HL9.out (by decide) hg); have BK6 := Aside0.mk (blk_grown BK9.out hg HNE.out); have d5 := (blk_cell BK6.out 5).trans rfl; have HM6 := Aside0.mk (at_mopc HO6.out hjl); rw [mAt_same _ _ _ hjl] at HM6; have p9 := HM6.out 9 _ rfl; clear ho hb hg hat))
          all_goals
            refine ⟨StoInv.mk ⟨x + 1, by omega, by first | rfl | simp, by rw [HN2.out]; show Value.int _ _ = Value.int _ _; simp only; congr 1; omega, by rw [HN2.out], by rw [HN2.out]; exact HL6, by rw [HN2.out]; exact HO6, by rw [HN2.out]; exact HC6, HB6⟩, ?_⟩
            simp [StoMu, intOf]; omega
        | false =>
          have HN2 : Aside0 (stoN script (x + 1) = ⟨L ++ [⟨2, e1, true, e3, e4, false⟩], O.set j ⟨⟨e0, e1, true, e3, e4, false⟩, true, true, res, ps⟩, ch, sf, n⟩) := ⟨by rw [HX.out]; unfold stoD; simp only; rw [HOo.out]; simp⟩
          go_wp2_with (first | ((with_reducible refine gate_ (.store 4 (.tmp 183) (.const (.bool true))) rfl ?_); refine at_mop (w0 := w) rfl rfl 4 (.tmp 183) (.const (.bool true)) rfl j 7 (by omega) (.bool true) ⟨⟨e0, e1, true, e3, e4, false⟩, true, true, res, ps⟩ rfl rfl rfl (by kernel_rfl) rfl (by rw [HOo.out]; rfl) HOA.out hjl HBWA.out ?_; intro w8 ho hb hg; have HO8 := Aside0.mk ho; have HB8 := Aside0.mk hb; have HL8 := Aside0.mk (Kd.R_over HLA.out HOA.out (by decide) hg); have HC8 := Aside0.mk (Kd.R_over HCA.out HOA.out (by decide) hg); have HM8 := Aside0.mk (at_mopc HO8.out hjl); have g0 := at_mopc0 HO8.out hjl; rw [mAt_same _ _ _ hjl] at HM8 g0; have g1 := HM8.out 1 _ rfl; have g2 := HM8.out 2 _ rfl; have g3 := HM8.out 3 _ rfl; have g4 := HM8.out 4 _ rfl; have g5 := HM8.out 5 _ rfl; have g6 := HM8.out 6 _ rfl; have g7 := HM8.out 7 _ rfl; have g8 := HM8.out 8 _ rfl; have g9 := HM8.out 9 _ rfl; have HBX := Aside0.mk (below_alloc (Below.refl w8.heap.size w8) (.cells #[.int .i64 2, .int .i64 e1, .bool true, .int .i64 e3, .int .i64 (e4), .bool false] 39)); have HB9 := Aside0.mk (below_step HB8.out HBX.out); have HO9 := Aside0.mk (Kd.R_below HO8.out HBX.out); have HL9 := Aside0.mk (Kd.R_below HL8.out HBX.out); have HC9 := Aside0.mk (Kd.R_below HC8.out HBX.out); have BK9 := Aside0.mk (blk_new w8 (.cells #[.int .i64 2, .int .i64 e1, .bool true, .int .i64 e3, .int .i64 (e4), .bool false] 39)); have HNE := Aside0.mk (show some w8.heap.size ≠ (Value.slice A3 L.length c3).ownBlock from fun e => by have := Kd.R_lt HL8.out _ e.symm; omega); clear ho hb hg) | (at_builtin; go_loud (refine Kd.R_append k39 (w0 := w) w.heap.size rfl (.tmp 199) (.tmp 201) 22 39 (.agg #[(.int .i64 0), (.int .i64 0), (.bool false), (.int .i64 0), (.int .i64 0), (.bool false)]) 48 rfl Try.underlying22 info39 rfl (by decide) (by omega) (.slice A3 L.length c3) L ⟨2, e1, true, e3, e4, false⟩ [.int .i64 2, .int .i64 e1, .bool true, .int .i64 e3, .int .i64 (e4), .bool false] (fun _ => True) (fun _ => False) rfl (by rw [size_alloc]; rfl) (k39_mkM _ _ _ ⟨2, e1, true, e3, e4, false⟩) (fun _ hk => hk.elim) (fun _ _ => trivial) HL9.out HB9.out (below_size HB9.out) (by omega) ?_); intro v6 w6 ho hb hg hat; obtain ⟨A6, c6, hv6, hc6, _⟩ := Kd.R_reads ho; rw [List.length_append, List.length_singleton] at hv6 hc6; subst hv6; have HL6 := Aside0.mk ho; have HB6 := Aside0.mk hb; have HO6 := Aside0.mk (Kd.R_over HO9.out HL9.out (by decide) hg); have HC6 := Aside0.mk (Kd.R_over HC9.out HL9.out (by decide) hg); have BK6 := Aside0.mk (blk_grown BK9.out hg HNE.out); have d5 := (blk_cell BK6.out 5).trans rfl; have HM6 := Aside0.mk (at_mopc HO6.out hjl); rw [mAt_same _ _ _ hjl] at HM6; have p9 := HM6.out 9 _ rfl; clear ho hb hg hat))
          refine ⟨StoInv.mk ⟨x + 1, by omega, by first | rfl | simp, by rw [HN2.out], by rw [HN2.out], by rw [HN2.out]; exact HL6, by rw [HN2.out]; exact HO6, by rw [HN2.out]; exact HC6, HB6⟩, ?_⟩
          simp [StoMu, intOf]; omega
      | false =>
        cases e5 with
        | true =>
          have HN2 : Aside0 (stoN script (x + 1) = ⟨L ++ [⟨2, e1, false, e3, res, true⟩], O.set j ⟨⟨e0, e1, false, e3, e4, true⟩, true, true, res, ps⟩, ch, max sf ps, n⟩) := ⟨by rw [HX.out]; unfold stoD; simp only; rw [HOo.out]; simp⟩
          go_wp2_with (first | ((with_reducible refine gate_ (.store 4 (.tmp 183) (.const (.bool true))) rfl ?_); refine at_mop (w0 := w) rfl rfl 4 (.tmp 183) (.const (.bool true)) rfl j 7 (by omega) (.bool true) ⟨⟨e0, e1, false, e3, e4, true⟩, true, true, res, ps⟩ rfl rfl rfl (by kernel_rfl) rfl (by rw [HOo.out]; rfl) HOA.out hjl HBWA.out ?_; intro w8 ho hb hg; have HO8 := Aside0.mk ho; have HB8 := Aside0.mk hb; have HL8 := Aside0.mk (Kd.R_over HLA.out HOA.out (by decide) hg); have HC8 := Aside0.mk (Kd.R_over HCA.out HOA.out (by decide) hg); have HM8 := Aside0.mk (at_mopc HO8.out hjl); have g0 := at_mopc0 HO8.out hjl; rw [mAt_same _ _ _ hjl] at HM8 g0; have g1 := HM8.out 1 _ rfl; have g2 := HM8.out 2 _ rfl; have g3 := HM8.out 3 _ rfl; have g4 := HM8.out 4 _ rfl; have g5 := HM8.out 5 _ rfl; have g6 := HM8.out 6 _ rfl; have g7 := HM8.out 7 _ rfl; have g8 := HM8.out 8 _ rfl; have g9 := HM8.out 9 _ rfl; have HBX := Aside0.mk (below_alloc (Below.refl w8.heap.size w8) (.cells #[.int .i64 2, .int .i64 e1, .bool false, .int .i64 e3, .int .i64 (res), .bool true] 39)); have HB9 := Aside0.mk (below_step HB8.out HBX.out); have HO9 := Aside0.mk (Kd.R_below HO8.out HBX.out); have HL9 := Aside0.mk (Kd.R_below HL8.out HBX.out); have HC9 := Aside0.mk (Kd.R_below HC8.out HBX.out); have BK9 := Aside0.mk (blk_new w8 (.cells #[.int .i64 2, .int .i64 e1, .bool false, .int .i64 e3, .int .i64 (res), .bool true] 39)); have HNE := Aside0.mk (show some w8.heap.size ≠ (Value.slice A3 L.length c3).ownBlock from fun e => by have := Kd.R_lt HL8.out _ e.symm; omega); have HM9 := Aside0.mk (at_mopc (Kd.R_below HO8.out (below_alloc (Below.refl w8.heap.size w8) (.cells #[.int .i64 2, .int .i64 e1, .bool false, .int .i64 e3, .int .i64 e4, .bool true] 39))) hjl); rw [mAt_same _ _ _ hjl] at HM9; have p8 := HM9.out 8 _ rfl; clear ho hb hg) | (at_builtin; go_loud (refine Kd.R_append k39 (w0 := w) w.heap.size rfl (.tmp 199) (.tmp 201) 22 39 (.agg #[(.int .i64 0), (.int .i64 0), (.bool false), (.int .i64 0), (.int .i64 0), (.bool false)]) 48 rfl Try.underlying22 info39 rfl (by decide) (by omega) (.slice A3 L.length c3) L ⟨2, e1, false, e3, res, true⟩ [.int .i64 2, .int .i64 e1, .bool false, .int .i64 e3, .int .i64 (res), .bool true] (fun _ => True) (fun _ => False) rfl (by rw [size_alloc]; rfl) (k39_mkM _ _ _ ⟨2, e1, false, e3, res, true⟩) (fun _ hk => hk.elim) (fun _ _ => trivial) HL9.out HB9.out (below_size HB9.out) (by omega) ?_); intro v6 w6 ho hb hg hat; obtain ⟨A6, c6, hv6, hc6, _⟩ := Kd.R_reads ho; rw [List.length_append, List.length_singleton] at hv6 hc6; subst hv6; have HL6 := Aside0.mk ho; have HB6 := Aside0.mk hb; have HO6 := Aside0.mk (Kd.R_over HO9.out HL9.out (by decide) hg); have HC6 := Aside0.mk (Kd.R_over HC9.out HL9.out (by decide) hg); have BK6 := Aside0.mk (blk_grown BK9.out hg HNE.out); have d5 := (blk_cell BK6.out 5).trans rfl; have HM6 := Aside0.mk (at_mopc HO6.out hjl); rw [mAt_same _ _ _ hjl] at HM6; have p9 := HM6.out 9 _ rfl; clear ho hb hg hat))
          all_goals
            refine ⟨StoInv.mk ⟨x + 1, by omega, by first | rfl | simp, by rw [HN2.out]; show Value.int _ _ = Value.int _ _; simp only; congr 1; omega, by rw [HN2.out], by rw [HN2.out]; exact HL6, by rw [HN2.out]; exact HO6, by rw [HN2.out]; exact HC6, HB6⟩, ?_⟩
            simp [StoMu, intOf]; omega
        | false =>
          have HN2 : Aside0 (stoN script (x + 1) = ⟨L ++ [⟨2, e1, false, e3, res, false⟩], O.set j ⟨⟨e0, e1, false, e3, e4, false⟩, true, true, res, ps⟩, ch, sf, n⟩) := ⟨by rw [HX.out]; unfold stoD; simp only; rw [HOo.out]; simp⟩
          go_wp2_with (first | ((with_reducible refine gate_ (.store 4 (.tmp 183) (.const (.bool true))) rfl ?_); refine at_mop (w0 := w) rfl rfl 4 (.tmp 183) (.const (.bool true)) rfl j 7 (by omega) (.bool true) ⟨⟨e0, e1, false, e3, e4, false⟩, true, true, res, ps⟩ rfl rfl rfl (by kernel_rfl) rfl (by rw [HOo.out]; rfl) HOA.out hjl HBWA.out ?_; intro w8 ho hb hg; have HO8 := Aside0.mk ho; have HB8 := Aside0.mk hb; have HL8 := Aside0.mk (Kd.R_over HLA.out HOA.out (by decide) hg); have HC8 := Aside0.mk (Kd.R_over HCA.out HOA.out (by decide) hg); have HM8 := Aside0.mk (at_mopc HO8.out hjl); have g0 := at_mopc0 HO8.out hjl; rw [mAt_same _ _ _ hjl] at HM8 g0; have g1 := HM8.out 1 _ rfl; have g2 := HM8.out 2 _ rfl; have g3 := HM8.out 3 _ rfl; have g4 := HM8.out 4 _ rfl; have g5 := HM8.out 5 _ rfl; have g6 := HM8.out 6 _ rfl; have g7 := HM8.out 7 _ rfl; have g8 := HM8.out 8 _ rfl; have g9 := HM8.out 9 _ rfl; have HBX := Aside0.mk (below_alloc (Below.refl w8.heap.size w8) (.cells #[.int .i64 2, .int .i64 e1, .bool false, .int .i64 e3, .int .i64 (res), .bool false] 39)); have HB9 := Aside0.mk (below_step HB8.out HBX.out); have HO9 := Aside0.mk (Kd.R_below HO8.out HBX.out); have HL9 := Aside0.mk (Kd.R_below HL8.out HBX.out); have HC9 := Aside0.mk (Kd.R_below HC8.out HBX.out); have BK9 := Aside0.mk (blk_new w8 (.cells #[.int .i64 2, .int .i64 e1, .bool false, .int .i64 e3, .int .i64 (res), .bool false] 39)); have HNE := Aside0.mk (show some w8.heap.size ≠ (Value.slice A3 L.length c3).ownBlock from fun e => by have := Kd.R_lt HL8.out _ e.symm; omega); have HM9 := Aside0.mk (at_mopc (Kd.R_below HO8.out (below_alloc (Below.refl w8.heap.size w8) (.cells #[.int .i64 2, .int .i64 e1, .bool false, .int .i64 e3, .int .i64 e4, .bool false] 39))) hjl); rw [mAt_same _ _ _ hjl] at HM9; have p8 := HM9.out 8 _ rfl; clear ho hb hg) | (at_builtin; go_loud (refine Kd.R_append k39 (w0 := w) w.heap.size rfl (.tmp 199) (.tmp 201) 22 39 (.agg #[(.int .i64 0), (.int .i64 0), (.bool false), (.int .i64 0), (.int .i64 0), (.bool false)]) 48 rfl Try.underlying22 info39 rfl (by decide) (by omega) (.slice A3 L.length c3) L ⟨2, e1, false, e3, res, false⟩ [.int .i64 2, .int .i64 e1, .bool false, .int .i64 e3, .int .i64 (res), .bool false] (fun _ => True) (fun _ => False) rfl (by rw [size_alloc]; rfl) (k39_mkM _ _ _ ⟨2, e1, false, e3, res, false⟩) (fun _ hk => hk.elim) (fun _ _ => trivial) HL9.out HB9.out (below_size HB9.out) (by omega) ?_); intro v6 w6 ho hb hg hat; obtain ⟨A6, c6, hv6, hc6, _⟩ := Kd.R_reads ho; rw [List.length_append, List.length_singleton] at hv6 hc6; subst hv6; have HL6 := Aside0.mk ho; have HB6 := Aside0.mk hb; have HO6 := Aside0.mk (Kd.R_over HO9.out HL9.out (by decide) hg); have HC6 := Aside0.mk (Kd.R_over HC9.out HL9.out (by decide) hg); have BK6 := Aside0.mk (blk_grown BK9.out hg HNE.out); have d5 := (blk_cell BK6.out 5).trans rfl; have HM6 := Aside0.mk (at_mopc HO6.out hjl); rw [mAt_same _ _ _ hjl] at HM6; have p9 := HM6.out 9 _ rfl; clear ho hb hg hat))
          refine ⟨StoInv.mk ⟨x + 1, by omega, by first | rfl | simp, by rw [HN2.out], by rw [HN2.out], by rw [HN2.out]; exact HL6, by rw [HN2.out]; exact HO6, by rw [HN2.out]; exact HC6, HB6⟩, ?_⟩
          simp [StoMu, intOf]; omega
end Go.Proofs.Ytidghmgaaenihaa.Q

/-! part RStoC7 -/
namespace Go.Proofs.Ytidghmgaaenihaa.Q
open Go.RowKit Go.Proofs.YtidghmgaaenihaaW.PrintWords Go.Proofs.YtidghmgaaenihaaW.PrintLast Go.Proofs.YtidghmgaaenihaaW.PrintMore
set_option linter.unusedVariables false
set_option linter.unusedSimpArgs false
set_option maxHeartbeats 40000000 in
set_option maxRecDepth 1000000 in
theorem sto_case7 {script : List S100} {w wr : World} {ad : Addr} {c x : Nat} {k r q : Int} {L : List S39} {O : List MOp} {ch : List (Int × Int)} {sf n : Int} {A3 : Option Addr} {c3 : Nat} {A4 : Option Addr} {c4 : Nat} {A5 : Option Addr} {c5 : Nat} {Qx : Exit → Act → World → Prop}
    {u9 u10 u11 u12 u13 u14 u15 u16 u17 u18 u19 u20 u21 u22 u23 u24 u25 u26 u27 u28 u29 u30 u31 u32 u33 u34 u35 u36 u37 u38 u39 u40 u41 u42 u43 u44 u45 u46 u47 u48 u49 u50 u51 u52 u53 u54 u55 u56 u57 u58 u59 u60 u61 u62 u63 u64 u65 u66 u67 u68 u69 u70 u71 u72 u73 u74 u75 u76 u77 u78 u79 u80 u81 u82 u83 u84 u85 u86 u87 u88 u89 u90 u91 u92 u93 u94 u95 u96 u97 u98 u99 u100 u101 u102 u103 u104 u105 u106 u107 u108 u109 u110 u111 u112 u113 u114 u115 u116 u117 u118 u119 u120 u121 u122 u123 u124 u125 u126 u127 u128 u129 u130 u131 u132 u133 u134 u135 u136 u137 u138 u139 u140 u141 u142 u143 u144 u145 u146 u147 u148 u149 u150 u151 u152 u153 u154 u155 u156 u157 u158 u159 u160 u161 u162 u163 u164 u165 u166 u167 u168 u169 u170 u171 u172 u173 u174 u175 u176 u177 u178 u179 u180 u181 u182 u183 u184 u185 u186 u187 u188 u189 u190 u191 u192 u193 u194 u195 u196 u197 u198 u199 u200 u201 u202 u203 u204 u205 u206 u207 u208 u209 u210 u211 : Value} (H : StoHead script w wr ad c x k r q L O ch sf n A3 c3 A4 c4 A5 c5) (h : k % 8 = 7) :
    Code.wp Try.prog body27 (Exit.then (fun a' w' => StoInv script w (some ad) c a' w' ∧ StoMu script a' < StoMu script ⟨#[.slice (some ad) script.length c, undef, .slice none 0 0, .slice A3 L.length c3, .slice A4 O.length c4, .slice A5 ch.length c5, .int .i64 sf, .int .i64 n, .int .i64 x, u9, u10, u11, u12, u13, u14, u15, u16, u17, u18, u19, u20, u21, u22, u23, u24, u25, u26, u27, u28, u29, u30, u31, u32, u33, u34, u35, u36, u37, u38, u39, u40, u41, u42, u43, u44, u45, u46, u47, u48, u49, u50, u51, u52, u53, u54, u55, u56, u57, u58, u59, u60, u61, u62, u63, u64, u65, u66, u67, u68, u69, u70, u71, u72, u73, u74, u75, u76, u77, u78, u79, u80, u81, u82, u83, u84, u85, u86, u87, u88, u89, u90, u91, u92, u93, u94, u95, u96, u97, u98, u99, u100, u101, u102, u103, u104, u105, u106, u107, u108, u109, u110, u111, u112, u113, u114, u115, u116, u117, u118, u119, u120, u121, u122, u123, u124, u125, u126, u127, u128, u129, u130, u131, u132, u133, u134, u135, u136, u137, u138, u139, u140, u141, u142, u143, u144, u145, u146, u147, u148, u149, u150, u151, u152, u153, u154, u155, u156, u157, u158, u159, u160, u161, u162, u163, u164, u165, u166, u167, u168, u169, u170, u171, u172, u173, u174, u175, u176, u177, u178, u179, u180, u181, u182, u183, u184, u185, u186, u187, u188, u189, u190, u191, u192, u193, u194, u195, u196, u197, u198, u199, u200, u201, u202, u203, u204, u205, u206, u207, u208, u209, u210, u211, undef], []⟩) Qx) ⟨#[.slice (some ad) script.length c, undef, .slice none 0 0, .slice A3 L.length c3, .slice A4 O.length c4, .slice A5 ch.length c5, .int .i64 sf, .int .i64 n, .int .i64 x, u9, u10, u11, u12, u13, u14, u15, u16, u17, u18, u19, u20, u21, u22, u23, u24, u25, u26, u27, u28, u29, u30, u31, u32, u33, u34, u35, u36, u37, u38, u39, u40, u41, u42, u43, u44, u45, u46, u47, u48, u49, u50, u51, u52, u53, u54, u55, u56, u57, u58, u59, u60, u61, u62, u63, u64, u65, u66, u67, u68, u69, u70, u71, u72, u73, u74, u75, u76, u77, u78, u79, u80, u81, u82, u83, u84, u85, u86, u87, u88, u89, u90, u91, u92, u93, u94, u95, u96, u97, u98, u99, u100, u101, u102, u103, u104, u105, u106, u107, u108, u109, u110, u111, u112, u113, u114, u115, u116, u117, u118, u119, u120, u121, u122, u123, u124, u125, u126, u127, u128, u129, u130, u131, u132, u133, u134, u135, u136, u137, u138, u139, u140, u141, u142, u143, u144, u145, u146, u147, u148, u149, u150, u151, u152, u153, u154, u155, u156, u157, u158, u159, u160, u161, u162, u163, u164, u165, u166, u167, u168, u169, u170, u171, u172, u173, u174, u175, u176, u177, u178, u179, u180, u181, u182, u183, u184, u185, u186, u187, u188, u189, u190, u191, u192, u193, u194, u195, u196, u197, u198, u199, u200, u201, u202, u203, u204, u205, u206, u207, u208, u209, u210, u211, undef], []⟩ wr := by
  obtain ⟨HR, hc, hsz, hlt, s0, s1, s2, k0, k1, r0, r1, q0, q1, HN, bl, bo, bc, bn0, bn1, HL, HO, HC, HC4, HC5, hc3, hc4, hc5, sf0, sf1, HB⟩ := H
  have hx : x ≤ script.length := by omega
  have hltb : (x : Int) < (script.length : Int) := by omega
  have hx0 : (0 : Int) ≤ x := by omega
  have hxb : (x : Int) < 1000 := by omega
  have hkk : 0 ≤ k % 8 := by omega
  have hrm := Int.emod_nonneg r (show (4 : Int) ≠ 0 by decide)
  have hrl := Int.emod_lt_of_pos r (show (0 : Int) < 4 by decide)
  have hjm : O.length ≠ 0 → 0 ≤ q % (O.length : Int) ∧ q % (O.length : Int) < O.length := fun h => ⟨Int.emod_nonneg _ (by omega), Int.emod_lt_of_pos _ (by omega)⟩
  have HJM := Aside0.mk hjm
  clear hjm
  conv => arg 2; whnf
  obtain ⟨kp, hkp⟩ : ∃ kp : Nat, sf + q % ((ch.length : Int) - sf + 1) = kp := ⟨(sf + q % ((ch.length : Int) - sf + 1)).toNat, by have := Int.emod_nonneg q (show (ch.length : Int) - sf + 1 ≠ 0 by omega); omega⟩
  have hm0 := Int.emod_nonneg q (show (ch.length : Int) - sf + 1 ≠ 0 by omega)
  have hm1 := Int.emod_lt_of_pos q (show (0 : Int) < (ch.length : Int) - sf + 1 by omega)
  have hkl : kp ≤ ch.length := by omega
  have HN2 : Aside0 (stoN script (x + 1) = ⟨L ++ [cutE], [], ch.take kp, (kp : Int), n⟩) := ⟨by rw [HN.out]; unfold stoStep; simp only; rw [if_neg (by omega), if_neg (by omega), if_neg (by omega)]; unfold stoC; simp only; rw [hkp]; simp⟩
  clear HN
  obtain ⟨i018, hi018, _, hsz18, _⟩ := info_parts info104
  have hcutT := cut_to (P := Try.prog) 98 104 .i64 Try.underlying98 hi018 A5 ch.length c5 (kp : Int) (by omega) (by omega) hc5
  have HCT := Aside0.mk (show Kd.R k104 104 wr w.heap.size (fun _ => True) (.slice A5 kp c5) (chS (ch.take kp)) by rw [chS_take]; exact Kd.R_take HC.out (by rw [chS_len]; exact hkl))
  have HKP := Aside0.mk hkp
  have hd0 : 0 ≤ (ch.length : Int) - sf := by omega
  have hd1 : (ch.length : Int) - sf ≤ 1000 := by omega
  have HBA := Aside0.mk (below_alloc (Below.refl wr.heap.size wr) (.cells #[.int .u8 k, .int .u8 r, .int .u8 q] 100))
  have HLA := Aside0.mk (Kd.R_below HL.out HBA.out)
  have HCA := Aside0.mk (Kd.R_below HCT.out HBA.out)
  have HBWA := Aside0.mk (below_step HB.out HBA.out)
  by_cases hol : O.length = 0
  · have holb : ¬ ((O.length : Int) > 0) := by omega
    clear hol
    go_wp2_with (at_builtin; go_loud (refine Kd.R_append k39 (w0 := w) w.heap.size rfl (.tmp 51) (.tmp 53) 22 39 (.agg #[(.int .i64 0), (.int .i64 0), (.bool false), (.int .i64 0), (.int .i64 0), (.bool false)]) 48 rfl Try.underlying22 info39 rfl (by decide) (by omega) (.slice A3 L.length c3) L cutE [.int .i64 3, .int .i64 0, .bool false, .int .i64 0, .int .i64 0, .bool false] (fun _ => True) (fun _ => False) rfl (by rw [size_alloc]; rfl) (k39_mkM _ _ _ cutE) (fun _ hk => hk.elim) (fun _ _ => trivial) HLA.out HBWA.out (below_size HBWA.out) (by omega) ?_); intro v6 w6 ho hb hg hat; obtain ⟨A6, c6, hv6, hc6, _⟩ := Kd.R_reads ho; rw [List.length_append, List.length_singleton] at hv6 hc6; subst hv6; have HL6 := Aside0.mk ho; have HB6 := Aside0.mk hb; have HC6 := Aside0.mk (Kd.R_over HCA.out HLA.out (by decide) hg); clear ho hb hg hat)
    refine ⟨StoInv.mk ⟨x + 1, by omega, by first | rfl | simp, by rw [HN2.out], by rw [HN2.out], by rw [HN2.out]; exact HL6, by rw [HN2.out]; exact ⟨Kd.R_nil _ _ _ _ _⟩, by rw [HN2.out]; exact HC6, HB6⟩, ?_⟩
    simp [StoMu, intOf]; omega
  · have holb : (O.length : Int) > 0 := by omega
    obtain ⟨j0, j1⟩ := HJM.out hol
    clear hol
    go_wp2_with (at_builtin; go_loud (refine Kd.R_append k39 (w0 := w) w.heap.size rfl (.tmp 51) (.tmp 53) 22 39 (.agg #[(.int .i64 0), (.int .i64 0), (.bool false), (.int .i64 0), (.int .i64 0), (.bool false)]) 48 rfl Try.underlying22 info39 rfl (by decide) (by omega) (.slice A3 L.length c3) L cutE [.int .i64 3, .int .i64 0, .bool false, .int .i64 0, .int .i64 0, .bool false] (fun _ => True) (fun _ => False) rfl (by rw [size_alloc]; rfl) (k39_mkM _ _ _ cutE) (fun _ hk => hk.elim) (fun _ _ => trivial) HLA.out HBWA.out (below_size HBWA.out) (by omega) ?_); intro v6 w6 ho hb hg hat; obtain ⟨A6, c6, hv6, hc6, _⟩ := Kd.R_reads ho; rw [List.length_append, List.length_singleton] at hv6 hc6; subst hv6; have HL6 := Aside0.mk ho; have HB6 := Aside0.mk hb; have HC6 := Aside0.mk (Kd.R_over HCA.out HLA.out (by decide) hg); clear ho hb hg hat)
    refine ⟨StoInv.mk ⟨x + 1, by omega, by first | rfl | simp, by rw [HN2.out], by rw [HN2.out], by rw [HN2.out]; exact HL6, by rw [HN2.out]; exact ⟨Kd.R_nil _ _ _ _ _⟩, by rw [HN2.out]; exact HC6, HB6⟩, ?_⟩
    simp [StoMu, intOf]; omega
end Go.Proofs.Ytidghmgaaenihaa.Q

/-! part RSto -/
namespace Go.Proofs.Ytidghmgaaenihaa.Q
open Go.RowKit Go.Proofs.YtidghmgaaenihaaW.PrintWords Go.Proofs.YtidghmgaaenihaaW.PrintLast Go.Proofs.YtidghmgaaenihaaW.PrintMore
set_option linter.unusedVariables false
set_option linter.unusedSimpArgs false
set_option maxHeartbeats 40000000 in
set_option maxRecDepth 100000 in
theorem storage_ref (A : Option Addr) (c : Nat) (script : List S100) (w : World) (hr : Kd.C k100 w A script.length script) (hc : script.length ≤ c) (hok : ∀ x ∈ script, okAct47 x) (hsz : script.length ≤ 1000) :
    Calls Try.prog 27 #[.slice A script.length c] w (StoPost script w) := by
  have HR := Aside0.mk hr
  have HA := Aside0.mk hok
  clear hr hok
  go_enter Try.func27, Try.ntmps27
  go_wp2
  go_loopw [3, 4, 5, 6, 7, 8, 9, 10, 11, 12, 13] (fun v3 v4 v5 v6 v7 v8 _ _ _ _ _ wr => ∃ x : Nat, x ≤ script.length ∧ v8 = .int .i64 x ∧ v6 = .int .i64 (stoN script x).safe ∧ v7 = .int .i64 (stoN script x).n ∧ Aside0 (Kd.R k39 39 wr w.heap.size (fun _ => True) v3 (stoN script x).l) ∧ Aside0 (Kd.R k102 102 wr w.heap.size (fun _ => True) v4 (stoN script x).ops) ∧ Aside0 (Kd.R k104 104 wr w.heap.size (fun _ => True) v5 (chS (stoN script x).ch)) ∧ Aside0 (Below w.heap.size w wr))
    (fun _ _ _ _ _ v8 _ _ _ _ _ _ => script.length - (intOf v8).toNat)
  case atStart => exact ⟨0, by omega, rfl, rfl, rfl, ⟨Kd.R_nil _ _ _ _ _⟩, ⟨Kd.R_nil _ _ _ _ _⟩, ⟨Kd.R_nil _ _ _ _ _⟩, ⟨Below.refl _ _⟩⟩
  case round =>
    obtain ⟨x, hx, rfl, rfl, rfl, HL, HO, HC, HB⟩ := hrel
    by_cases hlt : x < script.length
    · have hltb : (x : Int) < (script.length : Int) := by omega
      have hx0 : (0 : Int) ≤ x := by omega
      have hxb : (x : Int) < 1000 := by omega
      have HN := Aside0.mk (stoN_succ script hlt)
      have HSB := Aside0.mk (stoB script x hx)
      have HOK := Aside0.mk (stoN_ok HA.out x hx)
      obtain ⟨s, HSt⟩ : ∃ s, Aside0 (stoN script x = s) := ⟨_, ⟨rfl⟩⟩
      rw [HSt.out] at HL HO HC HN HSB HOK ⊢
      obtain ⟨ad, eA, s0, s1, s2⟩ := at_T100 (Kd.C_below HR.out HB.out) x hx0 hltb
      subst eA
      obtain ⟨a, HE⟩ : ∃ a, Aside0 (rd_T100 script (x : Int) = a) := ⟨_, ⟨rfl⟩⟩
      have HAA := Aside0.mk (HA.out _ (show rd_T100 script (x : Int) ∈ script by simp [rd_T100, List.getD_eq_getElem?_getD, hlt]))
      rw [HE.out] at s0 s1 s2 HAA HN
      obtain ⟨k, r, q⟩ := a
      simp only [Int.toNat_natCast] at s0 s1 s2
      obtain ⟨⟨k0, k1⟩, ⟨r0, r1⟩, ⟨q0, q1⟩⟩ := HAA.out
      simp only at k0 k1 r0 r1 q0 q1
      obtain ⟨L, O, ch, sf, n⟩ := s
      obtain ⟨bl, bo, bc, bn0, bn1⟩ := HSB.out
      simp only at bl bo bc bn0 bn1 HL HO HC ⊢
      obtain ⟨A3, c3, rfl, hc3, _⟩ := Kd.R_reads HL.out
      obtain ⟨A4, c4, rfl, hc4, hC4⟩ := Kd.R_reads HO.out
      obtain ⟨A5, c5, rfl, hc5, hC5⟩ := Kd.R_reads HC.out
      have HC4 := Aside0.mk hC4
      rw [chS_len] at hC5
      have HC5 := Aside0.mk hC5
      rw [chS_len] at hc5 HC ⊢
      clear hC4 hC5
      have hsafe : 0 ≤ sf ∧ sf ≤ (ch.length : Int) := by
        obtain ⟨P, era, base, C, safe, snap, hI, h1, h2, h3⟩ := HOK.out
        have := hI.sle
        simp only at h1 h2
        rw [h1, h2]; simp [chOf]; omega
      obtain ⟨sf0, sf1⟩ := hsafe
      have hcs : k % 8 = 0 ∨ k % 8 = 1 ∨ k % 8 = 2 ∨ k % 8 = 3 ∨ k % 8 = 4 ∨ k % 8 = 5 ∨ k % 8 = 6 ∨ k % 8 = 7 := by omega
      have HH : StoHead script w wr ad c x k r q L O ch sf n A3 c3 A4 c4 A5 c5 := ⟨HR, hc, hsz, hlt, s0, s1, s2, k0, k1, r0, r1, q0, q1, HN, bl, bo, bc, bn0, bn1, HL, HO, HC, HC4, HC5, hc3, hc4, hc5, sf0, sf1, HB⟩
      rcases hcs with h | h | h | h | h | h | h | h
      · exact sto_case0 HH h
      · exact sto_case1 HH h
      · exact sto_case2 HH h
      · exact sto_case3 HH h
      · exact sto_case4 HH h
      · exact sto_case5 HH h
      · exact sto_case6 HH h
      · exact sto_case7 HH h
    · obtain rfl : x = script.length := by omega
      go_wp2
      go_ret
      exact ⟨_, rfl, HL.out, HB.out⟩
end Go.Proofs.Ytidghmgaaenihaa.Q

/-! part PLaw9 -/
namespace Go.Proofs.Ytidghmgaaenihaa.Q
open Go.RowKit Go.Proofs.YtidghmgaaenihaaW.PrintWords Go.Proofs.YtidghmgaaenihaaW.PrintLast Go.Proofs.YtidghmgaaenihaaW.PrintMore
set_option linter.unusedVariables false
set_option linter.unusedSimpArgs false
theorem awake47_true9 : tegulalaw47_awake.f = some true := by rfl
theorem check_of {l : List S39} {fs : List S32} (h : checkQ l = (fs, 0)) : (checkP l).1.map to32 = fs ∧ (checkP l).2 = 0 := by
  rw [checkQ_eq] at h
  exact ⟨congrArg Prod.fst h, congrArg Prod.snd h⟩
set_option maxHeartbeats 4000000 in
set_option maxRecDepth 100000 in
theorem law9_walk (A : Option Addr) (c : Nat) (script : List S100) (w : World) (hr : Kd.C k100 w A script.length script) (hc : script.length ≤ c) (hok : ∀ x ∈ script, okAct47 x) :
    Calls Try.prog 9 #[.slice A script.length c] w fun e w' => e = .returned (.bool true) ∧ Below w.heap.size w w' := by
  have HR := Aside0.mk hr
  have HA := Aside0.mk hok
  clear hr hok
  have hlen : script.length ≤ 9223372036854775807 := HR.out.2.1
  by_cases hbig : script.length > 80
  · have hb2 : (script.length : Int) > 80 := by omega
    go_enter Try.func9, Try.ntmps9
    go_wp2_with (go_at_call 19; (with_reducible refine (tegulalaw47_awake.calls true _ awake47_true9).mono ?_); rintro e w1 ⟨rfl, hB⟩)
    go_ret
    exact ⟨rfl, hB⟩
  · have hb2 : ¬ (script.length : Int) > 80 := by omega
    have HS := Aside0.mk (fun W h => storage_ref A c script W h hc HA.out (by omega))
    have HL := Aside0.mk (show (stoN script script.length).l.length ≤ 1000000 from by have := (stoB script script.length (Nat.le_refl _)).l; omega)
    have HCQ := Aside0.mk (sto_check (stoN_ok HA.out script.length (Nat.le_refl _)))
    unfold StoPost at HS
    obtain ⟨l, hl⟩ : ∃ l, (stoN script script.length).l = l := ⟨_, rfl⟩
    rw [hl] at HS HL HCQ
    clear hl
    have HC1 := Aside0.mk (check_of HCQ.out.2)
    have HT : Aside0 (durable_Traceable.f l = some true) := ⟨by unfold durable_Traceable.f; rw [if_pos HL.out, ← trace_eq, HCQ.out.1]⟩
    have HCF : Aside0 (durable_Check.f l = some ([], 0)) := ⟨by
      unfold durable_Check.f
      rw [if_pos HL.out]
      congr 1
      exact Prod.ext (List.map_eq_nil_iff.1 HC1.out.1) HC1.out.2⟩
    clear HC1 HCQ
    go_enter Try.func9, Try.ntmps9
    go_wp2_with fail
    (with_reducible refine (tegulalaw47_awake.calls true _ awake47_true9).mono ?_)
    rintro e w1 ⟨rfl, hB⟩
    have HB1 := Aside0.mk hB
    clear hB
    go_wp2_with fail
    (with_reducible refine (HS.out _ (Kd.C_below HR.out HB1.out)).mono ?_)
    rintro e w2 ⟨u, rfl, hU, hB⟩
    obtain ⟨A2, c2, rfl, hc2, hC2⟩ := Kd.R_reads hU
    have HB2 := Aside0.mk (below_step HB1.out hB)
    have HC2 := Aside0.mk hC2
    clear hB hU hC2
    go_wp2_with fail
    (with_reducible refine (durable_Check.calls A2 c2 l [] 0 w2 HC2.out hc2 HCF.out).mono ?_)
    rintro e w3 ⟨v3, rfl, hV, hB⟩
    obtain ⟨A3, c3, rfl, hc3, _⟩ := Kd.R_reads hV
    have HB3 := Aside0.mk (below_step HB2.out hB)
    have HC3 := Aside0.mk (Kd.C_below HC2.out hB)
    clear hB hV
    go_wp2_with fail
    (with_reducible refine (durable_Traceable.calls A2 c2 l true w3 HC3.out hc2 HT.out).mono ?_)
    rintro e w4 ⟨rfl, hB⟩
    have HB4 := Aside0.mk (below_step HB3.out hB)
    clear hB
    go_wp2
    go_ret
    exact ⟨rfl, HB4.out⟩
end Go.Proofs.Ytidghmgaaenihaa.Q

/-! part HOpen -/
namespace Go.Proofs.Ytidghmgaaenihaa.Q
open Go.RowKit Go.Proofs.YtidghmgaaenihaaW.PrintWords Go.Proofs.YtidghmgaaenihaaW.PrintLast Go.Proofs.YtidghmgaaenihaaW.PrintMore
open Go.ChangeShapes Go.WideShapes Go.Deep
set_option linter.unusedVariables false
instance : Inhabited S39 := ⟨⟨0, 0, false, 0, 0, false⟩⟩
end Go.Proofs.Ytidghmgaaenihaa.Q

/-! part HOpen2 -/
namespace Go.Proofs.Ytidghmgaaenihaa.Q
open Go.RowKit Go.Proofs.YtidghmgaaenihaaW.PrintWords Go.Proofs.YtidghmgaaenihaaW.PrintLast Go.Proofs.YtidghmgaaenihaaW.PrintMore
open Go.ChangeShapes Go.WideShapes Go.Deep Go.WideMaps
set_option linter.unusedVariables false
theorem u8_range {a : Int} (h : (Lit.int .u8 a).wf = true) : 0 ≤ a ∧ a < 256 := by
  have h2 : IntKind.u8.min ≤ a ∧ a ≤ IntKind.u8.max := by simpa [Lit.wf] using h
  have e1 : IntKind.u8.min = 0 := by decide
  have e2 : IntKind.u8.max = 255 := by decide
  omega
end Go.Proofs.Ytidghmgaaenihaa.Q

/-! part HOpen5 -/
namespace Go.Proofs.Ytidghmgaaenihaa.Q
open Go.RowKit Go.Proofs.YtidghmgaaenihaaW.PrintWords Go.Proofs.YtidghmgaaenihaaW.PrintLast Go.Proofs.YtidghmgaaenihaaW.PrintMore
open Go.ChangeShapes Go.WideShapes Go.Deep
set_option linter.unusedVariables false
theorem cellsOf100 : Try.prog.cellsOf 100 = 3 := by kernel_rfl
instance : Inhabited S100 := ⟨⟨0, 0, 0⟩⟩
theorem one100 (fs : Array Field) (h : Try.prog.underlying 100 = some (.struct fs)) : oneCellFields Try.prog fs = true := by
  rw [Try.underlying100] at h
  cases h
  kernel_rfl
set_option maxRecDepth 100000 in
theorem act_cells47 {H : Type} {enc : TypeId × Value → H} {w : World} {base : Nat} {spare : Nat → Bool} {held : Bool} {fuel : Nat} {cs : List Value} {x : DataW H × List MemPlace}
    (h : DataW.trod enc Try.prog w base spare held fuel 100 cs = some x) : ∃ e : S100, cs = [.int .u8 e.f0, .int .u8 e.f1, .int .u8 e.f2] ∧ okAct47 e := by
  obtain ⟨ys, n, _, _, hlen, hyl, hf⟩ := DataW.trod_struct Try.underlying100 h
  rw [cellsOf100] at hlen
  match cs, hlen with
  | [c0, c1, c2], _ =>
    match ys, hyl with
    | [y0, y1, y2], _ =>
      have hone := hone_of (one100 _ Try.underlying100)
      have g0 := hf 0 _ rfl
      obtain ⟨o0, z0⟩ := hone 0 _ rfl
      rw [o0, z0] at g0
      obtain ⟨n0, e0, -, w0⟩ := DataW.trod_int Try.underlying5 (show DataW.trod enc Try.prog w base spare held n 5 [c0] = some y0 from g0)
      have g1 := hf 1 _ rfl
      obtain ⟨o1, z1⟩ := hone 1 _ rfl
      rw [o1, z1] at g1
      obtain ⟨n1, e1, -, w1⟩ := DataW.trod_int Try.underlying5 (show DataW.trod enc Try.prog w base spare held n 5 [c1] = some y1 from g1)
      have g2 := hf 2 _ rfl
      obtain ⟨o2, z2⟩ := hone 2 _ rfl
      rw [o2, z2] at g2
      obtain ⟨n2, e2, -, w2⟩ := DataW.trod_int Try.underlying5 (show DataW.trod enc Try.prog w base spare held n 5 [c2] = some y2 from g2)
      refine ⟨⟨n0, n1, n2⟩, ?_, u8_range w0, u8_range w1, u8_range w2⟩
      simp only [List.cons.injEq, and_true] at e0 e1 e2
      rw [e0, e1, e2]
theorem open_acts47 {H : Type} {enc : TypeId × Value → H} {w : World} {base : Nat} {spare : Nat → Bool} {held : Bool} {fuel : Nat} {A : Option Addr} {len cap : Nat} {x : DataW H × List MemPlace}
    (h : DataW.trod enc Try.prog w base spare held fuel 48 [.slice A len cap] = some x) : ∃ l : List S100, l.length = len ∧ len ≤ cap ∧ Kd.C k100 w A len l ∧ ∀ x ∈ l, okAct47 x := by
  rcases open_slice Try.underlying48 h with ⟨hcs, _⟩ | ⟨a, len', cap', m, n, D, Pl, hcs, hb, hl, hm, hmm, hx, hi⟩
  · simp only [List.cons.injEq, Value.slice.injEq, and_true] at hcs
    obtain ⟨rfl, rfl, rfl⟩ := hcs
    exact ⟨[], rfl, Nat.le_refl _, ⟨rfl, by decide, fun h => absurd h (by decide)⟩, fun x hx => by cases hx⟩
  · simp only [List.cons.injEq, Value.slice.injEq, and_true] at hcs
    obtain ⟨rfl, rfl, rfl⟩ := hcs
    rw [cellsOf100] at hi
    have each : ∀ i, i < len → ∃ e : S100, okAct47 e ∧ ∀ j u, [Value.int .u8 e.f0, .int .u8 e.f1, .int .u8 e.f2][j]? = some u → w.cell? (a.add (i * 3 + j)) = some u := by
      intro i hil
      have him : i < m := by rw [hmm]; split <;> omega
      obtain ⟨cs', hc, ht⟩ := hi i him
      obtain ⟨e, rfl, hok⟩ := act_cells47 ht
      obtain ⟨_, _, hat⟩ := World.cells?_some hc
      refine ⟨e, hok, fun j u hj => ?_⟩
      have hj3 : j < 3 := (List.getElem?_eq_some_iff.1 hj).1
      rw [← Go.Deep.add_add, hat j hj3, hj]
    obtain ⟨q, hq⟩ := choose_lt each
    refine ⟨(List.range len).map q, by simp, hl, ⟨by simp, Nat.le_trans (Nat.le_trans hl hm) (by decide), fun _ => ⟨a, rfl, fun j p hj => ?_⟩⟩, fun x hx => ?_⟩
    · rw [List.getElem?_map] at hj
      obtain ⟨j', hj', rfl⟩ := Option.map_eq_some_iff.1 hj
      obtain ⟨hjl, e⟩ := List.getElem?_eq_some_iff.1 hj'
      rw [List.getElem_range] at e
      subst e
      rw [List.length_range] at hjl
      exact ⟨_, rfl, k100_mk w (q j), fun i u hu => (hq j hjl).2 i u hu⟩
    · obtain ⟨j, hj, rfl⟩ := List.mem_map.1 hx
      exact (hq j (List.mem_range.1 hj)).1
end Go.Proofs.Ytidghmgaaenihaa.Q
