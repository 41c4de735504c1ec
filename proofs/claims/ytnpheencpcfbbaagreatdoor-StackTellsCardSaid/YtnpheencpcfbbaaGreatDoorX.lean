/-
  The chapter's example holds. No condition.
-/
import Derived.Test.YtnpheencpcfbbaaGreatDoorL3
import Derived.Test.YtnpheencpcfbbaaGreatDoorS
set_option linter.unusedSimpArgs false
set_option linter.unusedVariables false
namespace Go.Abs.Z
open Go Go.Abs Go.Proofs
def al0 : AV := .agg [.list [.agg [I 53, I 0, I 0, I 2, I 0, I 0, I 0, I 0, I 0, I 0, I 0, I 0, I 0, I 0, I 0, I 0, I 0, I 0]] false, .list [] false, .list [] false, .list [I 0] false, .list [] false, .list [] false, .list [] false, .list [] false, .list [] false, .list [] false, .list [] false, .list [] false, I 0, I 0, I 0, I 0, I 1, I 0, I 0, I 0, I 0, I 20, I 0, I 0, I 0, I 0, I 0, I 0, I 0, I 0, I 0, I 0, I 0, I 0, I 0, I 0, I 0]
def alr0 : AV := .agg [.list [.agg [I 53, I 0, I 0, I 2, I 0, I 0, I 0, I 0, I 0, I 0, I 0, I 0, I 0, I 0, I 0, I 0, I 0, I 0]] false, .list [] false, .list [] false, .list [I 0] false, .list [] false, .list [] false, .list [] false, .list [] false, .list [] false, .list [] false, .list [] false, .list [] false, I 0, I 0, I 0, I 0, I 1, I 0, I 0, I 0, I 0, I 20, I 0, I 0, I 0, I 0, I 0, I 0, I 0, I 0, I 0, I 0, I 0, I 0, I 0, I 0, I 0]
theorem alc0 : readW (callW Tryz.prog (exec Tryz.prog cfg 1000)) 39 [al0] [] = some (alr0, []) := by kernel_rfl
def al1 : AV := .agg [.list [.agg [I 53, I 0, I 0, I 4, I 0, I 0, I 0, I 0, I 0, I 0, I 0, I 0, I 0, I 0, I 0, I 0, I 0, I 3]] false, .list [] false, .list [] false, .list [] false, .list [] false, .list [I 0] false, .list [] false, .list [] false, .list [] false, .list [] false, .list [] false, .list [] false, I 0, I 0, I 0, I 0, I 0, I 0, I 0, I 0, I 0, I 18, I 0, I 0, I 0, I 0, I 0, I 0, I 0, I 0, I 0, I 0, I 0, I 0, I 0, I 0, I 0]
def alr1 : AV := .agg [.list [.agg [I 53, I 0, I 0, I 4, I 0, I 0, I 0, I 0, I 0, I 0, I 0, I 0, I 0, I 0, I 0, I 0, I 0, I 3]] false, .list [] false, .list [] false, .list [] false, .list [] false, .list [I 0] false, .list [] false, .list [] false, .list [] false, .list [] false, .list [] false, .list [] false, I 0, I 0, I 0, I 0, I 0, I 0, I 0, I 0, I 0, I 18, I 0, I 0, I 0, I 0, I 0, I 0, I 0, I 0, I 0, I 0, I 0, I 0, I 0, I 0, I 0]
theorem alc1 : readW (callW Tryz.prog (exec Tryz.prog cfg 1000)) 39 [al1] [] = some (alr1, []) := by kernel_rfl
def al2 : AV := .agg [.list [.agg [I 53, I 0, I 0, I 9, I 0, I 0, I 0, I 0, I 0, I 0, I 0, I 0, I 0, I 0, I 0, I 0, I (-2), I 3]] false, .list [] false, .list [] false, .list [] false, .list [] false, .list [] false, .list [] false, .list [] false, .list [] false, .list [] false, .list [I 0] false, .list [] false, I 0, I 0, I 0, I 0, I 0, I 0, I 0, I 0, I 0, I 18, I 0, I 0, I 0, I 0, I 0, I 0, I 0, I 0, I 0, I 0, I 0, I 0, I 0, I 0, I 0]
def alr2 : AV := .agg [.list [.agg [I 53, I 0, I 0, I 9, I 0, I 0, I 0, I 0, I 0, I 0, I 0, I 0, I 0, I 0, I 0, I 0, I (-2), I 3]] false, .list [] false, .list [] false, .list [] false, .list [] false, .list [] false, .list [] false, .list [] false, .list [] false, .list [] false, .list [I 0] false, .list [] false, I 0, I 0, I 0, I 0, I 0, I 0, I 0, I 0, I 0, I 18, I 0, I 0, I 0, I 0, I 0, I 0, I 0, I 0, I 0, I 0, I 0, I 0, I 0, I 0, I 0]
theorem alc2 : readW (callW Tryz.prog (exec Tryz.prog cfg 1000)) 39 [al2] [] = some (alr2, []) := by kernel_rfl
def al3 : AV := .agg [.list [.agg [I 53, I 0, I 0, I 9, I 0, I 0, I 0, I 0, I 0, I 0, I 0, I 0, I 0, I 0, I 0, I 0, I (-2), I 3]] false, .list [] false, .list [] false, .list [] false, .list [] false, .list [] false, .list [] false, .list [] false, .list [] false, .list [] false, .list [I 0] false, .list [] false, I 0, I 0, I 0, I 0, I 0, I 0, I 0, I 0, I 0, I 20, I 0, I 0, I 0, I 0, I 0, I 0, I 0, I 0, I 0, I 0, I 0, I 0, I 0, I 0, I 0]
def alr3 : AV := .agg [.list [.agg [I 53, I 0, I 0, I 9, I 0, I 0, I 0, I 0, I 0, I 0, I 0, I 0, I 0, I 0, I 0, I 0, I (-2), I 3]] false, .list [] false, .list [] false, .list [] false, .list [] false, .list [] false, .list [] false, .list [] false, .list [] false, .list [] false, .list [I 0] false, .list [] false, I 0, I 0, I 0, I 0, I 0, I 0, I 0, I 0, I 0, I 20, I 0, I 0, I 0, I 0, I 0, I 0, I 0, I 0, I 0, I 0, I 0, I 0, I 0, I 0, I 0]
theorem alc3 : readW (callW Tryz.prog (exec Tryz.prog cfg 1000)) 39 [al3] [] = some (alr3, []) := by kernel_rfl
def al4 : AV := .agg [.list [.agg [I 53, I 0, I 0, I 2, I 0, I 0, I 0, I 0, I 0, I 0, I 0, I 0, I 0, I 0, I 0, I 0, I 0, I 0]] false, .list [] false, .list [] false, .list [I 0] false, .list [] false, .list [] false, .list [] false, .list [] false, .list [] false, .list [] false, .list [] false, .list [] false, I 0, I 0, I 0, I 0, I 1, I 0, I 0, I 0, I 0, I 20, I 0, I 0, I 0, I 0, I 0, I 0, I 0, I 0, I 0, I 0, I 0, I 0, I 0, I 0, I 0]
def alr4 : AV := .nilIface
theorem alc4 : readW (callW Tryz.prog (exec Tryz.prog cfg 1000)) 41 [al4] [] = some (alr4, []) := by kernel_rfl
def al5 : AV := .agg [.list [.agg [I 53, I 0, I 0, I 9, I 0, I 0, I 0, I 0, I 0, I 0, I 0, I 0, I 0, I 0, I 0, I 0, I (-2), I 3]] false, .list [] false, .list [] false, .list [] false, .list [] false, .list [] false, .list [] false, .list [] false, .list [] false, .list [] false, .list [I 0] false, .list [] false, I 0, I 0, I 0, I 0, I 0, I 0, I 0, I 0, I 0, I 20, I 0, I 0, I 0, I 0, I 0, I 0, I 0, I 0, I 0, I 0, I 0, I 0, I 0, I 0, I 0]
def alr5 : AV := .nilIface
theorem alc5 : readW (callW Tryz.prog (exec Tryz.prog cfg 1000)) 41 [al5] [] = some (alr5, []) := by kernel_rfl
def al6 : AV := I 53
def alr6 : AV := .tuple [.agg [I 2, I 3, .bool true, I 0, I 0, I 0, I 1, I 0, I 0, I 0, I 0, I 0, .list [.agg [I 0, I 0, I 0, I 0, I 0, I 0, I 0, .bool false, I 3, I 1, I 2, I 0, I 2, .list [] false]] false], .nilIface]
theorem alc6 : readW (callW Tryz.prog (exec Tryz.prog cfg 1000)) 179 [al6] [] = some (alr6, []) := by kernel_rfl
def al7 : AV := .agg [I 1, I 0, I 2, I 0, I 9, I 0]
def alr7 : AV := .nilIface
theorem alc7 : readW (callW Tryz.prog (exec Tryz.prog cfg 1000)) 188 [al7] [] = some (alr7, []) := by kernel_rfl
def al8 : AV := .agg [I 1, I 0, I 9, I 0, I 4, I 0]
def alr8 : AV := .nilIface
theorem alc8 : readW (callW Tryz.prog (exec Tryz.prog cfg 1000)) 188 [al8] [] = some (alr8, []) := by kernel_rfl
def al9 : AV := .agg [I 2, I 0, I 10, I 0, I 0, I 0]
def alr9 : AV := .nilIface
theorem alc9 : readW (callW Tryz.prog (exec Tryz.prog cfg 1000)) 188 [al9] [] = some (alr9, []) := by kernel_rfl
def al10 : AV := .agg [I 2, I 0, I 11, I 0, I 0, I 0]
def alr10 : AV := .nilIface
theorem alc10 : readW (callW Tryz.prog (exec Tryz.prog cfg 1000)) 188 [al10] [] = some (alr10, []) := by kernel_rfl
def al11 : AV := .agg [I 2, I 0, I 12, I 0, I 0, I 0]
def alr11 : AV := .nilIface
theorem alc11 : readW (callW Tryz.prog (exec Tryz.prog cfg 1000)) 188 [al11] [] = some (alr11, []) := by kernel_rfl
def al12 : AV := .agg [I 2, I 0, I 16, I (-2), I 0, I 0]
def alr12 : AV := .nilIface
theorem alc12 : readW (callW Tryz.prog (exec Tryz.prog cfg 1000)) 188 [al12] [] = some (alr12, []) := by kernel_rfl
def al13 : AV := .agg [I 2, I 0, I 16, I 0, I (-2), I 0]
def alr13 : AV := .nilIface
theorem alc13 : readW (callW Tryz.prog (exec Tryz.prog cfg 1000)) 188 [al13] [] = some (alr13, []) := by kernel_rfl
def al14 : AV := .agg [I 2, I 0, I 16, I 0, I 0, I 0]
def alr14 : AV := .nilIface
theorem alc14 : readW (callW Tryz.prog (exec Tryz.prog cfg 1000)) 188 [al14] [] = some (alr14, []) := by kernel_rfl
def al15 : AV := .agg [I 2, I 0, I 17, I 0, I 3, I 0]
def alr15 : AV := .nilIface
theorem alc15 : readW (callW Tryz.prog (exec Tryz.prog cfg 1000)) 188 [al15] [] = some (alr15, []) := by kernel_rfl
def al16 : AV := .agg [I 2, I 0, I 2, I 0, I 0, I 0]
def alr16 : AV := .nilIface
theorem alc16 : readW (callW Tryz.prog (exec Tryz.prog cfg 1000)) 188 [al16] [] = some (alr16, []) := by kernel_rfl
def al17 : AV := .agg [I 2, I 0, I 4, I 0, I 0, I 0]
def alr17 : AV := .nilIface
theorem alc17 : readW (callW Tryz.prog (exec Tryz.prog cfg 1000)) 188 [al17] [] = some (alr17, []) := by kernel_rfl
def al18 : AV := .agg [I 2, I 0, I 5, I 0, I 0, I 0]
def alr18 : AV := .nilIface
theorem alc18 : readW (callW Tryz.prog (exec Tryz.prog cfg 1000)) 188 [al18] [] = some (alr18, []) := by kernel_rfl
def al19 : AV := .agg [I 2, I 0, I 6, I 0, I 0, I 0]
def alr19 : AV := .nilIface
theorem alc19 : readW (callW Tryz.prog (exec Tryz.prog cfg 1000)) 188 [al19] [] = some (alr19, []) := by kernel_rfl
def al20 : AV := .agg [I 2, I 0, I 7, I 0, I 0, I 0]
def alr20 : AV := .nilIface
theorem alc20 : readW (callW Tryz.prog (exec Tryz.prog cfg 1000)) 188 [al20] [] = some (alr20, []) := by kernel_rfl
def al21 : AV := .agg [I 2, I 0, I 8, I 0, I 0, I 0]
def alr21 : AV := .nilIface
theorem alc21 : readW (callW Tryz.prog (exec Tryz.prog cfg 1000)) 188 [al21] [] = some (alr21, []) := by kernel_rfl
def al22 : AV := .agg [I 2, I 0, I 9, I 0, I 0, I 0]
def alr22 : AV := .nilIface
theorem alc22 : readW (callW Tryz.prog (exec Tryz.prog cfg 1000)) 188 [al22] [] = some (alr22, []) := by kernel_rfl
def al23 : AV := .agg [I 3, I 0, I 1, I 0, I 0, I 0]
def alr23 : AV := .nilIface
theorem alc23 : readW (callW Tryz.prog (exec Tryz.prog cfg 1000)) 188 [al23] [] = some (alr23, []) := by kernel_rfl
def al24 : AV := .agg [I 3, I 0, I 2, I 0, I 0, I 0]
def alr24 : AV := .nilIface
theorem alc24 : readW (callW Tryz.prog (exec Tryz.prog cfg 1000)) 188 [al24] [] = some (alr24, []) := by kernel_rfl
def al25 : AV := .agg [I 3, I 0, I 3, I 0, I 0, I 0]
def alr25 : AV := .nilIface
theorem alc25 : readW (callW Tryz.prog (exec Tryz.prog cfg 1000)) 188 [al25] [] = some (alr25, []) := by kernel_rfl
def al26 : AV := .agg [I 3, I 0, I 4, I 0, I 0, I 0]
def alr26 : AV := .nilIface
theorem alc26 : readW (callW Tryz.prog (exec Tryz.prog cfg 1000)) 188 [al26] [] = some (alr26, []) := by kernel_rfl
def al27 : AV := .agg [I 3, I 0, I 4, I 1, I 0, I 0]
def alr27 : AV := .nilIface
theorem alc27 : readW (callW Tryz.prog (exec Tryz.prog cfg 1000)) 188 [al27] [] = some (alr27, []) := by kernel_rfl
def al28 : AV := .agg [I 3, I 0, I 5, I 0, I 0, I 0]
def alr28 : AV := .nilIface
theorem alc28 : readW (callW Tryz.prog (exec Tryz.prog cfg 1000)) 188 [al28] [] = some (alr28, []) := by kernel_rfl
def al29 : AV := .agg [I 3, I 0, I 6, I 0, I 0, I 0]
def alr29 : AV := .nilIface
theorem alc29 : readW (callW Tryz.prog (exec Tryz.prog cfg 1000)) 188 [al29] [] = some (alr29, []) := by kernel_rfl
def al30 : AV := .agg [I 3, I 1, I 0, I 0, I 0, I 0]
def alr30 : AV := .nilIface
theorem alc30 : readW (callW Tryz.prog (exec Tryz.prog cfg 1000)) 188 [al30] [] = some (alr30, []) := by kernel_rfl
def al31 : AV := .agg [I 3, I 1, I 0, I 20, I 18, I 0]
def alr31 : AV := .nilIface
theorem alc31 : readW (callW Tryz.prog (exec Tryz.prog cfg 1000)) 188 [al31] [] = some (alr31, []) := by kernel_rfl
theorem mode_cal (c f : Nat) (h : (f == 42) = false) : cfg.mode c f = cfg.mode 0 f := by
  show modeF c f = modeF 0 f
  unfold modeF
  rw [h, Bool.and_false, Bool.and_false]
def lookTal : List (Nat × AV × AV) → Nat → AV → Option AV
  | [], _, _ => none
  | p :: l, f, a => if (f == p.1 && eqA a p.2.1) = true then some p.2.2 else lookTal l f a
def goodTal : List (Nat × AV × AV) → Prop
  | [] => True
  | p :: l => ((∀ caller, cfg.mode caller p.1 = .reader) ∧ readW (callW Tryz.prog (exec Tryz.prog cfg 1000)) p.1 [p.2.1] [] = some (p.2.2, []) ∧ ∃ s, snap 0 6 [] p.2.2 = some (p.2.2, s)) ∧ goodTal l
theorem look_okal : ∀ {L : List (Nat × AV × AV)} {f : Nat} {a r : AV}, goodTal L → lookTal L f a = some r → (∀ caller, cfg.mode caller f = .reader) ∧ readW (callW Tryz.prog (exec Tryz.prog cfg 1000)) f [a] [] = some (r, []) ∧ ∃ s, snap 0 6 [] r = some (r, s)
  | [], _, _, _, _, h => by cases h
  | p :: l, f, a, r, hg, h => by
    rw [lookTal] at h
    by_cases hc : (f == p.1 && eqA a p.2.1) = true
    · rw [if_pos hc] at h
      rw [Bool.and_eq_true] at hc
      cases h
      rw [eq_of_beq hc.1, eqA_eq hc.2]
      exact hg.1
    · rw [if_neg hc] at h
      exact look_okal hg.2 h
def tabLal : List (Nat × AV × AV) := [(39, al0, alr0), (39, al1, alr1), (39, al2, alr2), (39, al3, alr3), (41, al4, alr4), (41, al5, alr5), (179, al6, alr6), (188, al7, alr7), (188, al8, alr8), (188, al9, alr9), (188, al10, alr10), (188, al11, alr11), (188, al12, alr12), (188, al13, alr13), (188, al14, alr14), (188, al15, alr15), (188, al16, alr16), (188, al17, alr17), (188, al18, alr18), (188, al19, alr19), (188, al20, alr20), (188, al21, alr21), (188, al22, alr22), (188, al23, alr23), (188, al24, alr24), (188, al25, alr25), (188, al26, alr26), (188, al27, alr27), (188, al28, alr28), (188, al29, alr29), (188, al30, alr30), (188, al31, alr31)]
def tabal : Tab := fun f args => match args with
  | [a] => lookTal tabLal f a
  | _ => none
theorem tabgal : goodTal tabLal := ⟨⟨fun caller => (mode_cal caller 39 rfl).trans (by kernel_rfl), alc0, [], by kernel_rfl⟩, ⟨fun caller => (mode_cal caller 39 rfl).trans (by kernel_rfl), alc1, [], by kernel_rfl⟩, ⟨fun caller => (mode_cal caller 39 rfl).trans (by kernel_rfl), alc2, [], by kernel_rfl⟩, ⟨fun caller => (mode_cal caller 39 rfl).trans (by kernel_rfl), alc3, [], by kernel_rfl⟩, ⟨fun caller => (mode_cal caller 41 rfl).trans (by kernel_rfl), alc4, [], by kernel_rfl⟩, ⟨fun caller => (mode_cal caller 41 rfl).trans (by kernel_rfl), alc5, [], by kernel_rfl⟩, ⟨fun caller => (mode_cal caller 179 rfl).trans (by kernel_rfl), alc6, [], by kernel_rfl⟩, ⟨fun caller => (mode_cal caller 188 rfl).trans (by kernel_rfl), alc7, [], by kernel_rfl⟩, ⟨fun caller => (mode_cal caller 188 rfl).trans (by kernel_rfl), alc8, [], by kernel_rfl⟩, ⟨fun caller => (mode_cal caller 188 rfl).trans (by kernel_rfl), alc9, [], by kernel_rfl⟩, ⟨fun caller => (mode_cal caller 188 rfl).trans (by kernel_rfl), alc10, [], by kernel_rfl⟩, ⟨fun caller => (mode_cal caller 188 rfl).trans (by kernel_rfl), alc11, [], by kernel_rfl⟩, ⟨fun caller => (mode_cal caller 188 rfl).trans (by kernel_rfl), alc12, [], by kernel_rfl⟩, ⟨fun caller => (mode_cal caller 188 rfl).trans (by kernel_rfl), alc13, [], by kernel_rfl⟩, ⟨fun caller => (mode_cal caller 188 rfl).trans (by kernel_rfl), alc14, [], by kernel_rfl⟩, ⟨fun caller => (mode_cal caller 188 rfl).trans (by kernel_rfl), alc15, [], by kernel_rfl⟩, ⟨fun caller => (mode_cal caller 188 rfl).trans (by kernel_rfl), alc16, [], by kernel_rfl⟩, ⟨fun caller => (mode_cal caller 188 rfl).trans (by kernel_rfl), alc17, [], by kernel_rfl⟩, ⟨fun caller => (mode_cal caller 188 rfl).trans (by kernel_rfl), alc18, [], by kernel_rfl⟩, ⟨fun caller => (mode_cal caller 188 rfl).trans (by kernel_rfl), alc19, [], by kernel_rfl⟩, ⟨fun caller => (mode_cal caller 188 rfl).trans (by kernel_rfl), alc20, [], by kernel_rfl⟩, ⟨fun caller => (mode_cal caller 188 rfl).trans (by kernel_rfl), alc21, [], by kernel_rfl⟩, ⟨fun caller => (mode_cal caller 188 rfl).trans (by kernel_rfl), alc22, [], by kernel_rfl⟩, ⟨fun caller => (mode_cal caller 188 rfl).trans (by kernel_rfl), alc23, [], by kernel_rfl⟩, ⟨fun caller => (mode_cal caller 188 rfl).trans (by kernel_rfl), alc24, [], by kernel_rfl⟩, ⟨fun caller => (mode_cal caller 188 rfl).trans (by kernel_rfl), alc25, [], by kernel_rfl⟩, ⟨fun caller => (mode_cal caller 188 rfl).trans (by kernel_rfl), alc26, [], by kernel_rfl⟩, ⟨fun caller => (mode_cal caller 188 rfl).trans (by kernel_rfl), alc27, [], by kernel_rfl⟩, ⟨fun caller => (mode_cal caller 188 rfl).trans (by kernel_rfl), alc28, [], by kernel_rfl⟩, ⟨fun caller => (mode_cal caller 188 rfl).trans (by kernel_rfl), alc29, [], by kernel_rfl⟩, ⟨fun caller => (mode_cal caller 188 rfl).trans (by kernel_rfl), alc30, [], by kernel_rfl⟩, ⟨fun caller => (mode_cal caller 188 rfl).trans (by kernel_rfl), alc31, [], by kernel_rfl⟩, trivial⟩
theorem tabal_ok : TabOk Tryz.prog cfg tabal 1000 := by
  intro f args r h
  match args, h with
  | [a], h => exact look_okal tabgal h
theorem al_t : readW (callW Tryz.prog (execT Tryz.prog tabal cfg 2000)) 27 [] [] = some (.bool true, []) := by kernel_rfl
theorem al_w : ∀ k σ, 3000 ≤ k → readW (callW Tryz.prog (exec Tryz.prog cfg k)) 27 [] σ = some (.bool true, σ) := fun k σ hk => readT_ok tabal_ok al_t hk
end Go.Abs.Z
