/- Walks, written by a program for this claim: each Go function that the laws reach comes to what its Lean function says. -/
import Derived.Test.YtijkmjhfhnhjeaaPx0
import Derived.Test.YtijkmjhfhnhjeaaPx1
import Derived.Test.YtijkmjhfhnhjeaaPx2
namespace Go.Proofs.Ytijkmjhfhnhjeaa.P
open Go.RowKit Go.Proofs.YtijkmjhfhnhjeaaW.PrintWords Go.Proofs.YtijkmjhfhnhjeaaW.PrintLast Go.Proofs.YtijkmjhfhnhjeaaW.PrintMore
attribute [local go_sem] max2_int min2_int max_two min_two max_three min_three max_four min_four   -- for this text's walks alone
set_option linter.unusedVariables false
set_option linter.unusedSimpArgs false

/-! ### hatstandlaw9_SlotTells: function 6 -/
def hatstandlaw9_SlotTells.f (k : Nat) (a0 : Int) (a1 : Int) (a2 : Int) (a3 : Int) (a4 : Bool) : Option (Bool) := (hatstandlaw9_shown.f).bind fun t139 => (if t139 = true then ((slot_Offer.f a3 a4 a1).bind fun bt140 => ((hatstandref9_Offer.f a3 a4 a1).bind fun bt142 => ((slot_Claim.f a3 a4 a1).bind fun bt144 => ((hatstandref9_Claim.f k a3 a4 a1).bind fun bt146 => ((slot_Word.f a0 a1 a2).bind fun t148 => ((hatstandref9_Word.f a0 a1 a2).bind fun t149 => (if t148 = t149 then ((slot_State.f a3).bind fun t150 => ((hatstandref9_State.f a3).bind fun t151 => (if t150 = t151 then ((slot_Index.f a3).bind fun t152 => ((hatstandref9_Index.f a3).bind fun t153 => (if t152 = t153 then ((slot_Stamp.f a3).bind fun t154 => ((hatstandref9_Stamp.f a3).bind fun t155 => (if t154 = t155 then ((slot_Meets.f a3 a4).bind fun t156 => ((hatstandref9_Meets.f a3 a4).bind fun t157 => (if (t156 == t157) = true then (if bt140.1 = bt142.1 then (if (bt140.2 == bt142.2) = true then (if bt144.1 = bt146.1 then (if (bt144.2 == bt146.2) = true then ((slot_Clear.f a3).bind fun t158 => ((hatstandref9_Clear.f a3).bind fun t159 => (some (t158 == t159)))) else (some false)) else (some false)) else (some false)) else (some false)) else (some false)))) else (some false)))) else (some false)))) else (some false)))) else (some false)))))))) else (some false))
theorem hatstandlaw9_SlotTells.mono : ∀ a0 a1 a2 a3 a4 k, LeO (hatstandlaw9_SlotTells.f k a0 a1 a2 a3 a4) (hatstandlaw9_SlotTells.f (k + 1) a0 a1 a2 a3 a4) := by
  intro a0 a1 a2 a3 a4 k
  unfold hatstandlaw9_SlotTells.f
  repeat' first
      | (with_reducible exact hatstandref9_Claim.mono _ _ _ _)
      | (with_reducible exact LeO.refl _)
      | (with_reducible exact LeO.none _)
      | (with_reducible refine LeO.ite ?_ ?_)
      | (with_reducible refine LeO.bind ?_ (fun _ => ?_))
      | exact hatstandref9_Claim.mono _ _ _ _
      | exact LeO.none _
      | refine LeO.ite ?_ ?_
      | refine LeO.bind ?_ (fun _ => ?_)
set_option maxHeartbeats 8000000 in
set_option maxRecDepth 100000 in
theorem hatstandlaw9_SlotTells.calls (k : Nat) (a0 : Int) (a1 : Int) (a2 : Int) (a3 : Int) (a4 : Bool) (r : Bool) (w : World) (h : hatstandlaw9_SlotTells.f k a0 a1 a2 a3 a4 = some r) (ht_ : r = true) :
    Calls Try.prog 6 #[.int .i64 a0, .int .u32 a1, .int .u32 a2, .int .u64 a3, .bool a4] w fun e w' => e = .returned (.bool r) ∧ Drawn0 w w' := by
  have HT0 := Aside0.mk ht_
  clear ht_
  have H : ((hatstandlaw9_shown.f).bind fun t139 => (if t139 = true then ((slot_Offer.f a3 a4 a1).bind fun bt140 => ((hatstandref9_Offer.f a3 a4 a1).bind fun bt142 => ((slot_Claim.f a3 a4 a1).bind fun bt144 => ((hatstandref9_Claim.f k a3 a4 a1).bind fun bt146 => ((slot_Word.f a0 a1 a2).bind fun t148 => ((hatstandref9_Word.f a0 a1 a2).bind fun t149 => (if t148 = t149 then ((slot_State.f a3).bind fun t150 => ((hatstandref9_State.f a3).bind fun t151 => (if t150 = t151 then ((slot_Index.f a3).bind fun t152 => ((hatstandref9_Index.f a3).bind fun t153 => (if t152 = t153 then ((slot_Stamp.f a3).bind fun t154 => ((hatstandref9_Stamp.f a3).bind fun t155 => (if t154 = t155 then ((slot_Meets.f a3 a4).bind fun t156 => ((hatstandref9_Meets.f a3 a4).bind fun t157 => (if (t156 == t157) = true then (if bt140.1 = bt142.1 then (if (bt140.2 == bt142.2) = true then (if bt144.1 = bt146.1 then (if (bt144.2 == bt146.2) = true then ((slot_Clear.f a3).bind fun t158 => ((hatstandref9_Clear.f a3).bind fun t159 => (some (t158 == t159)))) else (some false)) else (some false)) else (some false)) else (some false)) else (some false)))) else (some false)))) else (some false)))) else (some false)))) else (some false)))))))) else (some false))) = some r := h
  clear h
  replace H := Option.bind_eq_some_iff.mp H
  obtain ⟨t139, A60, H⟩ := H
  replace H : (if t139 = true then ((slot_Offer.f a3 a4 a1).bind fun bt140 => ((hatstandref9_Offer.f a3 a4 a1).bind fun bt142 => ((slot_Claim.f a3 a4 a1).bind fun bt144 => ((hatstandref9_Claim.f k a3 a4 a1).bind fun bt146 => ((slot_Word.f a0 a1 a2).bind fun t148 => ((hatstandref9_Word.f a0 a1 a2).bind fun t149 => (if t148 = t149 then ((slot_State.f a3).bind fun t150 => ((hatstandref9_State.f a3).bind fun t151 => (if t150 = t151 then ((slot_Index.f a3).bind fun t152 => ((hatstandref9_Index.f a3).bind fun t153 => (if t152 = t153 then ((slot_Stamp.f a3).bind fun t154 => ((hatstandref9_Stamp.f a3).bind fun t155 => (if t154 = t155 then ((slot_Meets.f a3 a4).bind fun t156 => ((hatstandref9_Meets.f a3 a4).bind fun t157 => (if (t156 == t157) = true then (if bt140.1 = bt142.1 then (if (bt140.2 == bt142.2) = true then (if bt144.1 = bt146.1 then (if (bt144.2 == bt146.2) = true then ((slot_Clear.f a3).bind fun t158 => ((hatstandref9_Clear.f a3).bind fun t159 => (some (t158 == t159)))) else (some false)) else (some false)) else (some false)) else (some false)) else (some false)))) else (some false)))) else (some false)))) else (some false)))) else (some false)))))))) else (some false)) = some r := H
  have A6 := Aside0.mk A60
  clear A60
  by_cases c7 : t139 = true
  · subst c7
    have H1 : ((slot_Offer.f a3 a4 a1).bind fun bt140 => ((hatstandref9_Offer.f a3 a4 a1).bind fun bt142 => ((slot_Claim.f a3 a4 a1).bind fun bt144 => ((hatstandref9_Claim.f k a3 a4 a1).bind fun bt146 => ((slot_Word.f a0 a1 a2).bind fun t148 => ((hatstandref9_Word.f a0 a1 a2).bind fun t149 => (if t148 = t149 then ((slot_State.f a3).bind fun t150 => ((hatstandref9_State.f a3).bind fun t151 => (if t150 = t151 then ((slot_Index.f a3).bind fun t152 => ((hatstandref9_Index.f a3).bind fun t153 => (if t152 = t153 then ((slot_Stamp.f a3).bind fun t154 => ((hatstandref9_Stamp.f a3).bind fun t155 => (if t154 = t155 then ((slot_Meets.f a3 a4).bind fun t156 => ((hatstandref9_Meets.f a3 a4).bind fun t157 => (if (t156 == t157) = true then (if bt140.1 = bt142.1 then (if (bt140.2 == bt142.2) = true then (if bt144.1 = bt146.1 then (if (bt144.2 == bt146.2) = true then ((slot_Clear.f a3).bind fun t158 => ((hatstandref9_Clear.f a3).bind fun t159 => (some (t158 == t159)))) else (some false)) else (some false)) else (some false)) else (some false)) else (some false)))) else (some false)))) else (some false)))) else (some false)))) else (some false)))))))) = some r := by rw [if_pos rfl] at H; exact H
    clear H
    have H := H1
    clear H1
    replace H := Option.bind_eq_some_iff.mp H
    obtain ⟨⟨t140, t141⟩, A80, H⟩ := H
    replace H : ((hatstandref9_Offer.f a3 a4 a1).bind fun bt142 => ((slot_Claim.f a3 a4 a1).bind fun bt144 => ((hatstandref9_Claim.f k a3 a4 a1).bind fun bt146 => ((slot_Word.f a0 a1 a2).bind fun t148 => ((hatstandref9_Word.f a0 a1 a2).bind fun t149 => (if t148 = t149 then ((slot_State.f a3).bind fun t150 => ((hatstandref9_State.f a3).bind fun t151 => (if t150 = t151 then ((slot_Index.f a3).bind fun t152 => ((hatstandref9_Index.f a3).bind fun t153 => (if t152 = t153 then ((slot_Stamp.f a3).bind fun t154 => ((hatstandref9_Stamp.f a3).bind fun t155 => (if t154 = t155 then ((slot_Meets.f a3 a4).bind fun t156 => ((hatstandref9_Meets.f a3 a4).bind fun t157 => (if (t156 == t157) = true then (if t140 = bt142.1 then (if (t141 == bt142.2) = true then (if bt144.1 = bt146.1 then (if (bt144.2 == bt146.2) = true then ((slot_Clear.f a3).bind fun t158 => ((hatstandref9_Clear.f a3).bind fun t159 => (some (t158 == t159)))) else (some false)) else (some false)) else (some false)) else (some false)) else (some false)))) else (some false)))) else (some false)))) else (some false)))) else (some false))))))) = some r := H
    have A8 := Aside0.mk A80
    clear A80
    replace H := Option.bind_eq_some_iff.mp H
    obtain ⟨⟨t142, t143⟩, A90, H⟩ := H
    replace H : ((slot_Claim.f a3 a4 a1).bind fun bt144 => ((hatstandref9_Claim.f k a3 a4 a1).bind fun bt146 => ((slot_Word.f a0 a1 a2).bind fun t148 => ((hatstandref9_Word.f a0 a1 a2).bind fun t149 => (if t148 = t149 then ((slot_State.f a3).bind fun t150 => ((hatstandref9_State.f a3).bind fun t151 => (if t150 = t151 then ((slot_Index.f a3).bind fun t152 => ((hatstandref9_Index.f a3).bind fun t153 => (if t152 = t153 then ((slot_Stamp.f a3).bind fun t154 => ((hatstandref9_Stamp.f a3).bind fun t155 => (if t154 = t155 then ((slot_Meets.f a3 a4).bind fun t156 => ((hatstandref9_Meets.f a3 a4).bind fun t157 => (if (t156 == t157) = true then (if t140 = t142 then (if (t141 == t143) = true then (if bt144.1 = bt146.1 then (if (bt144.2 == bt146.2) = true then ((slot_Clear.f a3).bind fun t158 => ((hatstandref9_Clear.f a3).bind fun t159 => (some (t158 == t159)))) else (some false)) else (some false)) else (some false)) else (some false)) else (some false)))) else (some false)))) else (some false)))) else (some false)))) else (some false)))))) = some r := H
    have A9 := Aside0.mk A90
    clear A90
    replace H := Option.bind_eq_some_iff.mp H
    obtain ⟨⟨t144, t145⟩, A100, H⟩ := H
    replace H : ((hatstandref9_Claim.f k a3 a4 a1).bind fun bt146 => ((slot_Word.f a0 a1 a2).bind fun t148 => ((hatstandref9_Word.f a0 a1 a2).bind fun t149 => (if t148 = t149 then ((slot_State.f a3).bind fun t150 => ((hatstandref9_State.f a3).bind fun t151 => (if t150 = t151 then ((slot_Index.f a3).bind fun t152 => ((hatstandref9_Index.f a3).bind fun t153 => (if t152 = t153 then ((slot_Stamp.f a3).bind fun t154 => ((hatstandref9_Stamp.f a3).bind fun t155 => (if t154 = t155 then ((slot_Meets.f a3 a4).bind fun t156 => ((hatstandref9_Meets.f a3 a4).bind fun t157 => (if (t156 == t157) = true then (if t140 = t142 then (if (t141 == t143) = true then (if t144 = bt146.1 then (if (t145 == bt146.2) = true then ((slot_Clear.f a3).bind fun t158 => ((hatstandref9_Clear.f a3).bind fun t159 => (some (t158 == t159)))) else (some false)) else (some false)) else (some false)) else (some false)) else (some false)))) else (some false)))) else (some false)))) else (some false)))) else (some false))))) = some r := H
    have A10 := Aside0.mk A100
    clear A100
    replace H := Option.bind_eq_some_iff.mp H
    obtain ⟨⟨t146, t147⟩, A110, H⟩ := H
    replace H : ((slot_Word.f a0 a1 a2).bind fun t148 => ((hatstandref9_Word.f a0 a1 a2).bind fun t149 => (if t148 = t149 then ((slot_State.f a3).bind fun t150 => ((hatstandref9_State.f a3).bind fun t151 => (if t150 = t151 then ((slot_Index.f a3).bind fun t152 => ((hatstandref9_Index.f a3).bind fun t153 => (if t152 = t153 then ((slot_Stamp.f a3).bind fun t154 => ((hatstandref9_Stamp.f a3).bind fun t155 => (if t154 = t155 then ((slot_Meets.f a3 a4).bind fun t156 => ((hatstandref9_Meets.f a3 a4).bind fun t157 => (if (t156 == t157) = true then (if t140 = t142 then (if (t141 == t143) = true then (if t144 = t146 then (if (t145 == t147) = true then ((slot_Clear.f a3).bind fun t158 => ((hatstandref9_Clear.f a3).bind fun t159 => (some (t158 == t159)))) else (some false)) else (some false)) else (some false)) else (some false)) else (some false)))) else (some false)))) else (some false)))) else (some false)))) else (some false)))) = some r := H
    have A11 := Aside0.mk A110
    clear A110
    replace H := Option.bind_eq_some_iff.mp H
    obtain ⟨t148, A120, H⟩ := H
    replace H : ((hatstandref9_Word.f a0 a1 a2).bind fun t149 => (if t148 = t149 then ((slot_State.f a3).bind fun t150 => ((hatstandref9_State.f a3).bind fun t151 => (if t150 = t151 then ((slot_Index.f a3).bind fun t152 => ((hatstandref9_Index.f a3).bind fun t153 => (if t152 = t153 then ((slot_Stamp.f a3).bind fun t154 => ((hatstandref9_Stamp.f a3).bind fun t155 => (if t154 = t155 then ((slot_Meets.f a3 a4).bind fun t156 => ((hatstandref9_Meets.f a3 a4).bind fun t157 => (if (t156 == t157) = true then (if t140 = t142 then (if (t141 == t143) = true then (if t144 = t146 then (if (t145 == t147) = true then ((slot_Clear.f a3).bind fun t158 => ((hatstandref9_Clear.f a3).bind fun t159 => (some (t158 == t159)))) else (some false)) else (some false)) else (some false)) else (some false)) else (some false)))) else (some false)))) else (some false)))) else (some false)))) else (some false))) = some r := H
    have A12 := Aside0.mk A120
    clear A120
    replace H := Option.bind_eq_some_iff.mp H
    obtain ⟨t149, A130, H⟩ := H
    replace H : (if t148 = t149 then ((slot_State.f a3).bind fun t150 => ((hatstandref9_State.f a3).bind fun t151 => (if t150 = t151 then ((slot_Index.f a3).bind fun t152 => ((hatstandref9_Index.f a3).bind fun t153 => (if t152 = t153 then ((slot_Stamp.f a3).bind fun t154 => ((hatstandref9_Stamp.f a3).bind fun t155 => (if t154 = t155 then ((slot_Meets.f a3 a4).bind fun t156 => ((hatstandref9_Meets.f a3 a4).bind fun t157 => (if (t156 == t157) = true then (if t140 = t142 then (if (t141 == t143) = true then (if t144 = t146 then (if (t145 == t147) = true then ((slot_Clear.f a3).bind fun t158 => ((hatstandref9_Clear.f a3).bind fun t159 => (some (t158 == t159)))) else (some false)) else (some false)) else (some false)) else (some false)) else (some false)))) else (some false)))) else (some false)))) else (some false)))) else (some false)) = some r := H
    have A13 := Aside0.mk A130
    clear A130
    by_cases c14 : t148 = t149
    · rw [if_pos c14] at H
      have c14b0 : (t148 == t149) = true := beq_iff_eq.mpr c14
      have c14b1 : (t148 != t149) = false := bne_eq_false_iff_eq.mpr c14
      clear c14
      replace H := Option.bind_eq_some_iff.mp H
      obtain ⟨t150, A150, H⟩ := H
      replace H : ((hatstandref9_State.f a3).bind fun t151 => (if t150 = t151 then ((slot_Index.f a3).bind fun t152 => ((hatstandref9_Index.f a3).bind fun t153 => (if t152 = t153 then ((slot_Stamp.f a3).bind fun t154 => ((hatstandref9_Stamp.f a3).bind fun t155 => (if t154 = t155 then ((slot_Meets.f a3 a4).bind fun t156 => ((hatstandref9_Meets.f a3 a4).bind fun t157 => (if (t156 == t157) = true then (if t140 = t142 then (if (t141 == t143) = true then (if t144 = t146 then (if (t145 == t147) = true then ((slot_Clear.f a3).bind fun t158 => ((hatstandref9_Clear.f a3).bind fun t159 => (some (t158 == t159)))) else (some false)) else (some false)) else (some false)) else (some false)) else (some false)))) else (some false)))) else (some false)))) else (some false))) = some r := H
      have A15 := Aside0.mk A150
      clear A150
      replace H := Option.bind_eq_some_iff.mp H
      obtain ⟨t151, A160, H⟩ := H
      replace H : (if t150 = t151 then ((slot_Index.f a3).bind fun t152 => ((hatstandref9_Index.f a3).bind fun t153 => (if t152 = t153 then ((slot_Stamp.f a3).bind fun t154 => ((hatstandref9_Stamp.f a3).bind fun t155 => (if t154 = t155 then ((slot_Meets.f a3 a4).bind fun t156 => ((hatstandref9_Meets.f a3 a4).bind fun t157 => (if (t156 == t157) = true then (if t140 = t142 then (if (t141 == t143) = true then (if t144 = t146 then (if (t145 == t147) = true then ((slot_Clear.f a3).bind fun t158 => ((hatstandref9_Clear.f a3).bind fun t159 => (some (t158 == t159)))) else (some false)) else (some false)) else (some false)) else (some false)) else (some false)))) else (some false)))) else (some false)))) else (some false)) = some r := H
      have A16 := Aside0.mk A160
      clear A160
      by_cases c17 : t150 = t151
      · rw [if_pos c17] at H
        have c17b0 : (t150 == t151) = true := beq_iff_eq.mpr c17
        have c17b1 : (t150 != t151) = false := bne_eq_false_iff_eq.mpr c17
        clear c17
        replace H := Option.bind_eq_some_iff.mp H
        obtain ⟨t152, A180, H⟩ := H
        replace H : ((hatstandref9_Index.f a3).bind fun t153 => (if t152 = t153 then ((slot_Stamp.f a3).bind fun t154 => ((hatstandref9_Stamp.f a3).bind fun t155 => (if t154 = t155 then ((slot_Meets.f a3 a4).bind fun t156 => ((hatstandref9_Meets.f a3 a4).bind fun t157 => (if (t156 == t157) = true then (if t140 = t142 then (if (t141 == t143) = true then (if t144 = t146 then (if (t145 == t147) = true then ((slot_Clear.f a3).bind fun t158 => ((hatstandref9_Clear.f a3).bind fun t159 => (some (t158 == t159)))) else (some false)) else (some false)) else (some false)) else (some false)) else (some false)))) else (some false)))) else (some false))) = some r := H
        have A18 := Aside0.mk A180
        clear A180
        replace H := Option.bind_eq_some_iff.mp H
        obtain ⟨t153, A190, H⟩ := H
        replace H : (if t152 = t153 then ((slot_Stamp.f a3).bind fun t154 => ((hatstandref9_Stamp.f a3).bind fun t155 => (if t154 = t155 then ((slot_Meets.f a3 a4).bind fun t156 => ((hatstandref9_Meets.f a3 a4).bind fun t157 => (if (t156 == t157) = true then (if t140 = t142 then (if (t141 == t143) = true then (if t144 = t146 then (if (t145 == t147) = true then ((slot_Clear.f a3).bind fun t158 => ((hatstandref9_Clear.f a3).bind fun t159 => (some (t158 == t159)))) else (some false)) else (some false)) else (some false)) else (some false)) else (some false)))) else (some false)))) else (some false)) = some r := H
        have A19 := Aside0.mk A190
        clear A190
        by_cases c20 : t152 = t153
        · rw [if_pos c20] at H
          have c20b0 : (t152 == t153) = true := beq_iff_eq.mpr c20
          have c20b1 : (t152 != t153) = false := bne_eq_false_iff_eq.mpr c20
          clear c20
          replace H := Option.bind_eq_some_iff.mp H
          obtain ⟨t154, A210, H⟩ := H
          replace H : ((hatstandref9_Stamp.f a3).bind fun t155 => (if t154 = t155 then ((slot_Meets.f a3 a4).bind fun t156 => ((hatstandref9_Meets.f a3 a4).bind fun t157 => (if (t156 == t157) = true then (if t140 = t142 then (if (t141 == t143) = true then (if t144 = t146 then (if (t145 == t147) = true then ((slot_Clear.f a3).bind fun t158 => ((hatstandref9_Clear.f a3).bind fun t159 => (some (t158 == t159)))) else (some false)) else (some false)) else (some false)) else (some false)) else (some false)))) else (some false))) = some r := H
          have A21 := Aside0.mk A210
          clear A210
          replace H := Option.bind_eq_some_iff.mp H
          obtain ⟨t155, A220, H⟩ := H
          replace H : (if t154 = t155 then ((slot_Meets.f a3 a4).bind fun t156 => ((hatstandref9_Meets.f a3 a4).bind fun t157 => (if (t156 == t157) = true then (if t140 = t142 then (if (t141 == t143) = true then (if t144 = t146 then (if (t145 == t147) = true then ((slot_Clear.f a3).bind fun t158 => ((hatstandref9_Clear.f a3).bind fun t159 => (some (t158 == t159)))) else (some false)) else (some false)) else (some false)) else (some false)) else (some false)))) else (some false)) = some r := H
          have A22 := Aside0.mk A220
          clear A220
          by_cases c23 : t154 = t155
          · rw [if_pos c23] at H
            have c23b0 : (t154 == t155) = true := beq_iff_eq.mpr c23
            have c23b1 : (t154 != t155) = false := bne_eq_false_iff_eq.mpr c23
            clear c23
            replace H := Option.bind_eq_some_iff.mp H
            obtain ⟨t156, A240, H⟩ := H
            replace H : ((hatstandref9_Meets.f a3 a4).bind fun t157 => (if (t156 == t157) = true then (if t140 = t142 then (if (t141 == t143) = true then (if t144 = t146 then (if (t145 == t147) = true then ((slot_Clear.f a3).bind fun t158 => ((hatstandref9_Clear.f a3).bind fun t159 => (some (t158 == t159)))) else (some false)) else (some false)) else (some false)) else (some false)) else (some false))) = some r := H
            have A24 := Aside0.mk A240
            clear A240
            replace H := Option.bind_eq_some_iff.mp H
            obtain ⟨t157, A250, H⟩ := H
            replace H : (if (t156 == t157) = true then (if t140 = t142 then (if (t141 == t143) = true then (if t144 = t146 then (if (t145 == t147) = true then ((slot_Clear.f a3).bind fun t158 => ((hatstandref9_Clear.f a3).bind fun t159 => (some (t158 == t159)))) else (some false)) else (some false)) else (some false)) else (some false)) else (some false)) = some r := H
            have A25 := Aside0.mk A250
            clear A250
            by_cases c26 : (t156 == t157) = true
            · rw [if_pos c26] at H
              have c26b0 : (t156 == t157) = true := c26
              (try (have c26b1 : decide (t156 = t157) = true := by simpa using c26))
              (try (have c26b2 : (t156 == t157) = true := by simpa using c26))
              clear c26
              by_cases c27 : t140 = t142
              · rw [if_pos c27] at H
                have c27b0 : (t140 == t142) = true := beq_iff_eq.mpr c27
                have c27b1 : (t140 != t142) = false := bne_eq_false_iff_eq.mpr c27
                clear c27
                by_cases c28 : (t141 == t143) = true
                · rw [if_pos c28] at H
                  have c28b0 : (t141 == t143) = true := c28
                  (try (have c28b1 : decide (t141 = t143) = true := by simpa using c28))
                  (try (have c28b2 : (t141 == t143) = true := by simpa using c28))
                  clear c28
                  by_cases c29 : t144 = t146
                  · rw [if_pos c29] at H
                    have c29b0 : (t144 == t146) = true := beq_iff_eq.mpr c29
                    have c29b1 : (t144 != t146) = false := bne_eq_false_iff_eq.mpr c29
                    clear c29
                    by_cases c30 : (t145 == t147) = true
                    · rw [if_pos c30] at H
                      have c30b0 : (t145 == t147) = true := c30
                      (try (have c30b1 : decide (t145 = t147) = true := by simpa using c30))
                      (try (have c30b2 : (t145 == t147) = true := by simpa using c30))
                      clear c30
                      replace H := Option.bind_eq_some_iff.mp H
                      obtain ⟨t158, A310, H⟩ := H
                      replace H : ((hatstandref9_Clear.f a3).bind fun t159 => (some (t158 == t159))) = some r := H
                      have A31 := Aside0.mk A310
                      clear A310
                      replace H := Option.bind_eq_some_iff.mp H
                      obtain ⟨t159, A320, H⟩ := H
                      replace H : (some (t158 == t159)) = some r := H
                      have A32 := Aside0.mk A320
                      clear A320
                      obtain rfl := Option.some.inj H
                      go_enter Try.func6, Try.ntmps6
                      go_wp2_with (first | ((with_reducible refine gate_callee (f := 9) rfl ?_); refine goesL_ (some 20) rfl rfl Try.func9 (by kernel_rfl) rfl #[] rfl (by (try simp only [List.map_toArray, List.map_cons, List.map_nil]); first | done | rfl | (simp only [List.length_drop, List.length_take]; rfl)) ?_; (with_reducible refine (hatstandlaw9_shown.calls  true _ A6.out).mono ?_); rintro e w' ⟨rfl, ⟨nd, rfl⟩⟩; refine ⟨_, rfl, ?_⟩) | ((with_reducible refine gate_callee (f := 15) rfl ?_); refine goesL_ (some 27) rfl rfl Try.func15 (by kernel_rfl) rfl #[.int .u64 a3, .bool a4, .int .u32 a1] rfl (by (try simp only [List.map_toArray, List.map_cons, List.map_nil]); first | done | rfl | (simp only [List.length_drop, List.length_take]; rfl)) ?_; (with_reducible refine (slot_Offer.calls a3 a4 a1 t140 t141 _ A8.out).mono ?_); rintro e w' ⟨rfl, ⟨nd, rfl⟩⟩; refine ⟨_, rfl, ?_⟩) | ((with_reducible refine gate_callee (f := 18) rfl ?_); refine goesL_ (some 34) rfl rfl Try.func18 (by kernel_rfl) rfl #[.int .u64 a3, .bool a4, .int .u32 a1] rfl (by (try simp only [List.map_toArray, List.map_cons, List.map_nil]); first | done | rfl | (simp only [List.length_drop, List.length_take]; rfl)) ?_; (with_reducible refine (hatstandref9_Offer.calls a3 a4 a1 t142 t143 _ A9.out).mono ?_); rintro e w' ⟨rfl, ⟨nd, rfl⟩⟩; refine ⟨_, rfl, ?_⟩) | ((with_reducible refine gate_callee (f := 16) rfl ?_); refine goesL_ (some 41) rfl rfl Try.func16 (by kernel_rfl) rfl #[.int .u64 a3, .bool a4, .int .u32 a1] rfl (by (try simp only [List.map_toArray, List.map_cons, List.map_nil]); first | done | rfl | (simp only [List.length_drop, List.length_take]; rfl)) ?_; (with_reducible refine (slot_Claim.calls a3 a4 a1 t144 t145 _ A10.out).mono ?_); rintro e w' ⟨rfl, ⟨nd, rfl⟩⟩; refine ⟨_, rfl, ?_⟩) | ((with_reducible refine gate_callee (f := 19) rfl ?_); refine goesL_ (some 48) rfl rfl Try.func19 (by kernel_rfl) rfl #[.int .u64 a3, .bool a4, .int .u32 a1] rfl (by (try simp only [List.map_toArray, List.map_cons, List.map_nil]); first | done | rfl | (simp only [List.length_drop, List.length_take]; rfl)) ?_; (with_reducible refine (hatstandref9_Claim.calls k a3 a4 a1 t146 t147 _ A11.out).mono ?_); rintro e w' ⟨rfl, ⟨nd, rfl⟩⟩; refine ⟨_, rfl, ?_⟩) | (go_at_call 11; (with_reducible refine (slot_Word.calls a0 a1 a2 t148 _ A12.out).mono ?_); rintro e w' ⟨rfl, ⟨nd, rfl⟩⟩) | (go_at_call 20; (with_reducible refine (hatstandref9_Word.calls a0 a1 a2 t149 _ A13.out).mono ?_); rintro e w' ⟨rfl, ⟨nd, rfl⟩⟩) | (go_at_call 12; (with_reducible refine (slot_State.calls a3 t150 _ A15.out).mono ?_); rintro e w' ⟨rfl, ⟨nd, rfl⟩⟩) | (go_at_call 21; (with_reducible refine (hatstandref9_State.calls a3 t151 _ A16.out).mono ?_); rintro e w' ⟨rfl, ⟨nd, rfl⟩⟩) | (go_at_call 13; (with_reducible refine (slot_Index.calls a3 t152 _ A18.out).mono ?_); rintro e w' ⟨rfl, ⟨nd, rfl⟩⟩) | (go_at_call 22; (with_reducible refine (hatstandref9_Index.calls a3 t153 _ A19.out).mono ?_); rintro e w' ⟨rfl, ⟨nd, rfl⟩⟩) | (go_at_call 14; (with_reducible refine (slot_Stamp.calls a3 t154 _ A21.out).mono ?_); rintro e w' ⟨rfl, ⟨nd, rfl⟩⟩) | (go_at_call 23; (with_reducible refine (hatstandref9_Stamp.calls a3 t155 _ A22.out).mono ?_); rintro e w' ⟨rfl, ⟨nd, rfl⟩⟩) | (go_at_call 17; (with_reducible refine (slot_Meets.calls a3 a4 t156 _ A24.out).mono ?_); rintro e w' ⟨rfl, ⟨nd, rfl⟩⟩) | (go_at_call 24; (with_reducible refine (hatstandref9_Meets.calls a3 a4 t157 _ A25.out).mono ?_); rintro e w' ⟨rfl, ⟨nd, rfl⟩⟩) | (go_at_call 25; (with_reducible refine (slot_Clear.calls a3 t158 _ A31.out).mono ?_); rintro e w' ⟨rfl, ⟨nd, rfl⟩⟩) | (go_at_call 26; (with_reducible refine (hatstandref9_Clear.calls a3 t159 _ A32.out).mono ?_); rintro e w' ⟨rfl, ⟨nd, rfl⟩⟩))
                      go_ret
                      exact ⟨by first | rfl | (simp; done) | (simp [*]; done), by repeat (first | exact Drawn0.refl _ | apply Drawn0.step)⟩
                    · rw [if_neg c30] at H
                      have c30b0 : (t145 == t147) = false := by simpa using c30
                      (try (have c30b1 : decide (t145 = t147) = false := by simpa using c30))
                      (try (have c30b2 : (t145 == t147) = false := by simpa using c30))
                      (try (have c30b3 : ¬ (t145 = t147) := by simpa using c30))
                      clear c30
                      exact absurd ((Option.some.inj H).trans HT0.out) (by decide)
                  · rw [if_neg c29] at H
                    have c29b0 : (t144 == t146) = false := beq_eq_false_iff_ne.mpr c29
                    have c29b1 : (t144 != t146) = true := bne_iff_ne.mpr c29
                    exact absurd ((Option.some.inj H).trans HT0.out) (by decide)
                · rw [if_neg c28] at H
                  have c28b0 : (t141 == t143) = false := by simpa using c28
                  (try (have c28b1 : decide (t141 = t143) = false := by simpa using c28))
                  (try (have c28b2 : (t141 == t143) = false := by simpa using c28))
                  (try (have c28b3 : ¬ (t141 = t143) := by simpa using c28))
                  clear c28
                  exact absurd ((Option.some.inj H).trans HT0.out) (by decide)
              · rw [if_neg c27] at H
                have c27b0 : (t140 == t142) = false := beq_eq_false_iff_ne.mpr c27
                have c27b1 : (t140 != t142) = true := bne_iff_ne.mpr c27
                exact absurd ((Option.some.inj H).trans HT0.out) (by decide)
            · rw [if_neg c26] at H
              have c26b0 : (t156 == t157) = false := by simpa using c26
              (try (have c26b1 : decide (t156 = t157) = false := by simpa using c26))
              (try (have c26b2 : (t156 == t157) = false := by simpa using c26))
              (try (have c26b3 : ¬ (t156 = t157) := by simpa using c26))
              clear c26
              exact absurd ((Option.some.inj H).trans HT0.out) (by decide)
          · rw [if_neg c23] at H
            have c23b0 : (t154 == t155) = false := beq_eq_false_iff_ne.mpr c23
            have c23b1 : (t154 != t155) = true := bne_iff_ne.mpr c23
            exact absurd ((Option.some.inj H).trans HT0.out) (by decide)
        · rw [if_neg c20] at H
          have c20b0 : (t152 == t153) = false := beq_eq_false_iff_ne.mpr c20
          have c20b1 : (t152 != t153) = true := bne_iff_ne.mpr c20
          exact absurd ((Option.some.inj H).trans HT0.out) (by decide)
      · rw [if_neg c17] at H
        have c17b0 : (t150 == t151) = false := beq_eq_false_iff_ne.mpr c17
        have c17b1 : (t150 != t151) = true := bne_iff_ne.mpr c17
        exact absurd ((Option.some.inj H).trans HT0.out) (by decide)
    · rw [if_neg c14] at H
      have c14b0 : (t148 == t149) = false := beq_eq_false_iff_ne.mpr c14
      have c14b1 : (t148 != t149) = true := bne_iff_ne.mpr c14
      exact absurd ((Option.some.inj H).trans HT0.out) (by decide)
  · replace c7 := Bool.eq_false_iff.mpr c7
    subst c7
    have H1 : (some false) = some r := by rw [if_neg (show ¬ (false = true) by decide)] at H; exact H
    clear H
    have H := H1
    clear H1
    exact absurd ((Option.some.inj H).trans HT0.out) (by decide)

/-- THE ONE PURE STATEMENT of hatstandlaw9_SlotTells. -/
def hatstandlaw9_SlotTells.Pure : Prop := ∀ (a0 : Int) (a1 : Int) (a2 : Int) (a3 : Int) (a4 : Bool), (Lit.int .i64 a0).wf = true → (Lit.int .u32 a1).wf = true → (Lit.int .u32 a2).wf = true → (Lit.int .u64 a3).wf = true → ∃ k, hatstandlaw9_SlotTells.f k a0 a1 a2 a3 a4 = some true
theorem hatstandlaw9_SlotTells.walk (P : hatstandlaw9_SlotTells.Pure) (a0 : Int) (a1 : Int) (a2 : Int) (a3 : Int) (a4 : Bool) (w : World)  (hw0 : (Lit.int .i64 a0).wf = true) (hw1 : (Lit.int .u32 a1).wf = true) (hw2 : (Lit.int .u32 a2).wf = true) (hw3 : (Lit.int .u64 a3).wf = true) :
    Calls Try.prog 6 #[.int .i64 a0, .int .u32 a1, .int .u32 a2, .int .u64 a3, .bool a4] w fun e w' => e = .returned (.bool true) ∧ Below w.heap.size w w' := by
  obtain ⟨k, h⟩ := P a0 a1 a2 a3 a4 hw0 hw1 hw2 hw3
  refine (hatstandlaw9_SlotTells.calls k a0 a1 a2 a3 a4 true w  h rfl).mono ?_
  rintro e w' ⟨rfl, hd⟩
  exact ⟨rfl, hd.below⟩

end Go.Proofs.Ytijkmjhfhnhjeaa.P
