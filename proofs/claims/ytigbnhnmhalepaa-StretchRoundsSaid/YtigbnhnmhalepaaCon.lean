/- What the functions of this program do, each by its plain form: the contracts that the statements are proved from. -/
import Derived.Test.YtigbnhnmhalepaaProg
import Derived.Test.YtigbnhnmhalepaaChecked
import Derived.Test.YtigbnhnmhalepaaA3
import Derived.KernelRfl
set_option linter.all false
namespace Go.Proofs.Ytigbnhnmhalepaa
open Go Ev
set_option maxRecDepth 8000

theorem hm : Try.prog.follows .mixedOrders = true := by kernel_rfl
noncomputable def S : Nat → Option Ev.Fn := fun f => match f with
  | 5 => some (lift (fn3 G_within))
  | 19 => some (lift F_clone)
  | 23 => some (lift (fn1 G_word))
  | 26 => some (lift (fn2 G_rotl))
  | 24 => some (lift F_stirP)
  | 18 => some (lift (fn1 G_sum))
  | 12 => some (lift (fn2 G_keyed))
  | 13 => some (lift (fn2 G_two))
  | 6 => some (lift (fn3 G_digits))
  | 21 => some (lift (fn1 G_word))
  | 25 => some (lift (fn2 G_rotl))
  | 22 => some (lift F_stirS)
  | 17 => some (lift (fn1 G_sum))
  | 14 => some (lift (fn2 G_keyed))
  | 7 => some (lift (fn2 G_two))
  | 20 => some (lift (fn1 G_digit))
  | 15 => some (lift (fn1 G_normal))
  | 16 => some (lift (fn1 G_salt))
  | 9 => some (lift (fn2 G_pin))
  | 8 => some (lift (fn0 G_true))
  | 11 => some (lift (fn1 G_salt))
  | 10 => some (lift (fn3 G_digits))
  | _ => none

theorem hS5 : S 5 = some (lift (fn3 G_within)) := rfl
theorem hS19 : S 19 = some (lift F_clone) := rfl
theorem hS23 : S 23 = some (lift (fn1 G_word)) := rfl
theorem hS26 : S 26 = some (lift (fn2 G_rotl)) := rfl
theorem hS24 : S 24 = some (lift F_stirP) := rfl
theorem hS18 : S 18 = some (lift (fn1 G_sum)) := rfl
theorem hS12 : S 12 = some (lift (fn2 G_keyed)) := rfl
theorem hS13 : S 13 = some (lift (fn2 G_two)) := rfl
theorem hS6 : S 6 = some (lift (fn3 G_digits)) := rfl
theorem hS21 : S 21 = some (lift (fn1 G_word)) := rfl
theorem hS25 : S 25 = some (lift (fn2 G_rotl)) := rfl
theorem hS22 : S 22 = some (lift F_stirS) := rfl
theorem hS17 : S 17 = some (lift (fn1 G_sum)) := rfl
theorem hS14 : S 14 = some (lift (fn2 G_keyed)) := rfl
theorem hS7 : S 7 = some (lift (fn2 G_two)) := rfl
theorem hS20 : S 20 = some (lift (fn1 G_digit)) := rfl
theorem hS15 : S 15 = some (lift (fn1 G_normal)) := rfl
theorem hS16 : S 16 = some (lift (fn1 G_salt)) := rfl
theorem hS9 : S 9 = some (lift (fn2 G_pin)) := rfl
theorem hS8 : S 8 = some (lift (fn0 G_true)) := rfl
theorem hS11 : S 11 = some (lift (fn1 G_salt)) := rfl
theorem hS10 : S 10 = some (lift (fn3 G_digits)) := rfl

/-- claviger/clavigerbook.Within -/
theorem ok5 : okFn Try.prog Try.f5 (E_book_Within) = true := by decide +kernel
theorem hC5 : ∀ f', f' ∈ calleesOf (E_book_Within).body → Con Try.prog S f' := by
  have h : calleesOf (E_book_Within).body = [] := by decide +kernel
  intro f' hf
  rw [h] at hf
  cases hf
theorem con5 : Con Try.prog S 5 := con3 hm Try.func5 ok5 hC5 hS5 fun a b c r h => g_if h fun hp => g_rfl (run_Within S a b c hp.1 hp.2)

/-- bytes.Clone -/
theorem ok19 : okFn Try.prog Try.f19 (E_bytes_Clone) = true := by decide +kernel
theorem hC19 : ∀ f', f' ∈ calleesOf (E_bytes_Clone).body → Con Try.prog S f' := by
  have h : calleesOf (E_bytes_Clone).body = [] := by decide +kernel
  intro f' hf
  rw [h] at hf
  cases hf
theorem con19 : Con Try.prog S 19 := con_clone hm (Try.func19) ok19 hS19

/-- claviger/blend.low -/
theorem ok23 : okFn Try.prog Try.f23 (E_blend_low) = true := by decide +kernel
theorem hC23 : ∀ f', f' ∈ calleesOf (E_blend_low).body → Con Try.prog S f' := by
  have h : calleesOf (E_blend_low).body = [] := by decide +kernel
  intro f' hf
  rw [h] at hf
  cases hf
theorem con23 : Con Try.prog S 23 := con1 hm Try.func23 ok23 hC23 hS23 fun a r h => run_low S a r h

/-- math/bits.RotateLeft32 -/
theorem ok26 : okFn Try.prog Try.f26 (E_bits_RotateLeft32) = true := by decide +kernel
theorem hC26 : ∀ f', f' ∈ calleesOf (E_bits_RotateLeft32).body → Con Try.prog S f' := by
  have h : calleesOf (E_bits_RotateLeft32).body = [] := by decide +kernel
  intro f' hf
  rw [h] at hf
  cases hf
theorem con26 : Con Try.prog S 26 := con2 hm Try.func26 ok26 hC26 hS26 fun a b r h => run_RotateLeft32 S a b r h

/-- (claviger/blend.words).stir -/
theorem ok24 : okFn Try.prog Try.f24 (E_blend_words_stir 26) = true := by decide +kernel
theorem hC24 : ∀ f', f' ∈ calleesOf (E_blend_words_stir 26).body → Con Try.prog S f' := by
  have h : ∀ f', f' ∈ calleesOf (E_blend_words_stir 26).body → f' = 26 := by decide +kernel
  intro f' hf
  rcases h f' hf with rfl
  · exact con26
theorem con24 : Con Try.prog S 24 := con_stirP hm (Try.func24) ok24 hC24 hS26 hS24

/-- claviger/blend.Sum -/
theorem ok18 : okFn Try.prog Try.f18 (E_blend_Sum 19 23 24) = true := by decide +kernel
theorem hC18 : ∀ f', f' ∈ calleesOf (E_blend_Sum 19 23 24).body → Con Try.prog S f' := by
  have h : ∀ f', f' ∈ calleesOf (E_blend_Sum 19 23 24).body → f' = 19 ∨ f' = 23 ∨ f' = 24 := by decide +kernel
  intro f' hf
  rcases h f' hf with rfl | rfl | rfl
  · exact con19
  · exact con23
  · exact con24
theorem con18 : Con Try.prog S 18 := con1 hm Try.func18 ok18 hC18 hS18 fun a r h => g_if h fun hp => g_ar (run_Sum S _ _ _ hS19 hS23 hS24 a.b hp)

/-- claviger/blend.Keyed -/
theorem ok12 : okFn Try.prog Try.f12 (E_blend_Keyed 19 18) = true := by decide +kernel
theorem hC12 : ∀ f', f' ∈ calleesOf (E_blend_Keyed 19 18).body → Con Try.prog S f' := by
  have h : ∀ f', f' ∈ calleesOf (E_blend_Keyed 19 18).body → f' = 19 ∨ f' = 18 := by decide +kernel
  intro f' hf
  rcases h f' hf with rfl | rfl
  · exact con19
  · exact con18
theorem con12 : Con Try.prog S 12 := con2 hm Try.func12 ok12 hC12 hS12 fun a b r h => g_if h fun hp => g_ar (run_Keyed S _ _ hS19 hS18 a.b b.b hp.1 hp.2)

/-- claviger/blend.Two -/
theorem ok13 : okFn Try.prog Try.f13 (E_blend_Two 12) = true := by decide +kernel
theorem hC13 : ∀ f', f' ∈ calleesOf (E_blend_Two 12).body → Con Try.prog S f' := by
  have h : ∀ f', f' ∈ calleesOf (E_blend_Two 12).body → f' = 12 := by decide +kernel
  intro f' hf
  rcases h f' hf with rfl
  · exact con12
theorem con13 : Con Try.prog S 13 := con2 hm Try.func13 ok13 hC13 hS13 fun a b r h => g_if h fun hp => g_ar (run_Two S _ hS12 a.b b.b hp.1 hp.2)

/-- claviger/stretch.Digits -/
theorem ok6 : okFn Try.prog Try.f6 (E_stretch_Digits 12 13) = true := by decide +kernel
theorem hC6 : ∀ f', f' ∈ calleesOf (E_stretch_Digits 12 13).body → Con Try.prog S f' := by
  have h : ∀ f', f' ∈ calleesOf (E_stretch_Digits 12 13).body → f' = 12 ∨ f' = 13 := by decide +kernel
  intro f' hf
  rcases h f' hf with rfl | rfl
  · exact con12
  · exact con13
theorem con6 : Con Try.prog S 6 := con3 hm Try.func6 ok6 hC6 hS6 fun a b c r h => g_if h fun hp => g_ar (run_Digits S _ _ hS12 hS13 a.s b.b c hp.1 hp.2)

/-- claviger/clavigerref2.word -/
theorem ok21 : okFn Try.prog Try.f21 (E_ref2_word) = true := by decide +kernel
theorem hC21 : ∀ f', f' ∈ calleesOf (E_ref2_word).body → Con Try.prog S f' := by
  have h : calleesOf (E_ref2_word).body = [] := by decide +kernel
  intro f' hf
  rw [h] at hf
  cases hf
theorem con21 : Con Try.prog S 21 := con1 hm Try.func21 ok21 hC21 hS21 fun a r h => run_word S a r h

/-- claviger/clavigerref2.turn -/
theorem ok25 : okFn Try.prog Try.f25 (E_ref2_turn) = true := by decide +kernel
theorem hC25 : ∀ f', f' ∈ calleesOf (E_ref2_turn).body → Con Try.prog S f' := by
  have h : calleesOf (E_ref2_turn).body = [] := by decide +kernel
  intro f' hf
  rw [h] at hf
  cases hf
theorem con25 : Con Try.prog S 25 := con2 hm Try.func25 ok25 hC25 hS25 fun a b r h => run_turn S a b r h

/-- claviger/clavigerref2.stir -/
theorem ok22 : okFn Try.prog Try.f22 (E_ref2_stir 25) = true := by decide +kernel
theorem hC22 : ∀ f', f' ∈ calleesOf (E_ref2_stir 25).body → Con Try.prog S f' := by
  have h : ∀ f', f' ∈ calleesOf (E_ref2_stir 25).body → f' = 25 := by decide +kernel
  intro f' hf
  rcases h f' hf with rfl
  · exact con25
theorem con22 : Con Try.prog S 22 := con_stirS hm (Try.func22) ok22 hC22 hS25 hS22

/-- claviger/clavigerref2.Sum -/
theorem ok17 : okFn Try.prog Try.f17 (E_ref2_Sum 21 22) = true := by decide +kernel
theorem hC17 : ∀ f', f' ∈ calleesOf (E_ref2_Sum 21 22).body → Con Try.prog S f' := by
  have h : ∀ f', f' ∈ calleesOf (E_ref2_Sum 21 22).body → f' = 21 ∨ f' = 22 := by decide +kernel
  intro f' hf
  rcases h f' hf with rfl | rfl
  · exact con21
  · exact con22
theorem con17 : Con Try.prog S 17 := con1 hm Try.func17 ok17 hC17 hS17 fun a r h => g_if h fun hp => g_ar (run_rSum S _ _ hS21 hS22 a.b hp)

/-- claviger/clavigerref2.Keyed -/
theorem ok14 : okFn Try.prog Try.f14 (E_ref2_Keyed 17) = true := by decide +kernel
theorem hC14 : ∀ f', f' ∈ calleesOf (E_ref2_Keyed 17).body → Con Try.prog S f' := by
  have h : ∀ f', f' ∈ calleesOf (E_ref2_Keyed 17).body → f' = 17 := by decide +kernel
  intro f' hf
  rcases h f' hf with rfl
  · exact con17
theorem con14 : Con Try.prog S 14 := con2 hm Try.func14 ok14 hC14 hS14 fun a b r h => g_if h fun hp => g_ar (run_rKeyed S _ hS17 a.b b.b hp.1 hp.2)

/-- claviger/clavigerref2.Two -/
theorem ok7 : okFn Try.prog Try.f7 (E_ref2_Two 14) = true := by decide +kernel
theorem hC7 : ∀ f', f' ∈ calleesOf (E_ref2_Two 14).body → Con Try.prog S f' := by
  have h : ∀ f', f' ∈ calleesOf (E_ref2_Two 14).body → f' = 14 := by decide +kernel
  intro f' hf
  rcases h f' hf with rfl
  · exact con14
theorem con7 : Con Try.prog S 7 := con2 hm Try.func7 ok7 hC7 hS7 fun a b r h => g_if h fun hp => g_ar (run_rTwo S _ hS14 a.b b.b hp.1 hp.2)

/-- claviger/pin.digit -/
theorem ok20 : okFn Try.prog Try.f20 (E_pin_digit) = true := by decide +kernel
theorem hC20 : ∀ f', f' ∈ calleesOf (E_pin_digit).body → Con Try.prog S f' := by
  have h : calleesOf (E_pin_digit).body = [] := by decide +kernel
  intro f' hf
  rw [h] at hf
  cases hf
theorem con20 : Con Try.prog S 20 := con1 hm Try.func20 ok20 hC20 hS20 fun a r h => g_if h fun hp => g_eq (run_digit S a.n hp) (digD_nm _)

/-- claviger/pin.Normal -/
theorem ok15 : okFn Try.prog Try.f15 (E_pin_Normal 20) = true := by decide +kernel
theorem hC15 : ∀ f', f' ∈ calleesOf (E_pin_Normal 20).body → Con Try.prog S f' := by
  have h : ∀ f', f' ∈ calleesOf (E_pin_Normal 20).body → f' = 20 := by decide +kernel
  intro f' hf
  rcases h f' hf with rfl
  · exact con20
theorem con15 : Con Try.prog S 15 := con1 hm Try.func15 ok15 hC15 hS15 fun a r h => g_if h fun hp => g_eq (run_Normal S _ hS20 a.s hp) (normD_nm _)

/-- claviger/stretch.Salt -/
theorem ok16 : okFn Try.prog Try.f16 (E_stretch_Salt 18) = true := by decide +kernel
theorem hC16 : ∀ f', f' ∈ calleesOf (E_stretch_Salt 18).body → Con Try.prog S f' := by
  have h : ∀ f', f' ∈ calleesOf (E_stretch_Salt 18).body → f' = 18 := by decide +kernel
  intro f' hf
  rcases h f' hf with rfl
  · exact con18
theorem con16 : Con Try.prog S 16 := con1 hm Try.func16 ok16 hC16 hS16 fun a r h => g_if h fun hp => g_ar (run_Salt S _ hS18 a.b hp)

/-- claviger/stretch.Pin -/
theorem ok9 : okFn Try.prog Try.f9 (E_stretch_Pin 15 16 6) = true := by decide +kernel
theorem hC9 : ∀ f', f' ∈ calleesOf (E_stretch_Pin 15 16 6).body → Con Try.prog S f' := by
  have h : ∀ f', f' ∈ calleesOf (E_stretch_Pin 15 16 6).body → f' = 15 ∨ f' = 16 ∨ f' = 6 := by decide +kernel
  intro f' hf
  rcases h f' hf with rfl | rfl | rfl
  · exact con15
  · exact con16
  · exact con6
theorem con9 : Con Try.prog S 9 := con2 hm Try.func9 ok9 hC9 hS9 fun a b r h => g_if h fun hp => g_eq (run_Pin S _ _ _ hS15 hS16 hS6 a.s b.b hp.1 hp.2) (pinD_nm _ _)

/-- claviger/clavigerlaw3.known -/
theorem ok8 : okFn Try.prog Try.f8 (E_law3_known 9) = true := by decide +kernel
theorem hC8 : ∀ f', f' ∈ calleesOf (E_law3_known 9).body → Con Try.prog S f' := by
  have h : ∀ f', f' ∈ calleesOf (E_law3_known 9).body → f' = 9 := by decide +kernel
  intro f' hf
  rcases h f' hf with rfl
  · exact con9
theorem con8 : Con Try.prog S 8 := con0 hm Try.func8 ok8 hC8 hS8 fun r h => by cases h; exact g_rfl (run_known3 S _ hS9)

/-- claviger/clavigerlaw3.StretchRounds -/
theorem ok3 : okFn Try.prog Try.f3 (E_law3_StretchRounds 5 6 7 8) = true := by decide +kernel
theorem hC3 : ∀ f', f' ∈ calleesOf (E_law3_StretchRounds 5 6 7 8).body → Con Try.prog S f' := by
  have h : ∀ f', f' ∈ calleesOf (E_law3_StretchRounds 5 6 7 8).body → f' = 5 ∨ f' = 6 ∨ f' = 7 ∨ f' = 8 := by decide +kernel
  intro f' hf
  rcases h f' hf with rfl | rfl | rfl | rfl
  · exact con5
  · exact con6
  · exact con7
  · exact con8

/-- claviger/clavigerref2.Salt -/
theorem ok11 : okFn Try.prog Try.f11 (E_ref2_Salt 17) = true := by decide +kernel
theorem hC11 : ∀ f', f' ∈ calleesOf (E_ref2_Salt 17).body → Con Try.prog S f' := by
  have h : ∀ f', f' ∈ calleesOf (E_ref2_Salt 17).body → f' = 17 := by decide +kernel
  intro f' hf
  rcases h f' hf with rfl
  · exact con17
theorem con11 : Con Try.prog S 11 := con1 hm Try.func11 ok11 hC11 hS11 fun a r h => g_if h fun hp => g_ar (run_rSalt S _ hS17 a.b hp)

/-- claviger/clavigerref2.Digits -/
theorem ok10 : okFn Try.prog Try.f10 (E_ref2_Digits 14 7) = true := by decide +kernel
theorem hC10 : ∀ f', f' ∈ calleesOf (E_ref2_Digits 14 7).body → Con Try.prog S f' := by
  have h : ∀ f', f' ∈ calleesOf (E_ref2_Digits 14 7).body → f' = 14 ∨ f' = 7 := by decide +kernel
  intro f' hf
  rcases h f' hf with rfl | rfl
  · exact con14
  · exact con7
theorem con10 : Con Try.prog S 10 := con3 hm Try.func10 ok10 hC10 hS10 fun a b c r h => g_if h fun hp => g_ar (run_rDigits S _ _ hS14 hS7 a.s b.b c hp.1 hp.2)

/-- claviger/clavigerlaw3.StretchScripts -/
theorem ok4 : okFn Try.prog Try.f4 (E_law3_StretchScripts 9 11 10 8) = true := by decide +kernel
theorem hC4 : ∀ f', f' ∈ calleesOf (E_law3_StretchScripts 9 11 10 8).body → Con Try.prog S f' := by
  have h : ∀ f', f' ∈ calleesOf (E_law3_StretchScripts 9 11 10 8).body → f' = 9 ∨ f' = 11 ∨ f' = 10 ∨ f' = 8 := by decide +kernel
  intro f' hf
  rcases h f' hf with rfl | rfl | rfl | rfl
  · exact con9
  · exact con11
  · exact con10
  · exact con8

end Go.Proofs.Ytigbnhnmhalepaa
