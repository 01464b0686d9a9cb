/- The plain machine, its soundness, and the functions told by it: a part of the proof. -/
import Derived.Test.YtigbnhnmhalepaaA2
import Derived.Lib.DecodeN
set_option linter.all false

namespace Ev
open Go

def zeros4 : List Int := [48, 65296, 1632, 1776]
def digFrom : List Int → Int → Option UInt8
  | [], _ => none
  | z :: zs, r => if z ≤ r ∧ r ≤ z + 9 then some (UInt8.ofNat ((48 + r - z) % 256).toNat) else digFrom zs r
/-- what a sign counts -/
def digitV (r : Int) : Option UInt8 := digFrom zeros4 r
def digD (r : Int) : D := match digitV r with
  | some c => .tup [B8 c, .bool true]
  | none => .tup [B8 0, .bool false]

def runesF (s : List UInt8) : Nat → Nat → List Int
  | 0, _ => []
  | n + 1, pos => if pos < s.length then ((Utf8.decode ⟨s.toArray⟩ pos).1 : Int) :: runesF s n (pos + (Utf8.decode ⟨s.toArray⟩ pos).2) else []
/-- a text's signs -/
def runes (s : List UInt8) : List Int := runesF s s.length 0

def normGo : List Int → List UInt8 → Option (List UInt8)
  | [], out => some out
  | r :: rs, out => if r = 32 ∨ r = 45 ∨ r = 160 then normGo rs out else match digitV r with
    | none => none
    | some c => normGo rs (out ++ [c])
/-- a PIN's digits -/
def normal (s : List UInt8) : Option (List UInt8) := match normGo (runes s) [] with
  | some out => if out.length < 4 ∨ 12 < out.length then none else some out
  | none => none
def normD (s : List UInt8) : D := match normal s with
  | some d => .tup [.str d, .bool true]
  | none => .tup [.str [], .bool false]

theorem digD_none {r : Int} (h : digitV r = none) : digD r = .tup [B8 0, .bool false] := by
  unfold digD
  generalize digitV r = x at *
  subst h
  rfl
theorem digD_some {r : Int} {c : UInt8} (h : digitV r = some c) : digD r = .tup [B8 c, .bool true] := by
  unfold digD
  generalize digitV r = x at *
  subst h
  rfl

def G_digit (r : Rn) : Option D := if -2147483648 ≤ r.n ∧ r.n < 2147483648 then some (digD r.n) else none
def G_normal (s : Str) : Option D := if s.s.length ≤ 1000000 then some (normD s.s) else none
theorem G_digit_eq (r : Int) (h : -2147483648 ≤ r ∧ r < 2147483648) : G_digit ⟨r⟩ = some (digD r) := if_pos h
theorem G_normal_eq (s : List UInt8) (h : s.length ≤ 1000000) : G_normal ⟨s⟩ = some (normD s) := if_pos h

-- writes 2 3 5 8 9 10 11 12 13 14 15 16 17 18 19 20 21 22 23 24 25 26 of 27
def L_pin_digit_0 : ECode :=
  (.seq (.reg [⟨some 9, .bin .lss (.t 8) (.t 7), none⟩])
  (.seq (.cond (.t 9) .skip
  (.exit 0))
  (.seq (.block 1 (.seq (.reg [⟨some 10, .iadrS 1 (.t 6) (.t 8), none⟩,
    ⟨some 11, .load 1 false (.t 10), none⟩,
    ⟨some 5, .mov (.t 11), none⟩])
  (.seq (.reg [⟨some 12, .mov (.t 0), none⟩,
    ⟨some 13, .mov (.t 5), none⟩,
    ⟨some 14, .bin .geq (.t 12) (.t 13), none⟩,
    ⟨some 15, .mov (.t 14), none⟩,
    ⟨some 16, .mov (.t 0), some (15, true)⟩,
    ⟨some 17, .mov (.t 5), some (15, true)⟩,
    ⟨some 18, .bin .add (.t 17) (.d (N32 9)), some (15, true)⟩,
    ⟨some 19, .bin .leq (.t 16) (.t 18), some (15, true)⟩,
    ⟨some 20, .pick (.t 15) (.t 19) (.d (.bool false)), none⟩])
  (.cond (.t 20) (.seq (.reg [⟨some 21, .mov (.t 0), none⟩,
    ⟨some 22, .bin .add (.d (N32 48)) (.t 21), none⟩,
    ⟨some 23, .mov (.t 5), none⟩,
    ⟨some 24, .bin .sub (.t 22) (.t 23), none⟩,
    ⟨some 25, .cv .any (.toInt .u8) (.t 24), none⟩,
    ⟨some 2, .mov (.t 25), none⟩,
    ⟨some 3, .mov (.d (.bool true)), none⟩])
  .ret)
  .skip))))
  (.reg [⟨some 26, .bin .add (.t 8) (.d (N64 1)), none⟩,
    ⟨some 8, .mov (.t 26), none⟩]))))

/-- claviger/pin.digit -/
def E_pin_digit : EFn := ⟨27, [.tmp 2, .tmp 3],
  (.seq (.reg [⟨some 2, .mov (.d (B8 0)), none⟩,
    ⟨some 3, .mov (.d (.bool false)), none⟩])
  (.seq (.seq (.reg [⟨some 6, .bsl .any 1 [N32 0] 4 [(0, (.d (N32 48))), (1, (.d (N32 65296))), (2, (.d (N32 1632))), (3, (.d (N32 1776)))], none⟩,
    ⟨some 7, .len (.t 6), none⟩,
    ⟨some 8, .mov (.d (N64 0)), none⟩])
  (.block 0 (.loop (L_pin_digit_0))))
  (.seq (.reg [⟨some 2, .mov (.d (B8 0)), none⟩,
    ⟨some 3, .mov (.d (.bool false)), none⟩])
  .ret)))⟩
-- writes 2 3 4 6 7 8 11 12 13 14 15 16 17 18 19 20 21 22 23 24 25 26 27 28 29 30 31 32 33 34 of 45
def L_pin_Normal_0 (c_pin_digit : Nat) : ECode :=
  (.seq (.reg [⟨some 11, .nxt (.t 10), none⟩,
    ⟨some 12, .ext 0 (.t 11), none⟩])
  (.seq (.cond (.t 12) .skip
  (.exit 0))
  (.block 1 (.seq (.reg [⟨some 13, .ext 2 (.t 11), none⟩,
    ⟨some 6, .mov (.t 13), none⟩])
  (.seq (.seq (.reg [⟨some 14, .mov (.t 6), none⟩,
    ⟨some 15, .bin .eql (.t 14) (.d (N32 32)), none⟩,
    ⟨some 16, .mov (.t 15), none⟩,
    ⟨some 17, .mov (.t 6), some (16, false)⟩,
    ⟨some 18, .bin .eql (.t 17) (.d (N32 45)), some (16, false)⟩,
    ⟨some 19, .pick (.t 16) (.d (.bool true)) (.t 18), none⟩,
    ⟨some 20, .mov (.t 19), none⟩,
    ⟨some 21, .mov (.t 6), some (20, false)⟩,
    ⟨some 22, .bin .eql (.t 21) (.d (N32 160)), some (20, false)⟩,
    ⟨some 23, .pick (.t 20) (.d (.bool true)) (.t 22), none⟩])
  (.cond (.t 23) (.exit 1)
  .skip))
  (.seq (.reg [⟨some 25, .mov (.t 6), none⟩,
    ⟨some 26, .call c_pin_digit [(.t 25)] [] .any, none⟩,
    ⟨some 24, .mov (.t 26), none⟩,
    ⟨some 27, .ext 0 (.t 24), none⟩,
    ⟨some 28, .ext 1 (.t 24), none⟩,
    ⟨some 7, .mov (.t 27), none⟩,
    ⟨some 8, .mov (.t 28), none⟩])
  (.seq (.seq (.reg [⟨some 29, .mov (.t 8), none⟩,
    ⟨some 30, .neg .not (.t 29), none⟩])
  (.cond (.t 30) (.seq (.reg [⟨some 2, .mov (.d (.str [])), none⟩,
    ⟨some 3, .mov (.d (.bool false)), none⟩])
  .ret)
  .skip))
  (.reg [⟨some 31, .mov (.t 4), none⟩,
    ⟨some 32, .mov (.t 7), none⟩,
    ⟨some 33, .bsl .any 1 [B8 0] 1 [(0, (.t 32))], none⟩,
    ⟨some 34, .app false .tok 1 1 (.t 31) (.t 33), none⟩,
    ⟨some 4, .mov (.t 34), none⟩]))))))))

/-- claviger/pin.Normal -/
def E_pin_Normal (c_pin_digit : Nat) : EFn := ⟨45, [.tmp 2, .tmp 3],
  (.seq (.reg [⟨some 2, .mov (.d (.str [])), none⟩,
    ⟨some 3, .mov (.d (.bool false)), none⟩])
  (.seq (.reg [⟨some 4, .mov (.d (.sl .nilk 1 [])), none⟩])
  (.gh (.own 4) (.seq (.seq (.reg [⟨some 9, .mov (.t 0), none⟩,
    ⟨some 10, .rng (.t 9), none⟩])
  (.block 0 (.loop (L_pin_Normal_0 c_pin_digit))))
  (.seq (.seq (.reg [⟨some 35, .mov (.t 4), none⟩,
    ⟨some 36, .len (.t 35), none⟩,
    ⟨some 37, .bin .lss (.t 36) (.d (N64 4)), none⟩,
    ⟨some 38, .mov (.t 37), none⟩,
    ⟨some 39, .mov (.t 4), some (38, false)⟩,
    ⟨some 40, .len (.t 39), some (38, false)⟩,
    ⟨some 41, .bin .gtr (.t 40) (.d (N64 12)), some (38, false)⟩,
    ⟨some 42, .pick (.t 38) (.d (.bool true)) (.t 41), none⟩])
  (.cond (.t 42) (.seq (.reg [⟨some 2, .mov (.d (.str [])), none⟩,
    ⟨some 3, .mov (.d (.bool false)), none⟩])
  .ret)
  .skip))
  (.seq (.reg [⟨some 43, .mov (.t 4), none⟩,
    ⟨some 44, .cv .any .ofBytes (.t 43), none⟩,
    ⟨some 2, .mov (.t 44), none⟩,
    ⟨some 3, .mov (.d (.bool true)), none⟩])
  .ret))))))⟩
/-- claviger/stretch.Pin -/
def E_stretch_Pin (c_pin_Normal : Nat) (c_stretch_Salt : Nat) (c_stretch_Digits : Nat) : EFn := ⟨20, [.cell 4 16 true, .tmp 5],
  (.seq (.reg [⟨some 3, .box (.t 1), none⟩,
    ⟨some 4, .alloc (List.replicate 16 (B8 0)), none⟩,
    ⟨some 5, .mov (.d (N64 0)), none⟩])
  (.seq (.reg [⟨some 9, .mov (.t 0), none⟩,
    ⟨some 10, .call c_pin_Normal [(.t 9)] [] .any, none⟩,
    ⟨some 8, .mov (.t 10), none⟩,
    ⟨some 11, .ext 0 (.t 8), none⟩,
    ⟨some 12, .ext 1 (.t 8), none⟩,
    ⟨some 6, .mov (.t 11), none⟩,
    ⟨some 7, .mov (.t 12), none⟩])
  (.seq (.seq (.reg [⟨some 13, .mov (.t 7), none⟩,
    ⟨some 14, .neg .not (.t 13), none⟩])
  (.cond (.t 14) (.seq (.reg [⟨some 15, .build (List.replicate 16 (B8 0)) [], none⟩,
    ⟨none, .store 16 (.t 4) (.t 15), none⟩,
    ⟨some 5, .mov (.d (N64 23)), none⟩])
  .ret)
  .skip))
  (.seq (.reg [⟨some 16, .mov (.t 6), none⟩,
    ⟨some 17, .load 4 true (.t 3), none⟩,
    ⟨some 18, .call c_stretch_Salt [(.t 17)] [] .any, none⟩,
    ⟨some 19, .call c_stretch_Digits [(.t 16), (.t 18), (.d (N64 16))] [] .any, none⟩,
    ⟨none, .store 16 (.t 4) (.t 19), none⟩,
    ⟨some 5, .mov (.d (N64 0)), none⟩])
  .ret))))⟩

theorem run_digit (S : Nat → Option Fn) (r : Int) (h : -2147483648 ≤ r ∧ r < 2147483648) : ∃ n, E_pin_digit.run S n [N32 r] [] = some (digD r, []) := by
  unfold E_pin_digit
  apply W_go0 rfl rfl
  have e0 : (List.replicate 4 [N32 0]).flatten = [N32 0, N32 0, N32 0, N32 0] := rfl
  repeat' (first
    | with_reducible apply W_seq
    | with_reducible apply W_sn
    | with_reducible apply W_sr
    | with_reducible apply W_sx
    | ((first | (with_reducible apply W_reg0; focus exact rfl) | (with_reducible apply W_reg0D; focus exact rfl)); focus (simp (disch := first | decide | omega | (simp only [ZL, e0] <;> omega) | fail) only [ZW, simprocAttr, -List.reduceReplicate, e0]; exact rfl))
    | with_reducible apply W_D
    | with_reducible apply W_nil
    | ((first | with_reducible apply W_op | with_reducible apply W_op' | with_reducible apply W_gk | with_reducible apply W_cond | with_reducible apply W_gh); focus (simp (disch := first | decide | omega | (simp only [ZL, e0] <;> omega) | fail) only [ZW, simprocAttr, -List.reduceReplicate, e0]; exact rfl))
    | with_reducible apply gk_t
    | with_reducible apply gk_tf
    | with_reducible apply gk_ft
    | with_reducible apply gk_u
    | with_reducible apply W_t
    | with_reducible apply W_f
    | ((first | with_reducible apply gk_dt | with_reducible apply gk_df | with_reducible apply gk_bt | with_reducible apply gk_bf | with_reducible apply W_d | with_reducible apply W_b) <;> intro hg)
    | with_reducible apply W_skip
    | with_reducible apply W_ret
    | with_reducible apply W_exit
    | with_reducible apply W_un
    | with_reducible apply W_ux
    | with_reducible apply W_ur
    | intro hfx
    | with_reducible apply W_block
    | with_reducible apply W_bn
    | with_reducible apply W_br
    | with_reducible apply W_be
    | with_reducible apply W_bx rfl)
  refine W_loop (I := fun k g B => ∃ i, k + i = 4 ∧ g 8 = N64 i ∧ digitV r = digFrom (zeros4.drop i) r ∧ B = ⟨[], []⟩) 4 ⟨0, rfl, rfl, rfl, rfl⟩ ?_
  rintro k g B hfr ⟨i, hk, g8, hd, rfl⟩
  have g0 : g 0 = N32 r := hfr 0 rfl
  have g6 : g 6 = .sl .full 1 [[N32 48], [N32 65296], [N32 1632], [N32 1776]] := hfr 6 rfl
  have g7 : g 7 = N64 4 := hfr 7 rfl
  clear hfr e0
  unfold L_pin_digit_0
  rcases i with _ | _ | _ | _ | i
  · have g8 : g 8 = N64 0 := g8
    repeat' (first
      | with_reducible apply W_seq
      | with_reducible apply W_sn
      | with_reducible apply W_sr
      | with_reducible apply W_sx
      | ((first | (with_reducible apply W_reg0; focus exact rfl) | (with_reducible apply W_reg0D; focus exact rfl)); focus (simp (disch := first | decide | omega | (simp only [ZL, g0, g6, g7, g8] <;> omega) | fail) only [ZW, simprocAttr, -List.reduceReplicate, g0, g6, g7, g8]; exact rfl))
      | with_reducible apply W_D
      | with_reducible apply W_nil
      | ((first | with_reducible apply W_op | with_reducible apply W_op' | with_reducible apply W_gk | with_reducible apply W_cond | with_reducible apply W_gh); focus (simp (disch := first | decide | omega | (simp only [ZL, g0, g6, g7, g8] <;> omega) | fail) only [ZW, simprocAttr, -List.reduceReplicate, g0, g6, g7, g8]; exact rfl))
      | with_reducible apply gk_t
      | with_reducible apply gk_tf
      | with_reducible apply gk_ft
      | with_reducible apply gk_u
      | with_reducible apply W_t
      | with_reducible apply W_f
      | ((first | with_reducible apply gk_dt | with_reducible apply gk_df | with_reducible apply gk_bt | with_reducible apply gk_bf | with_reducible apply W_d | with_reducible apply W_b) <;> intro hg)
      | with_reducible apply W_skip
      | with_reducible apply W_ret
      | with_reducible apply W_exit
      | with_reducible apply W_un
      | with_reducible apply W_ux
      | with_reducible apply W_ur
      | intro hfx
      | with_reducible apply W_block
      | with_reducible apply W_bn
      | with_reducible apply W_br
      | with_reducible apply W_be
      | with_reducible apply W_bx rfl)
    ·
      with_reducible apply fQ_end
      · first | exact Or.inl rfl | exact Or.inr rfl
      · simp (disch := first | decide | omega | (simp only [ZL] <;> omega) | fail) only [ZW, ZR, simprocAttr, -List.reduceReplicate]
        exact rfl
      · exact Nat.le_of_ble_eq_true rfl
      · first | exact rfl | (simp (disch := first | decide | omega | (simp only [ZL] <;> omega) | fail) only [ZW, ZR, simprocAttr, -List.reduceReplicate]; exact rfl)
      simp only [tupOf, digD, hd, zeros4, List.drop_zero, digFrom]
      rw [if_pos ⟨by omega, by omega⟩]
    all_goals
      refine W_ln (k - 1) (by omega) ⟨1, by omega, rfl, ?_, rfl⟩
      simp only [hd, zeros4, List.drop_zero, List.drop_succ_cons]
      rw [digFrom, if_neg (by omega)]
  · have g8 : g 8 = N64 1 := g8
    repeat' (first
      | with_reducible apply W_seq
      | with_reducible apply W_sn
      | with_reducible apply W_sr
      | with_reducible apply W_sx
      | ((first | (with_reducible apply W_reg0; focus exact rfl) | (with_reducible apply W_reg0D; focus exact rfl)); focus (simp (disch := first | decide | omega | (simp only [ZL, g0, g6, g7, g8] <;> omega) | fail) only [ZW, simprocAttr, -List.reduceReplicate, g0, g6, g7, g8]; exact rfl))
      | with_reducible apply W_D
      | with_reducible apply W_nil
      | ((first | with_reducible apply W_op | with_reducible apply W_op' | with_reducible apply W_gk | with_reducible apply W_cond | with_reducible apply W_gh); focus (simp (disch := first | decide | omega | (simp only [ZL, g0, g6, g7, g8] <;> omega) | fail) only [ZW, simprocAttr, -List.reduceReplicate, g0, g6, g7, g8]; exact rfl))
      | with_reducible apply gk_t
      | with_reducible apply gk_tf
      | with_reducible apply gk_ft
      | with_reducible apply gk_u
      | with_reducible apply W_t
      | with_reducible apply W_f
      | ((first | with_reducible apply gk_dt | with_reducible apply gk_df | with_reducible apply gk_bt | with_reducible apply gk_bf | with_reducible apply W_d | with_reducible apply W_b) <;> intro hg)
      | with_reducible apply W_skip
      | with_reducible apply W_ret
      | with_reducible apply W_exit
      | with_reducible apply W_un
      | with_reducible apply W_ux
      | with_reducible apply W_ur
      | intro hfx
      | with_reducible apply W_block
      | with_reducible apply W_bn
      | with_reducible apply W_br
      | with_reducible apply W_be
      | with_reducible apply W_bx rfl)
    ·
      with_reducible apply fQ_end
      · first | exact Or.inl rfl | exact Or.inr rfl
      · simp (disch := first | decide | omega | (simp only [ZL] <;> omega) | fail) only [ZW, ZR, simprocAttr, -List.reduceReplicate]
        exact rfl
      · exact Nat.le_of_ble_eq_true rfl
      · first | exact rfl | (simp (disch := first | decide | omega | (simp only [ZL] <;> omega) | fail) only [ZW, ZR, simprocAttr, -List.reduceReplicate]; exact rfl)
      simp only [tupOf, digD, hd, zeros4, List.drop_zero, List.drop_succ_cons, Nat.zero_add, digFrom]
      rw [if_pos ⟨by omega, by omega⟩]
    all_goals
      refine W_ln (k - 1) (by omega) ⟨2, by omega, rfl, ?_, rfl⟩
      simp only [hd, zeros4, List.drop_zero, List.drop_succ_cons, Nat.zero_add]
      rw [digFrom, if_neg (by omega)]
  · have g8 : g 8 = N64 2 := g8
    repeat' (first
      | with_reducible apply W_seq
      | with_reducible apply W_sn
      | with_reducible apply W_sr
      | with_reducible apply W_sx
      | ((first | (with_reducible apply W_reg0; focus exact rfl) | (with_reducible apply W_reg0D; focus exact rfl)); focus (simp (disch := first | decide | omega | (simp only [ZL, g0, g6, g7, g8] <;> omega) | fail) only [ZW, simprocAttr, -List.reduceReplicate, g0, g6, g7, g8]; exact rfl))
      | with_reducible apply W_D
      | with_reducible apply W_nil
      | ((first | with_reducible apply W_op | with_reducible apply W_op' | with_reducible apply W_gk | with_reducible apply W_cond | with_reducible apply W_gh); focus (simp (disch := first | decide | omega | (simp only [ZL, g0, g6, g7, g8] <;> omega) | fail) only [ZW, simprocAttr, -List.reduceReplicate, g0, g6, g7, g8]; exact rfl))
      | with_reducible apply gk_t
      | with_reducible apply gk_tf
      | with_reducible apply gk_ft
      | with_reducible apply gk_u
      | with_reducible apply W_t
      | with_reducible apply W_f
      | ((first | with_reducible apply gk_dt | with_reducible apply gk_df | with_reducible apply gk_bt | with_reducible apply gk_bf | with_reducible apply W_d | with_reducible apply W_b) <;> intro hg)
      | with_reducible apply W_skip
      | with_reducible apply W_ret
      | with_reducible apply W_exit
      | with_reducible apply W_un
      | with_reducible apply W_ux
      | with_reducible apply W_ur
      | intro hfx
      | with_reducible apply W_block
      | with_reducible apply W_bn
      | with_reducible apply W_br
      | with_reducible apply W_be
      | with_reducible apply W_bx rfl)
    ·
      with_reducible apply fQ_end
      · first | exact Or.inl rfl | exact Or.inr rfl
      · simp (disch := first | decide | omega | (simp only [ZL] <;> omega) | fail) only [ZW, ZR, simprocAttr, -List.reduceReplicate]
        exact rfl
      · exact Nat.le_of_ble_eq_true rfl
      · first | exact rfl | (simp (disch := first | decide | omega | (simp only [ZL] <;> omega) | fail) only [ZW, ZR, simprocAttr, -List.reduceReplicate]; exact rfl)
      simp only [tupOf, digD, hd, zeros4, List.drop_zero, List.drop_succ_cons, Nat.zero_add, Nat.reduceAdd, digFrom]
      rw [if_pos ⟨by omega, by omega⟩]
    all_goals
      refine W_ln (k - 1) (by omega) ⟨3, by omega, rfl, ?_, rfl⟩
      simp only [hd, zeros4, List.drop_zero, List.drop_succ_cons, Nat.zero_add, Nat.reduceAdd]
      rw [digFrom, if_neg (by omega)]
  · have g8 : g 8 = N64 3 := g8
    repeat' (first
      | with_reducible apply W_seq
      | with_reducible apply W_sn
      | with_reducible apply W_sr
      | with_reducible apply W_sx
      | ((first | (with_reducible apply W_reg0; focus exact rfl) | (with_reducible apply W_reg0D; focus exact rfl)); focus (simp (disch := first | decide | omega | (simp only [ZL, g0, g6, g7, g8] <;> omega) | fail) only [ZW, simprocAttr, -List.reduceReplicate, g0, g6, g7, g8]; exact rfl))
      | with_reducible apply W_D
      | with_reducible apply W_nil
      | ((first | with_reducible apply W_op | with_reducible apply W_op' | with_reducible apply W_gk | with_reducible apply W_cond | with_reducible apply W_gh); focus (simp (disch := first | decide | omega | (simp only [ZL, g0, g6, g7, g8] <;> omega) | fail) only [ZW, simprocAttr, -List.reduceReplicate, g0, g6, g7, g8]; exact rfl))
      | with_reducible apply gk_t
      | with_reducible apply gk_tf
      | with_reducible apply gk_ft
      | with_reducible apply gk_u
      | with_reducible apply W_t
      | with_reducible apply W_f
      | ((first | with_reducible apply gk_dt | with_reducible apply gk_df | with_reducible apply gk_bt | with_reducible apply gk_bf | with_reducible apply W_d | with_reducible apply W_b) <;> intro hg)
      | with_reducible apply W_skip
      | with_reducible apply W_ret
      | with_reducible apply W_exit
      | with_reducible apply W_un
      | with_reducible apply W_ux
      | with_reducible apply W_ur
      | intro hfx
      | with_reducible apply W_block
      | with_reducible apply W_bn
      | with_reducible apply W_br
      | with_reducible apply W_be
      | with_reducible apply W_bx rfl)
    ·
      with_reducible apply fQ_end
      · first | exact Or.inl rfl | exact Or.inr rfl
      · simp (disch := first | decide | omega | (simp only [ZL] <;> omega) | fail) only [ZW, ZR, simprocAttr, -List.reduceReplicate]
        exact rfl
      · exact Nat.le_of_ble_eq_true rfl
      · first | exact rfl | (simp (disch := first | decide | omega | (simp only [ZL] <;> omega) | fail) only [ZW, ZR, simprocAttr, -List.reduceReplicate]; exact rfl)
      simp only [tupOf, digD, hd, zeros4, List.drop_zero, List.drop_succ_cons, Nat.zero_add, Nat.reduceAdd, digFrom]
      rw [if_pos ⟨by omega, by omega⟩]
    all_goals
      refine W_ln (k - 1) (by omega) ⟨4, by omega, rfl, ?_, rfl⟩
      simp only [hd, zeros4, List.drop_zero, List.drop_succ_cons, Nat.zero_add, Nat.reduceAdd]
      simp only [digFrom]
      rw [if_neg (by omega)]
  · have g8 : g 8 = N64 4 := by rw [g8, show i = 0 by omega]; rfl
    have hd : digitV r = none := by rw [hd, show i = 0 by omega]; rfl
    repeat' (first
      | with_reducible apply W_seq
      | with_reducible apply W_sn
      | with_reducible apply W_sr
      | with_reducible apply W_sx
      | ((first | (with_reducible apply W_reg0; focus exact rfl) | (with_reducible apply W_reg0D; focus exact rfl)); focus (simp (disch := first | decide | omega | (simp only [ZL, g7, g8, Int.lt_irrefl] <;> omega) | fail) only [ZW, simprocAttr, -List.reduceReplicate, g7, g8, Int.lt_irrefl]; exact rfl))
      | with_reducible apply W_D
      | with_reducible apply W_nil
      | ((first | with_reducible apply W_op | with_reducible apply W_op' | with_reducible apply W_gk | with_reducible apply W_cond | with_reducible apply W_gh); focus (simp (disch := first | decide | omega | (simp only [ZL, g7, g8, Int.lt_irrefl] <;> omega) | fail) only [ZW, simprocAttr, -List.reduceReplicate, g7, g8, Int.lt_irrefl]; exact rfl))
      | with_reducible apply gk_t
      | with_reducible apply gk_tf
      | with_reducible apply gk_ft
      | with_reducible apply gk_u
      | with_reducible apply W_t
      | with_reducible apply W_f
      | ((first | with_reducible apply gk_dt | with_reducible apply gk_df | with_reducible apply gk_bt | with_reducible apply gk_bf | with_reducible apply W_d | with_reducible apply W_b) <;> intro hg)
      | with_reducible apply W_skip
      | with_reducible apply W_ret
      | with_reducible apply W_exit
      | with_reducible apply W_un
      | with_reducible apply W_ux
      | with_reducible apply W_ur
      | intro hfx
      | with_reducible apply W_block
      | with_reducible apply W_bn
      | with_reducible apply W_br
      | with_reducible apply W_be
      | with_reducible apply W_bx rfl)
    with_reducible apply fQ_end
    · first | exact Or.inl rfl | exact Or.inr rfl
    · simp (disch := first | decide | omega | (simp only [ZL] <;> omega) | fail) only [ZW, ZR, simprocAttr, -List.reduceReplicate]
      exact rfl
    · exact Nat.le_of_ble_eq_true rfl
    · first | exact rfl | (simp (disch := first | decide | omega | (simp only [ZL] <;> omega) | fail) only [ZW, ZR, simprocAttr, -List.reduceReplicate]; exact rfl)
    simp only [tupOf, digD, hd]

theorem decode_bound (s : List UInt8) (pos : Nat) (h : pos < s.length) : 1 ≤ (Utf8.decode ⟨s.toArray⟩ pos).2 ∧ ((Utf8.decode ⟨s.toArray⟩ pos).1 : Int) < 2147483648 := by
  rw [Lib.decode_at]
  generalize (⟨s.toArray⟩ : ByteArray).size - pos = n
  have hb : ∀ k, ((⟨s.toArray⟩ : ByteArray).get! k).toNat < 256 := fun k => ((⟨s.toArray⟩ : ByteArray).get! k).toNat_lt
  have h0 := hb pos; have h1 := hb (pos + 1); have h2 := hb (pos + 2); have h3 := hb (pos + 3)
  generalize ((⟨s.toArray⟩ : ByteArray).get! pos).toNat = b0 at *
  generalize ((⟨s.toArray⟩ : ByteArray).get! (pos + 1)).toNat = b1 at *
  generalize ((⟨s.toArray⟩ : ByteArray).get! (pos + 2)).toNat = b2 at *
  generalize ((⟨s.toArray⟩ : ByteArray).get! (pos + 3)).toNat = b3 at *
  unfold Lib.decodeN
  repeat' split
  all_goals simp only [] <;> omega

theorem Normal_body (S : Nat → Option Fn) (c : Nat) (hc : S c = some (lift (fn1 G_digit))) (g : SF) (rn : Int) (s : List UInt8) (pos pos' : Nat) (hp : pos < s.length) (rs : List Int) (out : List UInt8) (ho : out.length ≤ 1000000) (g4 : g 4 = D.sl (Own.tok 0 out.length) 1 (bytesD out)) (g10 : g 10 = .ptr 0 0)
    (hrn : ((Utf8.decode ⟨s.toArray⟩ pos).1 : Int) = rn) (hpos : pos + (Utf8.decode ⟨s.toArray⟩ pos).2 = pos') (hb : rn < 2147483648) (hb0 : 0 ≤ rn) :
    W S (L_pin_Normal_0 c) g ⟨[.iter s pos], [out.length]⟩ (fun x g' B => (x = .normal ∧ ∃ out', normGo (rn :: rs) out = normGo rs out' ∧ out'.length ≤ out.length + 1 ∧ B = ⟨[.iter s pos'], [out'.length]⟩ ∧ g' 4 = .sl (.tok 0 out'.length) 1 (bytesD out') ∧ g' 10 = .ptr 0 0) ∨
      (x = .ret ∧ normGo (rn :: rs) out = none ∧ g' 2 = .str [] ∧ g' 3 = .bool false)) := by
  rcases hd : digitV rn with _ | ch
  · have e1 := digD_none hd
    unfold L_pin_Normal_0
    repeat' (first
      | with_reducible apply W_seq
      | with_reducible apply W_sn
      | with_reducible apply W_sr
      | with_reducible apply W_sx
      | ((first | (with_reducible apply W_reg0; focus exact rfl) | (with_reducible apply W_reg0D; focus exact rfl)); focus (simp (disch := first | decide | omega | (simp only [ZL, g4, g10, hp, hrn, hpos, call1 hc, G_digit_eq, e1] <;> omega) | fail) only [ZW, simprocAttr, -List.reduceReplicate, g4, g10, hp, hrn, hpos, call1 hc, G_digit_eq, e1]; exact rfl))
      | with_reducible apply W_D
      | with_reducible apply W_nil
      | ((first | with_reducible apply W_op | with_reducible apply W_op' | with_reducible apply W_gk | with_reducible apply W_cond | with_reducible apply W_gh); focus (simp (disch := first | decide | omega | (simp only [ZL, g4, g10, hp, hrn, hpos, call1 hc, G_digit_eq, e1] <;> omega) | fail) only [ZW, simprocAttr, -List.reduceReplicate, g4, g10, hp, hrn, hpos, call1 hc, G_digit_eq, e1]; exact rfl))
      | with_reducible apply gk_t
      | with_reducible apply gk_tf
      | with_reducible apply gk_ft
      | with_reducible apply gk_u
      | with_reducible apply W_t
      | with_reducible apply W_f
      | ((first | with_reducible apply gk_dt | with_reducible apply gk_df | with_reducible apply gk_bt | with_reducible apply gk_bf | with_reducible apply W_d | with_reducible apply W_b) <;> intro hg)
      | with_reducible apply W_skip
      | with_reducible apply W_ret
      | with_reducible apply W_exit
      | with_reducible apply W_un
      | with_reducible apply W_ux
      | with_reducible apply W_ur
      | intro hfx
      | with_reducible apply W_block
      | with_reducible apply W_bn
      | with_reducible apply W_br
      | with_reducible apply W_be
      | with_reducible apply W_bx rfl)
    all_goals first
      | exact .inl ⟨rfl, out, by rw [normGo, if_pos (by omega)], by omega, rfl, g4, g10⟩
      | exact .inr ⟨rfl, by rw [normGo, if_neg (by omega), hd], rfl, rfl⟩
  · have e1 := digD_some hd
    unfold L_pin_Normal_0
    repeat' (first
      | with_reducible apply W_seq
      | with_reducible apply W_sn
      | with_reducible apply W_sr
      | with_reducible apply W_sx
      | ((first | (with_reducible apply W_reg0; focus exact rfl) | (with_reducible apply W_reg0D; focus exact rfl)); focus (simp (disch := first | decide | omega | (simp only [ZL, g4, g10, hp, hrn, hpos, call1 hc, G_digit_eq, e1] <;> omega) | fail) only [ZW, simprocAttr, -List.reduceReplicate, g4, g10, hp, hrn, hpos, call1 hc, G_digit_eq, e1]; exact rfl))
      | with_reducible apply W_D
      | with_reducible apply W_nil
      | ((first | with_reducible apply W_op | with_reducible apply W_op' | with_reducible apply W_gk | with_reducible apply W_cond | with_reducible apply W_gh); focus (simp (disch := first | decide | omega | (simp only [ZL, g4, g10, hp, hrn, hpos, call1 hc, G_digit_eq, e1] <;> omega) | fail) only [ZW, simprocAttr, -List.reduceReplicate, g4, g10, hp, hrn, hpos, call1 hc, G_digit_eq, e1]; exact rfl))
      | with_reducible apply gk_t
      | with_reducible apply gk_tf
      | with_reducible apply gk_ft
      | with_reducible apply gk_u
      | with_reducible apply W_t
      | with_reducible apply W_f
      | ((first | with_reducible apply gk_dt | with_reducible apply gk_df | with_reducible apply gk_bt | with_reducible apply gk_bf | with_reducible apply W_d | with_reducible apply W_b) <;> intro hg)
      | with_reducible apply W_skip
      | with_reducible apply W_ret
      | with_reducible apply W_exit
      | with_reducible apply W_un
      | with_reducible apply W_ux
      | with_reducible apply W_ur
      | intro hfx
      | with_reducible apply W_block
      | with_reducible apply W_bn
      | with_reducible apply W_br
      | with_reducible apply W_be
      | with_reducible apply W_bx rfl)
    all_goals first
      | exact .inl ⟨rfl, out, by rw [normGo, if_pos (by omega)], by omega, rfl, g4, g10⟩
      | exact .inl ⟨rfl, out ++ [ch], by rw [normGo, if_neg (by omega), hd], by rw [len_snoc]; omega, by rw [len_snoc], by rw [len_snoc]; rfl, g10⟩

theorem Normal_end (S : Nat → Option Fn) (c : Nat) (g : SF) (s : List UInt8) (pos : Nat) (hp : ¬ pos < s.length) (T : List Nat) (g10 : g 10 = .ptr 0 0) :
    W S (L_pin_Normal_0 c) g ⟨[.iter s pos], T⟩ (fun x g' B => x = .exit 0 ∧ B = ⟨[.iter s pos], T⟩ ∧ g' 4 = g 4) := by
  unfold L_pin_Normal_0
  repeat' (first
    | with_reducible apply W_seq
    | with_reducible apply W_sn
    | with_reducible apply W_sr
    | with_reducible apply W_sx
    | ((first | (with_reducible apply W_reg0; focus exact rfl) | (with_reducible apply W_reg0D; focus exact rfl)); focus (simp (disch := first | decide | omega | (simp only [ZL, g10, hp] <;> omega) | fail) only [ZW, simprocAttr, -List.reduceReplicate, g10, hp]; exact rfl))
    | with_reducible apply W_D
    | with_reducible apply W_nil
    | ((first | with_reducible apply W_op | with_reducible apply W_op' | with_reducible apply W_gk | with_reducible apply W_cond | with_reducible apply W_gh); focus (simp (disch := first | decide | omega | (simp only [ZL, g10, hp] <;> omega) | fail) only [ZW, simprocAttr, -List.reduceReplicate, g10, hp]; exact rfl))
    | with_reducible apply gk_t
    | with_reducible apply gk_tf
    | with_reducible apply gk_ft
    | with_reducible apply gk_u
    | with_reducible apply W_t
    | with_reducible apply W_f
    | ((first | with_reducible apply gk_dt | with_reducible apply gk_df | with_reducible apply gk_bt | with_reducible apply gk_bf | with_reducible apply W_d | with_reducible apply W_b) <;> intro hg)
    | with_reducible apply W_skip
    | with_reducible apply W_ret
    | with_reducible apply W_exit
    | with_reducible apply W_un
    | with_reducible apply W_ux
    | with_reducible apply W_ur
    | intro hfx
    | with_reducible apply W_block
    | with_reducible apply W_bn
    | with_reducible apply W_br
    | with_reducible apply W_be
    | with_reducible apply W_bx rfl)
  exact ⟨rfl, rfl, rfl⟩

theorem Normal_loop (S : Nat → Option Fn) (c : Nat) (hc : S c = some (lift (fn1 G_digit))) (f : SF) (s : List UInt8) (hs : s.length ≤ 1000000) (f4 : f 4 = .sl (.tok 0 0) 1 []) (f10 : f 10 = .ptr 0 0) :
    W S (.loop (L_pin_Normal_0 c)) f ⟨[.iter s 0], [0]⟩ (fun x g B => (x = .exit 0 ∧ ∃ out pos, normGo (runes s) [] = some out ∧ out.length ≤ 1000000 ∧ B = ⟨[.iter s pos], [out.length]⟩ ∧ g 4 = .sl (.tok 0 out.length) 1 (bytesD out)) ∨
      (x = .ret ∧ normGo (runes s) [] = none ∧ g 2 = .str [] ∧ g 3 = .bool false)) := by
  refine W_loop (I := fun k g B => ∃ pos out, s.length - pos ≤ k ∧ out.length + k ≤ s.length ∧ normGo (runesF s k pos) out = normGo (runes s) [] ∧ B = ⟨[.iter s pos], [out.length]⟩ ∧ g 4 = .sl (.tok 0 out.length) 1 (bytesD out) ∧ g 10 = .ptr 0 0) s.length ⟨0, [], Nat.le_refl _, by simp, rfl, rfl, f4, f10⟩ ?_
  rintro k g B - ⟨pos, out, hk, ho, hr, rfl, g4, g10⟩
  rcases Nat.lt_or_ge pos s.length with hp | hp
  · obtain ⟨k, rfl⟩ : ∃ j, k = j + 1 := ⟨k - 1, by omega⟩
    obtain ⟨hw, hb⟩ := decode_bound s pos hp
    have hr' : normGo (((Utf8.decode ⟨s.toArray⟩ pos).1 : Int) :: runesF s k (pos + (Utf8.decode ⟨s.toArray⟩ pos).2)) out = normGo (runes s) [] := by
      rw [← hr, runesF, if_pos hp]
    refine W_mono (Normal_body S c hc g _ s pos _ hp (runesF s k (pos + (Utf8.decode ⟨s.toArray⟩ pos).2)) out (by omega) g4 g10 rfl rfl hb (by omega)) ?_
    rintro x g' B' - (⟨rfl, out', h1, h2, rfl, h3, h4⟩ | ⟨rfl, h1, h2, h3⟩)
    · exact W_ln k (by omega) ⟨_, out', by omega, by omega, by rw [← hr', h1], rfl, h3, h4⟩
    · exact fun _ => .inr ⟨rfl, by rw [← hr', h1], h2, h3⟩
  · refine W_mono (Normal_end S c g s pos (by omega) _ g10) ?_
    rintro x g' B' - ⟨rfl, rfl, h3⟩
    refine fun _ => .inl ⟨rfl, out, pos, ?_, by omega, rfl, h3.trans g4⟩
    rw [← hr]
    cases k with
    | zero => rfl
    | succ k => rw [runesF, if_neg (by omega)]; rfl

theorem normD_none {s : List UInt8} (h : normal s = none) : normD s = .tup [.str [], .bool false] := by unfold normD; rw [h]
theorem normD_some {s d : List UInt8} (h : normal s = some d) : normD s = .tup [.str d, .bool true] := by unfold normD; rw [h]

theorem run_Normal (S : Nat → Option Fn) (c : Nat) (hc : S c = some (lift (fn1 G_digit))) (s : List UInt8) (h : s.length ≤ 1000000) : ∃ n, (E_pin_Normal c).run S n [.str s] [] = some (normD s, []) := by
  unfold E_pin_Normal
  apply W_go0 rfl rfl
  repeat' (first
    | with_reducible apply W_seq
    | with_reducible apply W_sn
    | with_reducible apply W_sr
    | with_reducible apply W_sx
    | ((first | (with_reducible apply W_reg0; focus exact rfl) | (with_reducible apply W_reg0D; focus exact rfl)); focus (simp (disch := first | decide | omega | (simp only [ZL] <;> omega) | fail) only [ZW, simprocAttr, -List.reduceReplicate]; exact rfl))
    | with_reducible apply W_D
    | with_reducible apply W_nil
    | ((first | with_reducible apply W_op | with_reducible apply W_op' | with_reducible apply W_gk | with_reducible apply W_cond | with_reducible apply W_gh); focus (simp (disch := first | decide | omega | (simp only [ZL] <;> omega) | fail) only [ZW, simprocAttr, -List.reduceReplicate]; exact rfl))
    | with_reducible apply gk_t
    | with_reducible apply gk_tf
    | with_reducible apply gk_ft
    | with_reducible apply gk_u
    | with_reducible apply W_t
    | with_reducible apply W_f
    | ((first | with_reducible apply gk_dt | with_reducible apply gk_df | with_reducible apply gk_bt | with_reducible apply gk_bf | with_reducible apply W_d | with_reducible apply W_b) <;> intro hg)
    | with_reducible apply W_skip
    | with_reducible apply W_ret
    | with_reducible apply W_exit
    | with_reducible apply W_un
    | with_reducible apply W_ux
    | with_reducible apply W_ur
    | intro hfx
    | with_reducible apply W_block
    | with_reducible apply W_bn
    | with_reducible apply W_br
    | with_reducible apply W_be
    | with_reducible apply W_bx rfl)
  refine W_mono (Normal_loop S c hc _ s h rfl rfl) ?_
  rintro x g B - (⟨rfl, out, pos, hn, ho, rfl, g4⟩ | ⟨rfl, hn, g2, g3⟩)
  · have hnm : normal s = if out.length < 4 ∨ 12 < out.length then none else some out := by unfold normal; rw [hn]
    repeat' (first
      | with_reducible apply W_seq
      | with_reducible apply W_sn
      | with_reducible apply W_sr
      | with_reducible apply W_sx
      | ((first | (with_reducible apply W_reg0; focus exact rfl) | (with_reducible apply W_reg0D; focus exact rfl)); focus (simp (disch := first | decide | omega | (simp only [ZL, g4] <;> omega) | fail) only [ZW, simprocAttr, -List.reduceReplicate, g4]; exact rfl))
      | with_reducible apply W_D
      | with_reducible apply W_nil
      | ((first | with_reducible apply W_op | with_reducible apply W_op' | with_reducible apply W_gk | with_reducible apply W_cond | with_reducible apply W_gh); focus (simp (disch := first | decide | omega | (simp only [ZL, g4] <;> omega) | fail) only [ZW, simprocAttr, -List.reduceReplicate, g4]; exact rfl))
      | with_reducible apply gk_t
      | with_reducible apply gk_tf
      | with_reducible apply gk_ft
      | with_reducible apply gk_u
      | with_reducible apply W_t
      | with_reducible apply W_f
      | ((first | with_reducible apply gk_dt | with_reducible apply gk_df | with_reducible apply gk_bt | with_reducible apply gk_bf | with_reducible apply W_d | with_reducible apply W_b) <;> intro hg)
      | with_reducible apply W_skip
      | with_reducible apply W_ret
      | with_reducible apply W_exit
      | with_reducible apply W_un
      | with_reducible apply W_ux
      | with_reducible apply W_ur
      | intro hfx
      | with_reducible apply W_block
      | with_reducible apply W_bn
      | with_reducible apply W_br
      | with_reducible apply W_be
      | with_reducible apply W_bx rfl)
    all_goals
      with_reducible apply fQ_end
      · first | exact Or.inl rfl | exact Or.inr rfl
      · simp (disch := first | decide | omega | (simp only [ZL] <;> omega) | fail) only [ZW, ZR, simprocAttr, -List.reduceReplicate]
        exact rfl
      · exact Nat.le_of_ble_eq_true rfl
      · first | exact rfl | (simp (disch := first | decide | omega | (simp only [ZL] <;> omega) | fail) only [ZW, ZR, simprocAttr, -List.reduceReplicate]; exact rfl)
      first
        | exact (normD_none (by rw [hnm, if_pos (by omega)])).symm
        | exact (normD_some (by rw [hnm, if_neg (by omega)])).symm
  · have hnm : normal s = none := by unfold normal; rw [hn]
    repeat' (first
      | with_reducible apply W_seq
      | with_reducible apply W_sn
      | with_reducible apply W_sr
      | with_reducible apply W_sx
      | ((first | (with_reducible apply W_reg0; focus exact rfl) | (with_reducible apply W_reg0D; focus exact rfl)); focus (simp (disch := first | decide | omega | (simp only [ZL] <;> omega) | fail) only [ZW, simprocAttr, -List.reduceReplicate]; exact rfl))
      | with_reducible apply W_D
      | with_reducible apply W_nil
      | ((first | with_reducible apply W_op | with_reducible apply W_op' | with_reducible apply W_gk | with_reducible apply W_cond | with_reducible apply W_gh); focus (simp (disch := first | decide | omega | (simp only [ZL] <;> omega) | fail) only [ZW, simprocAttr, -List.reduceReplicate]; exact rfl))
      | with_reducible apply gk_t
      | with_reducible apply gk_tf
      | with_reducible apply gk_ft
      | with_reducible apply gk_u
      | with_reducible apply W_t
      | with_reducible apply W_f
      | ((first | with_reducible apply gk_dt | with_reducible apply gk_df | with_reducible apply gk_bt | with_reducible apply gk_bf | with_reducible apply W_d | with_reducible apply W_b) <;> intro hg)
      | with_reducible apply W_skip
      | with_reducible apply W_ret
      | with_reducible apply W_exit
      | with_reducible apply W_un
      | with_reducible apply W_ux
      | with_reducible apply W_ur
      | intro hfx
      | with_reducible apply W_block
      | with_reducible apply W_bn
      | with_reducible apply W_br
      | with_reducible apply W_be
      | with_reducible apply W_bx rfl)
    with_reducible apply fQ_end
    · first | exact Or.inl rfl | exact Or.inr rfl
    · simp (disch := first | decide | omega | (simp only [ZL, g2, g3] <;> omega) | fail) only [ZW, ZR, simprocAttr, -List.reduceReplicate, g2, g3]
      exact rfl
    · exact Nat.le_of_ble_eq_true rfl
    · first | exact rfl | (simp (disch := first | decide | omega | (simp only [ZL, g2, g3] <;> omega) | fail) only [ZW, ZR, simprocAttr, -List.reduceReplicate, g2, g3]; exact rfl)
    exact (normD_none hnm).symm

end Ev

namespace Ev
open Go

/-- claviger/clavigerlaw3.known -/
def E_law3_known (c_stretch_Pin : Nat) : EFn := ⟨42, [.tmp 0],
  (.seq (.reg [⟨some 0, .mov (.d (.bool false)), none⟩])
  (.seq (.reg [⟨some 8, .build (List.replicate 4 (B8 0)) [(0, 1, (.d (B8 1)))], none⟩,
    ⟨some 9, .call c_stretch_Pin [(.d (.str [49, 50, 51, 52])), (.t 8)] [] .any, none⟩,
    ⟨some 7, .mov (.t 9), none⟩,
    ⟨some 10, .ext 0 (.t 7), none⟩,
    ⟨some 11, .ext 1 (.t 7), none⟩,
    ⟨some 1, .alloc (List.replicate 16 (B8 0)), none⟩,
    ⟨none, .store 16 (.t 1) (.t 10), none⟩,
    ⟨some 2, .mov (.t 11), none⟩])
  (.seq (.reg [⟨some 13, .build (List.replicate 4 (B8 0)) [(0, 1, (.d (B8 1)))], none⟩,
    ⟨some 14, .call c_stretch_Pin [(.d (.str [49, 50, 32, 51, 52])), (.t 13)] [] .any, none⟩,
    ⟨some 12, .mov (.t 14), none⟩,
    ⟨some 15, .ext 0 (.t 12), none⟩,
    ⟨some 16, .ext 1 (.t 12), none⟩,
    ⟨some 3, .alloc (List.replicate 16 (B8 0)), none⟩,
    ⟨none, .store 16 (.t 3) (.t 15), none⟩,
    ⟨some 4, .mov (.t 16), none⟩])
  (.seq (.reg [⟨some 18, .build (List.replicate 4 (B8 0)) [(0, 1, (.d (B8 1)))], none⟩,
    ⟨some 19, .call c_stretch_Pin [(.d (.str [49, 50])), (.t 18)] [] .any, none⟩,
    ⟨some 17, .mov (.t 19), none⟩,
    ⟨some 20, .ext 0 (.t 17), none⟩,
    ⟨some 21, .ext 1 (.t 17), none⟩,
    ⟨some 5, .alloc (List.replicate 16 (B8 0)), none⟩,
    ⟨none, .store 16 (.t 5) (.t 20), none⟩,
    ⟨some 6, .mov (.t 21), none⟩])
  (.seq (.reg [⟨some 22, .mov (.t 2), none⟩,
    ⟨some 23, .bin .eql (.t 22) (.d (N64 0)), none⟩,
    ⟨some 24, .mov (.t 23), none⟩,
    ⟨some 25, .mov (.t 4), some (24, true)⟩,
    ⟨some 26, .bin .eql (.t 25) (.d (N64 0)), some (24, true)⟩,
    ⟨some 27, .pick (.t 24) (.t 26) (.d (.bool false)), none⟩,
    ⟨some 28, .mov (.t 27), none⟩,
    ⟨some 29, .load 16 true (.t 1), some (28, true)⟩,
    ⟨some 30, .load 16 true (.t 3), some (28, true)⟩,
    ⟨some 31, .eqa 16 false (.t 29) (.t 30), some (28, true)⟩,
    ⟨some 32, .pick (.t 28) (.t 31) (.d (.bool false)), none⟩,
    ⟨some 33, .mov (.t 32), none⟩,
    ⟨some 34, .load 16 true (.t 1), some (33, true)⟩,
    ⟨some 35, .build (List.replicate 16 (B8 0)) [], some (33, true)⟩,
    ⟨some 36, .eqa 16 true (.t 34) (.t 35), some (33, true)⟩,
    ⟨some 37, .pick (.t 33) (.t 36) (.d (.bool false)), none⟩,
    ⟨some 38, .mov (.t 37), none⟩,
    ⟨some 39, .mov (.t 6), some (38, true)⟩,
    ⟨some 40, .bin .eql (.t 39) (.d (N64 23)), some (38, true)⟩,
    ⟨some 41, .pick (.t 38) (.t 40) (.d (.bool false)), none⟩,
    ⟨some 0, .mov (.t 41), none⟩])
  .ret)))))⟩
/-- claviger/clavigerlaw3.StretchRounds -/
def E_law3_StretchRounds (c_book_Within : Nat) (c_stretch_Digits : Nat) (c_ref2_Two : Nat) (c_law3_known : Nat) : EFn := ⟨32, [.tmp 6],
  (.seq (.reg [⟨some 4, .box (.t 1), none⟩,
    ⟨some 6, .mov (.d (.bool false)), none⟩])
  (.seq (.reg [⟨some 9, .mov (.t 2), none⟩,
    ⟨some 10, .call c_book_Within [(.t 9), (.d (N64 0)), (.d (N64 40))] [] .any, none⟩,
    ⟨some 7, .mov (.t 10), none⟩])
  (.seq (.seq (.reg [⟨some 11, .mov (.t 0), none⟩,
    ⟨some 12, .lenT (.t 11), none⟩,
    ⟨some 13, .bin .gtr (.t 12) (.d (N64 20)), none⟩])
  (.cond (.t 13) (.reg [⟨some 14, .mov (.t 0), none⟩,
    ⟨some 15, .slT (.t 14) none (some (.d (N64 20))), none⟩,
    ⟨some 0, .mov (.t 15), none⟩])
  .skip))
  (.seq (.reg [⟨some 16, .mov (.t 0), none⟩,
    ⟨some 17, .load 16 true (.t 4), none⟩,
    ⟨some 18, .mov (.t 7), none⟩,
    ⟨some 19, .call c_stretch_Digits [(.t 16), (.t 17), (.t 18)] [] .any, none⟩,
    ⟨some 8, .alloc (List.replicate 16 (B8 0)), none⟩,
    ⟨none, .store 16 (.t 8) (.t 19), none⟩])
  (.seq (.regD [⟨some 20, .mov (.t 0), none⟩,
    ⟨some 21, .load 16 true (.t 4), none⟩,
    ⟨some 22, .mov (.t 7), none⟩,
    ⟨some 23, .bin .add (.t 22) (.d (N64 1)), none⟩,
    ⟨some 24, .call c_stretch_Digits [(.t 20), (.t 21), (.t 23)] [] .any, none⟩,
    ⟨some 25, .load 16 true (.t 8), none⟩,
    ⟨some 26, .load 16 true (.t 4), none⟩,
    ⟨some 27, .call c_ref2_Two [(.t 25), (.t 26)] [] .any, none⟩,
    ⟨some 28, .eqa 16 false (.t 24) (.t 27), none⟩,
    ⟨some 29, .mov (.t 28), none⟩,
    ⟨some 30, .call c_law3_known [] [] .any, some (29, true)⟩,
    ⟨some 31, .pick (.t 29) (.t 30) (.d (.bool false)), none⟩,
    ⟨some 6, .mov (.t 31), none⟩] [])
  .ret)))))⟩
-- writes 9 10 12 29 30 31 32 33 34 35 36 37 38 39 40 41 42 43 44 45 46 47 48 of 93
def L_law3_StretchScripts_0 : ECode :=
  (.seq (.seq (.reg [⟨some 29, .mov (.t 12), none⟩,
    ⟨some 30, .bin .gtr (.t 29) (.d (W32 0)), none⟩])
  (.cond (.t 30) .skip
  (.exit 0)))
  (.seq (.block 1 (.seq (.reg [⟨some 33, .mov (.t 9), none⟩,
    ⟨some 34, .mov (.t 12), none⟩,
    ⟨some 35, .bin .rem (.t 34) (.d (W32 10)), none⟩,
    ⟨some 36, .bin .add (.d (W32 48)) (.t 35), none⟩,
    ⟨some 37, .cv .any (.toInt .i32) (.t 36), none⟩,
    ⟨some 38, .cv .any .ofRune (.t 37), none⟩,
    ⟨some 39, .bin .add (.t 33) (.t 38), none⟩,
    ⟨some 9, .mov (.t 39), none⟩])
  (.reg [⟨some 40, .mov (.t 10), none⟩,
    ⟨some 41, .mov (.t 11), none⟩,
    ⟨some 42, .mov (.t 12), none⟩,
    ⟨some 43, .bin .rem (.t 42) (.d (W32 10)), none⟩,
    ⟨some 44, .cv .any (.toInt .i32) (.t 43), none⟩,
    ⟨some 45, .bin .add (.t 41) (.t 44), none⟩,
    ⟨some 46, .cv .any .ofRune (.t 45), none⟩,
    ⟨some 47, .bin .add (.t 46) (.d (.str [45])), none⟩,
    ⟨some 48, .bin .add (.t 40) (.t 47), none⟩,
    ⟨some 10, .mov (.t 48), none⟩])))
  (.reg [⟨some 31, .mov (.t 12), none⟩,
    ⟨some 32, .bin .quo (.t 31) (.d (W32 10)), none⟩,
    ⟨some 12, .mov (.t 32), none⟩])))

/-- claviger/clavigerlaw3.StretchScripts -/
def E_law3_StretchScripts (c_stretch_Pin : Nat) (c_ref2_Salt : Nat) (c_ref2_Digits : Nat) (c_law3_known : Nat) : EFn := ⟨93, [.tmp 8],
  (.seq (.reg [⟨some 5, .box (.t 1), none⟩,
    ⟨some 6, .box (.t 2), none⟩,
    ⟨some 8, .mov (.d (.bool false)), none⟩])
  (.seq (.reg [⟨some 9, .mov (.d (.str [])), none⟩,
    ⟨some 10, .mov (.d (.str [32])), none⟩])
  (.seq (.reg [⟨some 19, .bsl .any 1 [N32 0] 4 [(0, (.d (N32 48))), (1, (.d (N32 65296))), (2, (.d (N32 1632))), (3, (.d (N32 1776)))], none⟩,
    ⟨some 20, .mov (.t 3), none⟩,
    ⟨some 21, .bin .rem (.t 20) (.d (N64 4)), none⟩,
    ⟨some 22, .bin .add (.t 21) (.d (N64 4)), none⟩,
    ⟨some 23, .bin .rem (.t 22) (.d (N64 4)), none⟩,
    ⟨some 24, .iadrS 1 (.t 19) (.t 23), none⟩,
    ⟨some 25, .load 1 false (.t 24), none⟩,
    ⟨some 11, .mov (.t 25), none⟩])
  (.seq (.seq (.reg [⟨some 26, .mov (.t 0), none⟩,
    ⟨some 27, .bin .rem (.t 26) (.d (W32 900000)), none⟩,
    ⟨some 28, .bin .add (.t 27) (.d (W32 1000)), none⟩,
    ⟨some 12, .mov (.t 28), none⟩])
  (.block 0 (.loop (L_law3_StretchScripts_0))))
  (.seq (.reg [⟨some 50, .mov (.t 9), none⟩,
    ⟨some 51, .load 4 true (.t 5), none⟩,
    ⟨some 52, .call c_stretch_Pin [(.t 50), (.t 51)] [] .any, none⟩,
    ⟨some 49, .mov (.t 52), none⟩,
    ⟨some 53, .ext 0 (.t 49), none⟩,
    ⟨some 54, .ext 1 (.t 49), none⟩,
    ⟨some 13, .alloc (List.replicate 16 (B8 0)), none⟩,
    ⟨none, .store 16 (.t 13) (.t 53), none⟩,
    ⟨some 14, .mov (.t 54), none⟩])
  (.seq (.reg [⟨some 56, .mov (.t 10), none⟩,
    ⟨some 57, .load 4 true (.t 5), none⟩,
    ⟨some 58, .call c_stretch_Pin [(.t 56), (.t 57)] [] .any, none⟩,
    ⟨some 55, .mov (.t 58), none⟩,
    ⟨some 59, .ext 0 (.t 55), none⟩,
    ⟨some 60, .ext 1 (.t 55), none⟩,
    ⟨some 15, .alloc (List.replicate 16 (B8 0)), none⟩,
    ⟨none, .store 16 (.t 15) (.t 59), none⟩,
    ⟨some 16, .mov (.t 60), none⟩])
  (.seq (.reg [⟨some 62, .mov (.t 10), none⟩,
    ⟨some 63, .load 4 true (.t 6), none⟩,
    ⟨some 64, .call c_stretch_Pin [(.t 62), (.t 63)] [] .any, none⟩,
    ⟨some 61, .mov (.t 64), none⟩,
    ⟨some 65, .ext 0 (.t 61), none⟩,
    ⟨some 66, .ext 1 (.t 61), none⟩,
    ⟨some 17, .alloc (List.replicate 16 (B8 0)), none⟩,
    ⟨none, .store 16 (.t 17) (.t 65), none⟩,
    ⟨some 18, .mov (.t 66), none⟩])
  (.seq (.regD [⟨some 67, .mov (.t 14), none⟩,
    ⟨some 68, .bin .eql (.t 67) (.d (N64 0)), none⟩,
    ⟨some 69, .mov (.t 68), none⟩,
    ⟨some 70, .mov (.t 16), some (69, true)⟩,
    ⟨some 71, .bin .eql (.t 70) (.d (N64 0)), some (69, true)⟩,
    ⟨some 72, .pick (.t 69) (.t 71) (.d (.bool false)), none⟩,
    ⟨some 73, .mov (.t 72), none⟩,
    ⟨some 74, .mov (.t 18), some (73, true)⟩,
    ⟨some 75, .bin .eql (.t 74) (.d (N64 0)), some (73, true)⟩,
    ⟨some 76, .pick (.t 73) (.t 75) (.d (.bool false)), none⟩,
    ⟨some 77, .mov (.t 76), none⟩,
    ⟨some 78, .load 16 true (.t 13), some (77, true)⟩,
    ⟨some 79, .load 16 true (.t 15), some (77, true)⟩,
    ⟨some 80, .eqa 16 false (.t 78) (.t 79), some (77, true)⟩,
    ⟨some 81, .pick (.t 77) (.t 80) (.d (.bool false)), none⟩,
    ⟨some 82, .mov (.t 81), none⟩,
    ⟨some 83, .load 16 true (.t 17), some (82, true)⟩,
    ⟨some 84, .mov (.t 9), some (82, true)⟩,
    ⟨some 85, .load 4 true (.t 6), some (82, true)⟩,
    ⟨some 86, .call c_ref2_Salt [(.t 85)] [] .any, some (82, true)⟩,
    ⟨some 87, .call c_ref2_Digits [(.t 84), (.t 86), (.d (N64 16))] [] .any, some (82, true)⟩,
    ⟨some 88, .eqa 16 false (.t 83) (.t 87), some (82, true)⟩,
    ⟨some 89, .pick (.t 82) (.t 88) (.d (.bool false)), none⟩,
    ⟨some 90, .mov (.t 89), none⟩,
    ⟨some 91, .call c_law3_known [] [] .any, some (90, true)⟩,
    ⟨some 92, .pick (.t 90) (.t 91) (.d (.bool false)), none⟩,
    ⟨some 8, .mov (.t 92), none⟩] [])
  .ret))))))))⟩

def pinD (s id : List UInt8) : D := match normal s with
  | some d => .tup [.agg (bytesC (digitsL d (sumL id) 16)), N64 0]
  | none => .tup [.agg (bytesC (List.replicate 16 0)), N64 23]
theorem pinD_none {s id : List UInt8} (h : normal s = none) : pinD s id = .tup [.agg (bytesC (List.replicate 16 0)), N64 23] := by unfold pinD; rw [h]
theorem pinD_some {s id d : List UInt8} (h : normal s = some d) : pinD s id = .tup [.agg (bytesC (digitsL d (sumL id) 16)), N64 0] := by unfold pinD; rw [h]
theorem normal_length {s d : List UInt8} (h : normal s = some d) : d.length ≤ 12 := by
  unfold normal at h
  split at h
  · split at h
    · cases h
    · cases h; omega
  · cases h

def G_pin (s : Str) (id : Ar) : Option D := if s.s.length ≤ 1000000 ∧ id.b.length = 4 then some (pinD s.s id.b) else none
theorem G_pin_eq (s id : List UInt8) (h : s.length ≤ 1000000) (h2 : id.length = 4) : G_pin ⟨s⟩ ⟨id⟩ = some (pinD s id) := if_pos ⟨h, h2⟩

theorem run_Pin (S : Nat → Option Fn) (c1 c2 c3 : Nat) (h1 : S c1 = some (lift (fn1 G_normal))) (h2 : S c2 = some (lift (fn1 G_salt))) (h3 : S c3 = some (lift (fn3 G_digits))) (s id : List UInt8) (hs : s.length ≤ 1000000) (hi : id.length = 4) :
    ∃ n, (E_stretch_Pin c1 c2 c3).run S n [.str s, .agg (bytesC id)] [] = some (pinD s id, []) := by
  unfold E_stretch_Pin
  apply W_go0 rfl rfl
  have hz : (List.replicate 16 (0 : UInt8)).length = 16 := rfl
  rcases hn : normal s with _ | d
  · have e1 := normD_none hn
    repeat' (first
      | with_reducible apply W_seq
      | with_reducible apply W_sn
      | with_reducible apply W_sr
      | with_reducible apply W_sx
      | ((first | (with_reducible apply W_reg0; focus exact rfl) | (with_reducible apply W_reg0D; focus exact rfl)); focus (simp (disch := first | decide | omega | (simp only [ZL, hi, call1 h1, G_normal_eq, hs, e1, hz] <;> omega) | fail) only [ZW, simprocAttr, -List.reduceReplicate, hi, call1 h1, G_normal_eq, hs, e1, hz]; exact rfl))
      | with_reducible apply W_D
      | with_reducible apply W_nil
      | ((first | with_reducible apply W_op | with_reducible apply W_op' | with_reducible apply W_gk | with_reducible apply W_cond | with_reducible apply W_gh); focus (simp (disch := first | decide | omega | (simp only [ZL, hi, call1 h1, G_normal_eq, hs, e1, hz] <;> omega) | fail) only [ZW, simprocAttr, -List.reduceReplicate, hi, call1 h1, G_normal_eq, hs, e1, hz]; exact rfl))
      | with_reducible apply gk_t
      | with_reducible apply gk_tf
      | with_reducible apply gk_ft
      | with_reducible apply gk_u
      | with_reducible apply W_t
      | with_reducible apply W_f
      | ((first | with_reducible apply gk_dt | with_reducible apply gk_df | with_reducible apply gk_bt | with_reducible apply gk_bf | with_reducible apply W_d | with_reducible apply W_b) <;> intro hg)
      | with_reducible apply W_skip
      | with_reducible apply W_ret
      | with_reducible apply W_exit
      | with_reducible apply W_un
      | with_reducible apply W_ux
      | with_reducible apply W_ur
      | intro hfx
      | with_reducible apply W_block
      | with_reducible apply W_bn
      | with_reducible apply W_br
      | with_reducible apply W_be
      | with_reducible apply W_bx rfl)
    with_reducible apply fQ_end
    · first | exact Or.inl rfl | exact Or.inr rfl
    · simp (disch := first | decide | omega | (simp only [ZL, hz] <;> omega) | fail) only [ZW, ZR, simprocAttr, -List.reduceReplicate, hz]
      exact rfl
    · exact Nat.le_of_ble_eq_true rfl
    · first | exact rfl | (simp (disch := first | decide | omega | (simp only [ZL, hz] <;> omega) | fail) only [ZW, ZR, simprocAttr, -List.reduceReplicate, hz]; exact rfl)
    exact (pinD_none hn).symm
  · have e1 := normD_some hn
    have hd := normal_length hn
    have hL := sumL_length id
    have hD := digitsL_length d (sumL id) 16
    repeat' (first
      | with_reducible apply W_seq
      | with_reducible apply W_sn
      | with_reducible apply W_sr
      | with_reducible apply W_sx
      | ((first | (with_reducible apply W_reg0; focus exact rfl) | (with_reducible apply W_reg0D; focus exact rfl)); focus (simp (disch := first | decide | omega | (simp only [ZL, hi, call1 h1, G_normal_eq, hs, e1, hz, call1 h2, G_salt_eq, call3 h3, G_digits_eq, hL, hD] <;> omega) | fail) only [ZW, simprocAttr, -List.reduceReplicate, hi, call1 h1, G_normal_eq, hs, e1, hz, call1 h2, G_salt_eq, call3 h3, G_digits_eq, hL, hD]; exact rfl))
      | with_reducible apply W_D
      | with_reducible apply W_nil
      | ((first | with_reducible apply W_op | with_reducible apply W_op' | with_reducible apply W_gk | with_reducible apply W_cond | with_reducible apply W_gh); focus (simp (disch := first | decide | omega | (simp only [ZL, hi, call1 h1, G_normal_eq, hs, e1, hz, call1 h2, G_salt_eq, call3 h3, G_digits_eq, hL, hD] <;> omega) | fail) only [ZW, simprocAttr, -List.reduceReplicate, hi, call1 h1, G_normal_eq, hs, e1, hz, call1 h2, G_salt_eq, call3 h3, G_digits_eq, hL, hD]; exact rfl))
      | with_reducible apply gk_t
      | with_reducible apply gk_tf
      | with_reducible apply gk_ft
      | with_reducible apply gk_u
      | with_reducible apply W_t
      | with_reducible apply W_f
      | ((first | with_reducible apply gk_dt | with_reducible apply gk_df | with_reducible apply gk_bt | with_reducible apply gk_bf | with_reducible apply W_d | with_reducible apply W_b) <;> intro hg)
      | with_reducible apply W_skip
      | with_reducible apply W_ret
      | with_reducible apply W_exit
      | with_reducible apply W_un
      | with_reducible apply W_ux
      | with_reducible apply W_ur
      | intro hfx
      | with_reducible apply W_block
      | with_reducible apply W_bn
      | with_reducible apply W_br
      | with_reducible apply W_be
      | with_reducible apply W_bx rfl)
    with_reducible apply fQ_end
    · first | exact Or.inl rfl | exact Or.inr rfl
    · simp (disch := first | decide | omega | (simp only [ZL, hD] <;> omega) | fail) only [ZW, ZR, simprocAttr, -List.reduceReplicate, hD]
      exact rfl
    · exact Nat.le_of_ble_eq_true rfl
    · first | exact rfl | (simp (disch := first | decide | omega | (simp only [ZL, hD] <;> omega) | fail) only [ZW, ZR, simprocAttr, -List.reduceReplicate, hD]; exact rfl)
    exact (pinD_some hn).symm

/-- some of chapter 3's runs -/
def known3 : Prop := normal [49, 50, 51, 52] = some [49, 50, 51, 52] ∧ normal [49, 50, 32, 51, 52] = some [49, 50, 51, 52] ∧ normal [49, 50] = none ∧ digitsL [49, 50, 51, 52] (sumL ((List.replicate 4 0).set 0 1)) 16 ≠ List.replicate 16 0
theorem known3_holds : known3 := by
  refine ⟨?_, ?_, ?_, ?_⟩ <;> decide +kernel

def G_true : Option D := some (.bool true)

theorem run_known3 (S : Nat → Option Fn) (c : Nat) (hc : S c = some (lift (fn2 G_pin))) : ∃ n, (E_law3_known c).run S n [] [] = some (.bool true, []) := by
  obtain ⟨k1, k2, k3, k4⟩ := known3_holds
  have e1 : pinD [49, 50, 51, 52] ((List.replicate 4 0).set 0 1) = _ := pinD_some k1
  have e2 : pinD [49, 50, 32, 51, 52] ((List.replicate 4 0).set 0 1) = _ := pinD_some k2
  have e3 : pinD [49, 50] ((List.replicate 4 0).set 0 1) = _ := pinD_none k3
  have hD := digitsL_length [49, 50, 51, 52] (sumL ((List.replicate 4 0).set 0 1)) 16
  have hz : (List.replicate 16 (0 : UInt8)).length = 16 := rfl
  generalize digitsL [49, 50, 51, 52] (sumL ((List.replicate 4 0).set 0 1)) 16 = X at *
  unfold E_law3_known
  apply W_go0 rfl rfl
  repeat' (first
    | with_reducible apply W_seq
    | with_reducible apply W_sn
    | with_reducible apply W_sr
    | with_reducible apply W_sx
    | ((first | (with_reducible apply W_reg0; focus exact rfl) | (with_reducible apply W_reg0D; focus exact rfl)); focus (simp (disch := first | decide | omega | (simp only [ZL, call2 hc, G_pin_eq, e1, e2, e3, hD, hz, k4] <;> omega) | fail) only [ZW, simprocAttr, -List.reduceReplicate, call2 hc, G_pin_eq, e1, e2, e3, hD, hz, k4]; exact rfl))
    | with_reducible apply W_D
    | with_reducible apply W_nil
    | ((first | with_reducible apply W_op | with_reducible apply W_op' | with_reducible apply W_gk | with_reducible apply W_cond | with_reducible apply W_gh); focus (simp (disch := first | decide | omega | (simp only [ZL, call2 hc, G_pin_eq, e1, e2, e3, hD, hz, k4] <;> omega) | fail) only [ZW, simprocAttr, -List.reduceReplicate, call2 hc, G_pin_eq, e1, e2, e3, hD, hz, k4]; exact rfl))
    | with_reducible apply gk_t
    | with_reducible apply gk_tf
    | with_reducible apply gk_ft
    | with_reducible apply gk_u
    | with_reducible apply W_t
    | with_reducible apply W_f
    | ((first | with_reducible apply gk_dt | with_reducible apply gk_df | with_reducible apply gk_bt | with_reducible apply gk_bf | with_reducible apply W_d | with_reducible apply W_b) <;> intro hg)
    | with_reducible apply W_skip
    | with_reducible apply W_ret
    | with_reducible apply W_exit
    | with_reducible apply W_un
    | with_reducible apply W_ux
    | with_reducible apply W_ur
    | intro hfx
    | with_reducible apply W_block
    | with_reducible apply W_bn
    | with_reducible apply W_br
    | with_reducible apply W_be
    | with_reducible apply W_bx rfl)
  with_reducible apply fQ_end
  · first | exact Or.inl rfl | exact Or.inr rfl
  · simp (disch := first | decide | omega | (simp only [ZL] <;> omega) | fail) only [ZW, ZR, simprocAttr, -List.reduceReplicate]
    exact rfl
  · exact Nat.le_of_ble_eq_true rfl
  · first | exact rfl | (simp (disch := first | decide | omega | (simp only [ZL] <;> omega) | fail) only [ZW, ZR, simprocAttr, -List.reduceReplicate]; exact rfl)
  rfl

theorem clampR_succ (n : Int) (h : 0 ≤ n ∧ n < 1000) : clampR (n + 1) = clampR n + 1 := by
  unfold clampR
  repeat' split
  all_goals omega

theorem run_StretchRounds (S : Nat → Option Fn) (c1 c2 c3 c4 : Nat) (h1 : S c1 = some (lift (fn3 G_within))) (h2 : S c2 = some (lift (fn3 G_digits))) (h3 : S c3 = some (lift (fn2 G_two))) (h4 : S c4 = some (lift (fn0 G_true)))
    (s salt : List UInt8) (n : Int) (hl : salt.length = 16) (hn : -9223372036854775808 ≤ n ∧ n < 9223372036854775808) :
    ∃ m, (E_law3_StretchRounds c1 c2 c3 c4).run S m [.str s, .agg (bytesC salt), N64 n] [] = some (.bool true, []) := by
  obtain ⟨w1, w2⟩ := withinZ_in n 0 40 (by omega)
  have hr : ∀ d : List UInt8, digitsL d salt (withinZ n 0 40 + 1) = twoL (digitsL d salt (withinZ n 0 40)) salt := by
    intro d
    unfold digitsL
    rw [clampR_succ _ ⟨w1, by omega⟩]
    rfl
  have hD : ∀ d : List UInt8, (digitsL d salt (withinZ n 0 40)).length = 16 := fun d => digitsL_length _ _ _
  have hT : ∀ d : List UInt8, (twoL (digitsL d salt (withinZ n 0 40)) salt).length = 16 := fun d => twoL_length _ _
  unfold E_law3_StretchRounds
  apply W_go0 rfl rfl
  repeat' (first
    | with_reducible apply W_seq
    | with_reducible apply W_sn
    | with_reducible apply W_sr
    | with_reducible apply W_sx
    | ((first | (with_reducible apply W_reg0; focus exact rfl) | (with_reducible apply W_reg0D; focus exact rfl)); focus (simp (disch := first | decide | omega | (simp only [ZL, call3 h1, G_within_eq, call3 h2, G_digits_eq, hl, hD, call2 h3, G_two_eq, hT, hr, call0 h4, G_true] <;> omega) | fail) only [ZW, simprocAttr, -List.reduceReplicate, call3 h1, G_within_eq, call3 h2, G_digits_eq, hl, hD, call2 h3, G_two_eq, hT, hr, call0 h4, G_true]; exact rfl))
    | with_reducible apply W_D
    | with_reducible apply W_nil
    | ((first | with_reducible apply W_op | with_reducible apply W_op' | with_reducible apply W_gk | with_reducible apply W_cond | with_reducible apply W_gh); focus (simp (disch := first | decide | omega | (simp only [ZL, call3 h1, G_within_eq, call3 h2, G_digits_eq, hl, hD, call2 h3, G_two_eq, hT, hr, call0 h4, G_true] <;> omega) | fail) only [ZW, simprocAttr, -List.reduceReplicate, call3 h1, G_within_eq, call3 h2, G_digits_eq, hl, hD, call2 h3, G_two_eq, hT, hr, call0 h4, G_true]; exact rfl))
    | with_reducible apply gk_t
    | with_reducible apply gk_tf
    | with_reducible apply gk_ft
    | with_reducible apply gk_u
    | with_reducible apply W_t
    | with_reducible apply W_f
    | ((first | with_reducible apply gk_dt | with_reducible apply gk_df | with_reducible apply gk_bt | with_reducible apply gk_bf | with_reducible apply W_d | with_reducible apply W_b) <;> intro hg)
    | with_reducible apply W_skip
    | with_reducible apply W_ret
    | with_reducible apply W_exit
    | with_reducible apply W_un
    | with_reducible apply W_ux
    | with_reducible apply W_ur
    | intro hfx
    | with_reducible apply W_block
    | with_reducible apply W_bn
    | with_reducible apply W_br
    | with_reducible apply W_be
    | with_reducible apply W_bx rfl)
  all_goals
    with_reducible apply fQ_end
    · first | exact Or.inl rfl | exact Or.inr rfl
    · simp (disch := first | decide | omega | (simp only [ZL] <;> omega) | fail) only [ZW, ZR, simprocAttr, -List.reduceReplicate]
      exact rfl
    · exact Nat.le_of_ble_eq_true rfl
    · first | exact rfl | (simp (disch := first | decide | omega | (simp only [ZL] <;> omega) | fail) only [ZW, ZR, simprocAttr, -List.reduceReplicate]; exact rfl)
    rfl

end Ev

namespace Ev
open Go

/-- the sign at the head of bytes, and how long it is -/
def decS (l : List UInt8) : Nat × Nat := Lib.decodeN l.length (l.getD 0 0).toNat (l.getD 1 0).toNat (l.getD 2 0).toNat (l.getD 3 0).toNat

theorem get_list (s : List UInt8) (k : Nat) : (⟨s.toArray⟩ : ByteArray).get! k = s.getD k 0 := by
  simp [ByteArray.get!, getElem!_def, List.getD_eq_getElem?_getD]
  cases s[k]? <;> rfl

theorem decode_drop (s : List UInt8) (pos : Nat) : Utf8.decode ⟨s.toArray⟩ pos = decS (s.drop pos) := by
  rw [Lib.decode_at]
  have e : ∀ k, ((⟨s.toArray⟩ : ByteArray).get! (pos + k)) = (s.drop pos).getD k 0 := by
    intro k
    rw [get_list, List.getD_eq_getElem?_getD, List.getD_eq_getElem?_getD, List.getElem?_drop]
  have e0 := e 0
  rw [Nat.add_zero] at e0
  rw [e0, e 1, e 2, e 3]
  have : (⟨s.toArray⟩ : ByteArray).size - pos = (s.drop pos).length := by
    rw [List.length_drop]; rfl
  rw [this]; rfl

/-- these bytes are that sign -/
def okEnc (r : Int) : List UInt8 → Bool
  | [a] => decide (a.toNat < 128) && decide ((a.toNat : Int) = r)
  | [a, b] => decide (a.toNat / 32 = 6) && decide (b.toNat / 64 = 2) && decide (a.toNat % 32 * 64 + b.toNat % 64 ≥ 128) && decide (((a.toNat % 32 * 64 + b.toNat % 64 : Nat) : Int) = r)
  | [a, b, c] => decide (a.toNat / 16 = 14) && decide (b.toNat / 64 = 2) && decide (c.toNat / 64 = 2) && decide (a.toNat % 16 * 4096 + b.toNat % 64 * 64 + c.toNat % 64 ≥ 57344) && decide (((a.toNat % 16 * 4096 + b.toNat % 64 * 64 + c.toNat % 64 : Nat) : Int) = r)
  | _ => false

theorem okEnc_dec {r : Int} {e : List UInt8} (h : okEnc r e = true) (t : List UInt8) : ((decS (e ++ t)).1 : Int) = r ∧ (decS (e ++ t)).2 = e.length ∧ 0 < e.length := by
  match e, h with
  | [a], h =>
    simp only [okEnc, Bool.and_eq_true, decide_eq_true_eq] at h
    have : decS ([a] ++ t) = (a.toNat, 1) := by
      simp only [decS, Lib.decodeN, List.cons_append, List.nil_append, List.getD_cons_zero, h.1, if_true]
    rw [this]; exact ⟨h.2, rfl, by simp⟩
  | [a, b], h =>
    simp only [okEnc, Bool.and_eq_true, decide_eq_true_eq] at h
    obtain ⟨⟨⟨h1, h2⟩, h3⟩, h4⟩ := h
    have : decS ([a, b] ++ t) = (a.toNat % 32 * 64 + b.toNat % 64, 2) := by
      simp only [decS, Lib.decodeN, List.cons_append, List.nil_append, List.getD_cons_zero, List.getD_cons_succ, List.length_cons]
      rw [if_neg (by omega), if_pos ⟨h1, by omega, h2⟩, if_pos h3]
    rw [this]; exact ⟨h4, rfl, by simp⟩
  | [a, b, c], h =>
    simp only [okEnc, Bool.and_eq_true, decide_eq_true_eq] at h
    obtain ⟨⟨⟨⟨h1, h2⟩, h3⟩, h4⟩, h5⟩ := h
    have hc := c.toNat_lt
    have hb := b.toNat_lt
    have : decS ([a, b, c] ++ t) = (a.toNat % 16 * 4096 + b.toNat % 64 * 64 + c.toNat % 64, 3) := by
      simp only [decS, Lib.decodeN, List.cons_append, List.nil_append, List.getD_cons_zero, List.getD_cons_succ, List.length_cons]
      rw [if_neg (by omega), if_neg (by omega), if_pos ⟨h1, ⟨by omega, h2⟩, by omega, h3⟩, if_pos ⟨by omega, by omega⟩]
    rw [this]; exact ⟨h5, rfl, by simp⟩

/-- a text that is so many signs has just these -/
theorem runesF_flat : ∀ (l : List (Int × List UInt8)) (pre : List UInt8) (n : Nat), (∀ x, x ∈ l → okEnc x.1 x.2 = true) → l.length ≤ n → runesF (pre ++ (l.map Prod.snd).flatten) n pre.length = l.map Prod.fst
  | [], pre, n, _, _ => by
    cases n with
    | zero => rfl
    | succ n => rw [runesF, if_neg (by simp)]; rfl
  | (r, e) :: l, pre, n, h, hn => by
    obtain ⟨n, rfl⟩ : ∃ m, n = m + 1 := ⟨n - 1, by simp at hn; omega⟩
    obtain ⟨h1, h2, h3⟩ := okEnc_dec (h (r, e) (List.mem_cons_self ..)) ((l.map Prod.snd).flatten)
    have h3 : 0 < e.length := h3
    have ih := runesF_flat l (pre ++ e) n (fun x hx => h x (List.mem_cons_of_mem _ hx)) (by simpa using hn)
    have hs : pre ++ (((r, e) :: l).map Prod.snd).flatten = pre ++ (e ++ (l.map Prod.snd).flatten) := by simp
    have hd : Utf8.decode ⟨(pre ++ (e ++ (l.map Prod.snd).flatten)).toArray⟩ pre.length = decS (e ++ (l.map Prod.snd).flatten) := by
      rw [decode_drop, List.drop_left]
    rw [hs, runesF, if_pos (by simp only [List.length_append]; omega), hd, h1, h2]
    rw [List.length_append, List.append_assoc] at ih
    rw [ih]; rfl

theorem flat_len : ∀ (l : List (Int × List UInt8)), (∀ x, x ∈ l → okEnc x.1 x.2 = true) → l.length ≤ ((l.map Prod.snd).flatten).length
  | [], _ => Nat.le_refl _
  | (r, e) :: l, h => by
    have := flat_len l (fun x hx => h x (List.mem_cons_of_mem _ hx))
    have : 0 < e.length := (okEnc_dec (h (r, e) (List.mem_cons_self ..)) []).2.2
    simp only [List.map_cons, List.flatten_cons, List.length_append, List.length_cons]
    omega

theorem runes_flat (l : List (Int × List UInt8)) (h : ∀ x, x ∈ l → okEnc x.1 x.2 = true) : runes ((l.map Prod.snd).flatten) = l.map Prod.fst := by
  have := runesF_flat l [] ((l.map Prod.snd).flatten).length h (flat_len l h)
  exact this

-- ------------------------------------------------------------------ digits
def encL (r : Int) : List UInt8 := (Utf8.encode r).data.toList

theorem enc_ok : ∀ z, z ∈ zeros4 → ∀ d : Nat, d < 10 → okEnc (z + d) (encL (z + d)) = true := by
  decide +kernel
theorem digit_ok : ∀ z, z ∈ zeros4 → ∀ d : Nat, d < 10 → digitV (z + d) = some (UInt8.ofNat (48 + d)) ∧ ¬ (z + d = 32 ∨ z + d = 45 ∨ z + d = (160 : Int)) := by
  decide +kernel

def plainS (ds : List Nat) : List UInt8 := ds.map fun d => UInt8.ofNat (48 + d)
def oddS (z : Int) (ds : List Nat) : List UInt8 := 32 :: ds.flatMap fun d : Nat => encL (z + d) ++ [45]

theorem plain_flat (ds : List Nat) (h : ∀ d, d ∈ ds → d < 10) : plainS ds = ((ds.map fun d : Nat => (((48 : Int) + d), [UInt8.ofNat (48 + d)])).map Prod.snd).flatten := by
  induction ds with
  | nil => rfl
  | cons d ds ih =>
    have := ih fun x hx => h x (List.mem_cons_of_mem _ hx)
    simp only [plainS, List.map_cons, List.flatten_cons] at this ⊢
    rw [this]; rfl

theorem plain_ok : ∀ d : Nat, d < 10 → okEnc (48 + d) [UInt8.ofNat (48 + d)] = true := by decide

theorem normGo_plain (ds : List Nat) (h : ∀ d, d ∈ ds → d < 10) (out : List UInt8) : normGo (ds.map fun d : Nat => (48 : Int) + d) out = some (out ++ plainS ds) := by
  induction ds generalizing out with
  | nil => simp [normGo, plainS]
  | cons d ds ih =>
    have hd := digit_ok 48 (by decide) d (h d (List.mem_cons_self ..))
    rw [List.map_cons, normGo, if_neg hd.2, hd.1]
    show normGo _ (out ++ [UInt8.ofNat (48 + d)]) = _
    rw [ih (fun x hx => h x (List.mem_cons_of_mem _ hx))]
    simp [plainS]

theorem normal_plain (ds : List Nat) (h : ∀ d, d ∈ ds → d < 10) (h4 : 4 ≤ ds.length) (h12 : ds.length ≤ 12) : normal (plainS ds) = some (plainS ds) := by
  have e : runes (plainS ds) = ds.map fun d : Nat => (48 : Int) + d := by
    rw [plain_flat ds h, runes_flat]
    · rw [List.map_map]; rfl
    · intro x hx
      obtain ⟨d, hd, rfl⟩ := List.mem_map.1 hx
      exact plain_ok d (h d hd)
  have hl : (plainS ds).length = ds.length := by simp [plainS]
  unfold normal
  rw [e, normGo_plain ds h]
  simp only [List.nil_append]
  rw [if_neg (by omega)]

theorem normGo_odd (z : Int) (hz : z ∈ zeros4) (ds : List Nat) (h : ∀ d, d ∈ ds → d < 10) (out : List UInt8) : normGo (ds.flatMap fun d : Nat => [z + d, 45]) out = some (out ++ plainS ds) := by
  induction ds generalizing out with
  | nil => simp [normGo, plainS]
  | cons d ds ih =>
    have hd := digit_ok z hz d (h d (List.mem_cons_self ..))
    rw [List.flatMap_cons, List.cons_append, normGo, if_neg hd.2, hd.1]
    show normGo ([45] ++ _) (out ++ [UInt8.ofNat (48 + d)]) = _
    rw [List.cons_append, normGo, if_pos (by decide), List.nil_append, ih (fun x hx => h x (List.mem_cons_of_mem _ hx))]
    simp [plainS]

theorem normal_odd (z : Int) (hz : z ∈ zeros4) (ds : List Nat) (h : ∀ d, d ∈ ds → d < 10) (h4 : 4 ≤ ds.length) (h12 : ds.length ≤ 12) : normal (oddS z ds) = some (plainS ds) := by
  have e0 : oddS z ds = (((32, [32]) :: ds.flatMap fun d : Nat => [(z + d, encL (z + d)), ((45 : Int), [45])]).map Prod.snd).flatten := by
    have : ∀ ds : List Nat, ds.flatMap (fun d : Nat => encL (z + d) ++ [45]) = ((ds.flatMap fun d : Nat => [(z + d, encL (z + d)), ((45 : Int), [45])]).map Prod.snd).flatten := by
      intro ds
      induction ds with
      | nil => rfl
      | cons d ds ih => rw [List.flatMap_cons, ih]; simp
    rw [oddS, this]; rfl
  have e : runes (oddS z ds) = 32 :: ds.flatMap fun d : Nat => [z + d, 45] := by
    rw [e0, runes_flat]
    · rw [List.map_cons, List.map_flatMap]; rfl
    · intro x hx
      rcases List.mem_cons.1 hx with rfl | hx
      · decide
      · obtain ⟨d, hd, hx⟩ := List.mem_flatMap.1 hx
        simp only [List.mem_cons, List.not_mem_nil, or_false] at hx
        rcases hx with rfl | rfl
        · exact enc_ok z hz d (h d hd)
        · decide
  have hl : (plainS ds).length = ds.length := by simp [plainS]
  unfold normal
  rw [e, normGo, if_pos (.inl rfl), normGo_odd z hz ds h]
  simp only [List.nil_append]
  rw [if_neg (by omega)]

end Ev

namespace Ev
open Go

theorem str_add (x y : List UInt8) (h : x.length + y.length ≤ 4611686018427387904) : runBin .add (.str x) (.str y) = some (.str (x ++ y)) := by
  simp only [runBin, binStr]
  rw [if_pos (by omega)]
theorem cv_rune (A : St) (m : Mode) (n : Int) : cvD A m .ofRune (N32 n) = some (.str (encL n), A) := id rfl

theorem encL_le (r : Int) : (encL r).length ≤ 4 := by
  unfold encL Utf8.encode
  simp only []
  repeat' split
  all_goals simp

theorem oddS_le (z : Int) (ds : List Nat) : (oddS z ds).length ≤ 1 + 5 * ds.length := by
  unfold oddS
  induction ds with
  | nil => simp
  | cons d ds ih =>
    have := encL_le (z + d)
    simp only [List.flatMap_cons, List.length_cons, List.length_append, List.length_nil] at ih ⊢
    omega
theorem plainS_len (ds : List Nat) : (plainS ds).length = ds.length := by simp [plainS]
theorem plainS_snoc (ds : List Nat) (d : Nat) : plainS (ds ++ [d]) = plainS ds ++ [UInt8.ofNat (48 + d)] := by simp [plainS]
theorem oddS_snoc (z : Int) (ds : List Nat) (d : Nat) : oddS z (ds ++ [d]) = oddS z ds ++ (encL (z + d) ++ [45]) := by simp [oddS]
theorem encL_ascii : ∀ d : Nat, d < 10 → encL (48 + d) = [UInt8.ofNat (48 + d)] := by decide

theorem few {n K : Nat} (h1 : K / 10 ^ n = 0) (h2 : n = 0 ∨ 10 ^ (n - 1) ≤ K) (hK : 1000 ≤ K ∧ K < 1000000) : 4 ≤ n ∧ n ≤ 6 := by
  have h3 : K < 10 ^ n := by
    have := Nat.div_eq_zero_iff.1 h1
    rcases this with h | h
    · exact absurd h (Nat.pos_iff_ne_zero.1 (Nat.pow_pos (by omega)))
    · exact h
  constructor
  · rcases Nat.lt_or_ge n 4 with h | h
    · have := Nat.pow_le_pow_right (n := 10) (by omega) (show n ≤ 3 by omega)
      omega
    · exact h
  · rcases Nat.lt_or_ge 6 n with h | h
    · have := Nat.pow_le_pow_right (n := 10) (by omega) (show 6 ≤ n - 1 by omega)
      omega
    · exact h

theorem Scripts_loop (S : Nat → Option Fn) (A : St) (K : Nat) (z : Int) (hz : 0 ≤ z ∧ z ≤ 70000) (hK : 1000 ≤ K ∧ K < 1000000) (f : SF) (f9 : f 9 = .str []) (f10 : f 10 = .str [32]) (f11 : f 11 = N32 z) (f12 : f 12 = W32 (BitVec.ofNat 32 K)) :
    W S (.loop L_law3_StretchScripts_0) f A (fun x g B => x = .exit 0 ∧ B = A ∧ ∃ ds : List Nat, (∀ d, d ∈ ds → d < 10) ∧ 4 ≤ ds.length ∧ ds.length ≤ 6 ∧ g 9 = .str (plainS ds) ∧ g 10 = .str (oddS z ds)) := by
  refine W_loop (I := fun k g B => B = A ∧ ∃ ds : List Nat, k = K / 10 ^ ds.length ∧ (ds.length = 0 ∨ 10 ^ (ds.length - 1) ≤ K) ∧ (∀ d, d ∈ ds → d < 10) ∧ g 12 = W32 (BitVec.ofNat 32 k) ∧ g 9 = .str (plainS ds) ∧ g 10 = .str (oddS z ds)) K ⟨rfl, [], by simp, .inl rfl, by simp, f12, f9, f10⟩ ?_
  rintro k g B hfr ⟨rfl, ds, hk, hp, hd, g12, g9, g10⟩
  have g11 : g 11 = N32 z := (hfr 11 rfl).trans f11
  clear hfr
  have hkK : k ≤ K := by rw [hk]; exact Nat.div_le_self _ _
  have e0 : (BitVec.ofNat 32 k).toNat = k := by rw [BitVec.toNat_ofNat]; omega
  have e2 : (48#32 + BitVec.ofNat 32 (k % 10)).toNat = 48 + k % 10 := by
    rw [BitVec.toNat_add, BitVec.toNat_ofNat, BitVec.toNat_ofNat]; omega
  have e3 : (BitVec.ofNat 32 (k % 10)).toNat = k % 10 := by rw [BitVec.toNat_ofNat]; omega
  have e4 : (((48 + k % 10 : Nat) : Int)) = 48 + ((k % 10 : Nat) : Int) := by omega
  have e5 := encL_ascii (k % 10) (by omega)
  have hpl := plainS_len ds
  have hol := oddS_le z ds
  have hel := encL_le (z + ((k % 10 : Nat) : Int))
  have hlen : ds.length ≤ 7 := by
    rcases hp with h | h
    · omega
    · rcases Nat.lt_or_ge 7 ds.length with h' | h'
      · have := Nat.pow_le_pow_right (n := 10) (by omega) (show 6 ≤ ds.length - 1 by omega)
        omega
      · exact h'
  have hl1 : (plainS ds).length + 1 ≤ 4611686018427387904 := by omega
  have hl2 : (oddS z ds).length + ((encL (z + ((k % 10 : Nat) : Int))).length + 1) ≤ 4611686018427387904 := by omega
  have hl3 : (encL (z + ((k % 10 : Nat) : Int))).length + 1 ≤ 4611686018427387904 := by omega
  unfold L_law3_StretchScripts_0
  repeat' (first
    | with_reducible apply W_seq
    | with_reducible apply W_sn
    | with_reducible apply W_sr
    | with_reducible apply W_sx
    | ((first | (with_reducible apply W_reg0; focus exact rfl) | (with_reducible apply W_reg0D; focus exact rfl)); focus (simp (disch := first | decide | omega | (simp only [ZL, g9, g10, g11, g12, e0, e2, e3, e4, e5, cv_rune, str_add, hl1, hl2, hl3] <;> omega) | fail) only [ZW, simprocAttr, -List.reduceReplicate, g9, g10, g11, g12, e0, e2, e3, e4, e5, cv_rune, str_add, hl1, hl2, hl3]; exact rfl))
    | with_reducible apply W_D
    | with_reducible apply W_nil
    | ((first | with_reducible apply W_op | with_reducible apply W_op' | with_reducible apply W_gk | with_reducible apply W_cond | with_reducible apply W_gh); focus (simp (disch := first | decide | omega | (simp only [ZL, g9, g10, g11, g12, e0, e2, e3, e4, e5, cv_rune, str_add, hl1, hl2, hl3] <;> omega) | fail) only [ZW, simprocAttr, -List.reduceReplicate, g9, g10, g11, g12, e0, e2, e3, e4, e5, cv_rune, str_add, hl1, hl2, hl3]; exact rfl))
    | with_reducible apply gk_t
    | with_reducible apply gk_tf
    | with_reducible apply gk_ft
    | with_reducible apply gk_u
    | with_reducible apply W_t
    | with_reducible apply W_f
    | ((first | with_reducible apply gk_dt | with_reducible apply gk_df | with_reducible apply gk_bt | with_reducible apply gk_bf | with_reducible apply W_d | with_reducible apply W_b) <;> intro hg)
    | with_reducible apply W_skip
    | with_reducible apply W_ret
    | with_reducible apply W_exit
    | with_reducible apply W_un
    | with_reducible apply W_ux
    | with_reducible apply W_ur
    | intro hfx
    | with_reducible apply W_block
    | with_reducible apply W_bn
    | with_reducible apply W_br
    | with_reducible apply W_be
    | with_reducible apply W_bx rfl)
  · have h10 : 10 ^ ds.length ≤ K := by
      rcases Nat.lt_or_ge K (10 ^ ds.length) with h | h
      · rw [Nat.div_eq_of_lt h] at hk; omega
      · exact h
    refine W_ln (k / 10) (by omega) ⟨rfl, ds ++ [k % 10], ?_, ?_, ?_, rfl, ?_, ?_⟩
    · rw [List.length_append, List.length_singleton, Nat.pow_succ, ← Nat.div_div_eq_div_mul, ← hk]
    · refine .inr ?_
      rw [List.length_append, List.length_singleton, Nat.add_sub_cancel]; exact h10
    · intro d hd'
      rcases List.mem_append.1 hd' with h | h
      · exact hd d h
      · rw [List.mem_singleton.1 h]; omega
    · rw [plainS_snoc]; rfl
    · rw [oddS_snoc]; rfl
  · obtain ⟨h1, h2⟩ := few (n := ds.length) (K := K) (by omega) hp hK
    exact ⟨rfl, rfl, ds, hd, h1, h2, g9, g10⟩

theorem mod4 (n : Int) (h : -9223372036854775808 ≤ n ∧ n < 9223372036854775808) : 0 ≤ (n.tmod 4 + 4).tmod 4 ∧ (n.tmod 4 + 4).tmod 4 < 4 ∧ -4 < n.tmod 4 ∧ n.tmod 4 < 4 := by
  have h1 : -4 < n.tmod 4 := Int.lt_tmod_of_pos n (by omega)
  have h2 : n.tmod 4 < 4 := Int.tmod_lt_of_pos n (by omega)
  rw [Int.tmod_eq_emod_of_nonneg (a := n.tmod 4 + 4) (by omega)]
  omega

theorem zeros_mem (i : Nat) (h : i < 4) : ∃ z, [[N32 48], [N32 65296], [N32 1632], [N32 1776]][i]? = some [N32 z] ∧ z ∈ zeros4 := by
  match i, h with
  | 0, _ => exact ⟨48, rfl, by decide⟩
  | 1, _ => exact ⟨65296, rfl, by decide⟩
  | 2, _ => exact ⟨1632, rfl, by decide⟩
  | 3, _ => exact ⟨1776, rfl, by decide⟩
theorem zeros_le {z : Int} (h : z ∈ zeros4) : 0 ≤ z ∧ z ≤ 70000 := by
  simp only [zeros4, List.mem_cons, List.not_mem_nil, or_false] at h
  omega

theorem run_StretchScripts (S : Nat → Option Fn) (c1 c2 c3 c4 : Nat) (h1 : S c1 = some (lift (fn2 G_pin))) (h2 : S c2 = some (lift (fn1 G_salt))) (h3 : S c3 = some (lift (fn3 G_digits))) (h4 : S c4 = some (lift (fn0 G_true)))
    (n : BitVec 32) (id other : List UInt8) (sc : Int) (hi : id.length = 4) (ho : other.length = 4) (hs : -9223372036854775808 ≤ sc ∧ sc < 9223372036854775808) :
    ∃ m, (E_law3_StretchScripts c1 c2 c3 c4).run S m [W32 n, .agg (bytesC id), .agg (bytesC other), N64 sc] [] = some (.bool true, []) := by
  obtain ⟨q1, q2, q3, q4⟩ := mod4 sc hs
  obtain ⟨z, hz, hzm⟩ := zeros_mem ((sc.tmod 4 + 4).tmod 4).toNat (by omega)
  have e0 : (List.replicate 4 [N32 0]).flatten = [N32 0, N32 0, N32 0, N32 0] := rfl
  have hn := n.isLt
  have eK : (BitVec.ofNat 32 (n.toNat % 900000) + 1000#32) = BitVec.ofNat 32 (n.toNat % 900000 + 1000) := by
    apply BitVec.eq_of_toNat_eq
    rw [BitVec.toNat_add, BitVec.toNat_ofNat, BitVec.toNat_ofNat, BitVec.toNat_ofNat]; omega
  unfold E_law3_StretchScripts
  apply W_go0 rfl rfl
  repeat' (first
    | with_reducible apply W_seq
    | with_reducible apply W_sn
    | with_reducible apply W_sr
    | with_reducible apply W_sx
    | ((first | (with_reducible apply W_reg0; focus exact rfl) | (with_reducible apply W_reg0D; focus exact rfl)); focus (simp (disch := first | decide | omega | (simp only [ZL, e0, q1, q3, hz, eK] <;> omega) | fail) only [ZW, simprocAttr, -List.reduceReplicate, e0, q1, q3, hz, eK]; exact rfl))
    | with_reducible apply W_D
    | with_reducible apply W_nil
    | ((first | with_reducible apply W_op | with_reducible apply W_op' | with_reducible apply W_gk | with_reducible apply W_cond | with_reducible apply W_gh); focus (simp (disch := first | decide | omega | (simp only [ZL, e0, q1, q3, hz, eK] <;> omega) | fail) only [ZW, simprocAttr, -List.reduceReplicate, e0, q1, q3, hz, eK]; exact rfl))
    | with_reducible apply gk_t
    | with_reducible apply gk_tf
    | with_reducible apply gk_ft
    | with_reducible apply gk_u
    | with_reducible apply W_t
    | with_reducible apply W_f
    | ((first | with_reducible apply gk_dt | with_reducible apply gk_df | with_reducible apply gk_bt | with_reducible apply gk_bf | with_reducible apply W_d | with_reducible apply W_b) <;> intro hg)
    | with_reducible apply W_skip
    | with_reducible apply W_ret
    | with_reducible apply W_exit
    | with_reducible apply W_un
    | with_reducible apply W_ux
    | with_reducible apply W_ur
    | intro hfx
    | with_reducible apply W_block
    | with_reducible apply W_bn
    | with_reducible apply W_br
    | with_reducible apply W_be
    | with_reducible apply W_bx rfl)
  refine W_mono (Scripts_loop S _ _ z (zeros_le hzm) ⟨by omega, by omega⟩ _ rfl rfl rfl rfl) ?_
  rintro x g B hf ⟨rfl, rfl, ds, hd, hd4, hd6, g9, g10⟩
  have g5 : g 5 = .ptr 0 0 := hf 5 rfl
  have g6 : g 6 = .ptr 1 0 := hf 6 rfl
  clear hf
  have n1 := normal_plain ds hd hd4 (by omega)
  have n2 := normal_odd z hzm ds hd hd4 (by omega)
  have p1 : ∀ i, pinD (plainS ds) i = _ := fun i => pinD_some n1
  have p2 : ∀ i, pinD (oddS z ds) i = _ := fun i => pinD_some n2
  have hpl := plainS_len ds
  have hol := oddS_le z ds
  have hol' : (oddS z ds).length ≤ 1000000 := by omega
  have hpl' : (plainS ds).length ≤ 1000000 := by omega
  have hD : ∀ i, (digitsL (plainS ds) i 16).length = 16 := fun i => digitsL_length _ _ _
  have hL : ∀ i, (sumL i).length = 16 := sumL_length
  have hz16 : (List.replicate 16 (0 : UInt8)).length = 16 := rfl
  repeat' (first
    | with_reducible apply W_seq
    | with_reducible apply W_sn
    | with_reducible apply W_sr
    | with_reducible apply W_sx
    | ((first | (with_reducible apply W_reg0; focus exact rfl) | (with_reducible apply W_reg0D; focus exact rfl)); focus (simp (disch := first | decide | omega | (simp only [ZL, g9, g10, g5, g6, call2 h1, G_pin_eq, p1, p2, hol', hpl', hi, ho, hD, hL, hz16, call1 h2, G_salt_eq, call3 h3, G_digits_eq, call0 h4, G_true] <;> omega) | fail) only [ZW, simprocAttr, -List.reduceReplicate, g9, g10, g5, g6, call2 h1, G_pin_eq, p1, p2, hol', hpl', hi, ho, hD, hL, hz16, call1 h2, G_salt_eq, call3 h3, G_digits_eq, call0 h4, G_true]; exact rfl))
    | with_reducible apply W_D
    | with_reducible apply W_nil
    | ((first | with_reducible apply W_op | with_reducible apply W_op' | with_reducible apply W_gk | with_reducible apply W_cond | with_reducible apply W_gh); focus (simp (disch := first | decide | omega | (simp only [ZL, g9, g10, g5, g6, call2 h1, G_pin_eq, p1, p2, hol', hpl', hi, ho, hD, hL, hz16, call1 h2, G_salt_eq, call3 h3, G_digits_eq, call0 h4, G_true] <;> omega) | fail) only [ZW, simprocAttr, -List.reduceReplicate, g9, g10, g5, g6, call2 h1, G_pin_eq, p1, p2, hol', hpl', hi, ho, hD, hL, hz16, call1 h2, G_salt_eq, call3 h3, G_digits_eq, call0 h4, G_true]; exact rfl))
    | with_reducible apply gk_t
    | with_reducible apply gk_tf
    | with_reducible apply gk_ft
    | with_reducible apply gk_u
    | with_reducible apply W_t
    | with_reducible apply W_f
    | ((first | with_reducible apply gk_dt | with_reducible apply gk_df | with_reducible apply gk_bt | with_reducible apply gk_bf | with_reducible apply W_d | with_reducible apply W_b) <;> intro hg)
    | with_reducible apply W_skip
    | with_reducible apply W_ret
    | with_reducible apply W_exit
    | with_reducible apply W_un
    | with_reducible apply W_ux
    | with_reducible apply W_ur
    | intro hfx
    | with_reducible apply W_block
    | with_reducible apply W_bn
    | with_reducible apply W_br
    | with_reducible apply W_be
    | with_reducible apply W_bx rfl)
  all_goals
    with_reducible apply fQ_end
    · first | exact Or.inl rfl | exact Or.inr rfl
    · simp (disch := first | decide | omega | (simp only [ZL] <;> omega) | fail) only [ZW, ZR, simprocAttr, -List.reduceReplicate]
      exact rfl
    · exact Nat.le_of_ble_eq_true rfl
    · first | exact rfl | (simp (disch := first | decide | omega | (simp only [ZL] <;> omega) | fail) only [ZW, ZR, simprocAttr, -List.reduceReplicate]; exact rfl)
    rfl

theorem digD_nm (r : Int) : (digD r).nmR = digD r := by unfold digD; cases digitV r <;> simp only [DV]
theorem normD_nm (s : List UInt8) : (normD s).nmR = normD s := by unfold normD; cases normal s <;> simp only [DV]
theorem pinD_nm (s i : List UInt8) : (pinD s i).nmR = pinD s i := by unfold pinD; cases normal s <;> simp only [DV, nm_bytesC]

end Ev

namespace Ev
open Go

section
variable {P : Program} {S : Nat → Option Fn} (hm : P.follows .mixedOrders = true) {f : Nat} {fn : Func} (hf : P.funcs[f]? = some fn)
include hm hf

theorem con_stirP {c : Nat} (hok : okFn P fn (E_blend_words_stir c) = true) (hC : ∀ f', f' ∈ calleesOf (E_blend_words_stir c).body → Con P S f') (hc : S c = some (lift (fn2 G_rotl))) (hS : S f = some (lift F_stirP)) : Con P S f := by
  refine con_lift hm hf hok hC hS fun args B r B' hr => ?_
  unfold F_stirP at hr
  split at hr
  · simp only [Option.map_eq_some_iff, Prod.mk.injEq] at hr
    obtain ⟨x, hx, rfl, rfl⟩ := hr
    rw [of_unW4 hx]
    exact ⟨0, _, _, run_stirP S c hc x, rfl, rfl⟩
  · cases hr

theorem con_stirS {c : Nat} (hok : okFn P fn (E_ref2_stir c) = true) (hC : ∀ f', f' ∈ calleesOf (E_ref2_stir c).body → Con P S f') (hc : S c = some (lift (fn2 G_rotl))) (hS : S f = some (lift F_stirS)) : Con P S f := by
  refine con_lift hm hf hok hC hS fun args B r B' hr => ?_
  unfold F_stirS at hr
  split at hr
  · simp only [Option.map_eq_some_iff, Prod.mk.injEq] at hr
    obtain ⟨x, hx, rfl, rfl⟩ := hr
    rw [of_unW4 hx]
    exact ⟨0, _, _, run_stirS S c hc x, rfl, rfl⟩
  · cases hr
end

end Ev
