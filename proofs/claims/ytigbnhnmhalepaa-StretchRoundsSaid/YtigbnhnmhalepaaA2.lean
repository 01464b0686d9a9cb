/- The plain machine, its soundness, and the functions told by it: a part of the proof. -/
import Derived.Test.YtigbnhnmhalepaaA1
import Derived.Carry
import Derived.ChangeOld
set_option linter.all false

namespace Ev
open Go

variable {S : Nat → Option Fn} {f f1 : SF} {A A1 : St} {Q : PostF}

def noG : List EOp → Bool
  | [] => true
  | o :: r => o.guard.isNone && noG r

def ptO (f : SF) (o : Option Nat) (d : D) : SF := match o with | some t => pt f t d | none => f

theorem pt_self {s : Nat} {d : D} (h : f s = d) : pt f s d = f := by
  funext t
  unfold pt
  split
  · subst s; exact h.symm
  · rfl

theorem W_reg0 {ops : List EOp} (_ : noG ops = true) (h : runOpsF S ops f A = some (f1, A1)) (hq : Q .normal f1 A1) : W S (.reg ops) f A Q := W_reg h hq
theorem W_reg0D {ops : List EOp} {ws : List (Nat × Nat)} (_ : noG ops = true) (h : runOpsF S ops f A = some (f1, A1)) (hq : Q .normal f1 A1) : W S (.regD ops ws) f A Q := W_regD h hq
theorem W_D {ops : List EOp} {ws : List (Nat × Nat)} (h : W S (.reg ops) f A Q) : W S (.regD ops ws) f A Q := h
theorem W_nil (h : Q .normal f A) : W S (.reg []) f A Q := W_reg rfl h
theorem W_cons {o : EOp} {r : List EOp} (h1 : o.runF S f A = some (f1, A1)) (h2 : W S (.reg r) f1 A1 Q) : W S (.reg (o :: r)) f A Q := by
  obtain ⟨m, x, f2, A2, hq, h⟩ := h2
  refine ⟨m, x, f2, A2, hq, fun n hn => ?_⟩
  rw [← h n hn]
  simp only [ECode.runF, runOpsF, h1]
theorem W_op {t : Nat} {i : Ins} {r : List EOp} {d : D} (h1 : i.runF S f A = some (d, A1)) (h2 : W S (.reg r) (pt f t d) A1 Q) : W S (.reg (⟨some t, i, none⟩ :: r)) f A Q := W_cons (by simp only [EOp.runF, h1]) h2
theorem W_op' {i : Ins} {r : List EOp} {d : D} (h1 : i.runF S f A = some (d, A1)) (h2 : W S (.reg r) f A1 Q) : W S (.reg (⟨none, i, none⟩ :: r)) f A Q := W_cons (by simp only [EOp.runF, h1]) h2

theorem guard_t {dst : Option Nat} {i : Ins} {s : Nat} {want : Bool} (h : f s = .bool want) : EOp.runF S ⟨dst, i, some (s, want)⟩ f A = EOp.runF S ⟨dst, i, none⟩ f A := by
  cases dst <;> simp only [EOp.runF, h, if_true]
theorem guard_f {dst : Option Nat} {i : Ins} {s : Nat} {want : Bool} (h : f s = .bool (!want)) : EOp.runF S ⟨dst, i, some (s, want)⟩ f A = some (ptO f dst .undef, A) := by
  cases dst <;> cases want <;> simp [EOp.runF, h, ptO]
theorem guard_u {dst : Option Nat} {i : Ins} {s : Nat} {want : Bool} (h : f s = .undef) : EOp.runF S ⟨dst, i, some (s, want)⟩ f A = some (ptO f dst .undef, A) := by
  cases dst <;> simp [EOp.runF, h, ptO, D.undef]

theorem W_gt {dst : Option Nat} {i : Ins} {s : Nat} {want : Bool} {r : List EOp} (h : f s = .bool want) (h2 : W S (.reg (⟨dst, i, none⟩ :: r)) f A Q) : W S (.reg (⟨dst, i, some (s, want)⟩ :: r)) f A Q := by
  obtain ⟨m, x, f2, A2, hq, h3⟩ := h2
  refine ⟨m, x, f2, A2, hq, fun n hn => ?_⟩
  rw [← h3 n hn]
  simp only [ECode.runF, runOpsF, guard_t h]
theorem W_gf {t : Nat} {i : Ins} {s : Nat} {want : Bool} {r : List EOp} (h : f s = .bool (!want)) (h2 : W S (.reg r) (pt f t .undef) A Q) : W S (.reg (⟨some t, i, some (s, want)⟩ :: r)) f A Q := W_cons (guard_f h) h2
theorem W_gu {t : Nat} {i : Ins} {s : Nat} {want : Bool} {r : List EOp} (h : f s = .undef) (h2 : W S (.reg r) (pt f t .undef) A Q) : W S (.reg (⟨some t, i, some (s, want)⟩ :: r)) f A Q := W_cons (guard_u h) h2
/-- a guard of which both sides may be -/
theorem W_g {t : Nat} {i : Ins} {s : Nat} {want b : Bool} {r : List EOp} (h : f s = .bool b) (h1 : b = want → W S (.reg (⟨some t, i, none⟩ :: r)) (pt f s (.bool want)) A Q) (h2 : b = (!want) → W S (.reg r) (pt (pt f s (.bool (!want))) t .undef) A Q) : W S (.reg (⟨some t, i, some (s, want)⟩ :: r)) f A Q := by
  by_cases hb : b = want
  · have := h1 hb
    rw [pt_self (s := s) (d := .bool want) (by rw [h, hb])] at this
    exact W_gt (by rw [h, hb]) this
  · have hb' : b = (!want) := by cases b <;> cases want <;> simp_all
    have := h2 hb'
    rw [pt_self (s := s) (d := .bool (!want)) (by rw [h, hb'])] at this
    exact W_gf (by rw [h, hb']) this

-- ------------------------------------------------------------------ calls that are handed blocks
theorem callP {g : Nat} {F : Fn} {args xs : List D} {sel js : List Nat} {m : Mode} {Bs B' : List Blk} {r : D} (hS : S g = some F) (h1 : sel.mapM (fun i => (args.getD i .undef).blk) = some js) (h2 : js.mapM (fun j => A.blks[j]?) = some Bs)
    (h3 : args.mapM (D.ren js) = some xs) (h4 : js.Nodup) (h5 : Bs.all (fun b => match b with | .mem fr cells => !fr && cells.all D.pc | _ => false) = true) (h6 : F xs Bs = some (r, B')) (h7 : B'.length = Bs.length) :
    callD S A g args sel m = some (takeResT m { A with blks := setBlks A.blks js B' } r) := by
  unfold callD
  simp only [hS, h1, h2, h3]
  refine (if_pos ⟨h4, h5⟩).trans ?_
  simp only [h6, h7, if_true]

def outG (m : Mode) (A : St) (r : Option (D × List Blk)) : Option (D × St) := match r with
  | some (r, []) => some (takeResT m A r)
  | _ => none
theorem outG_some {m : Mode} {r : D} : outG m A (some (r, [])) = some (takeResT m A r) := rfl
theorem outG_bind {m : Mode} {r : Option (D × List Blk)} : (r.bind fun r => if r.2 = [] then some (takeResT m A r.1) else none) = outG m A r := by
  match r with
  | none => rfl
  | some (r, []) => rfl
  | some (r, _ :: _) => simp [outG]

theorem callA1 {G : Fn} {g : Nat} (hS : S g = some (lift G)) (A : St) (x : D) (m : Mode) : callD S A g [x] [] m = (argN x).bind fun x => outG m A (G [x] []) := by
  rw [callL hS]; simp only [outG_bind, List.mapM_cons, List.mapM_nil, pure, bind]; cases argN x <;> rfl
theorem callA2 {G : Fn} {g : Nat} (hS : S g = some (lift G)) (A : St) (x y : D) (m : Mode) : callD S A g [x, y] [] m = (argN x).bind fun x => (argN y).bind fun y => outG m A (G [x, y] []) := by
  rw [callL hS]; simp only [outG_bind, List.mapM_cons, List.mapM_nil, pure, bind]; cases argN x <;> cases argN y <;> rfl
theorem callA3 {G : Fn} {g : Nat} (hS : S g = some (lift G)) (A : St) (x y z : D) (m : Mode) : callD S A g [x, y, z] [] m = (argN x).bind fun x => (argN y).bind fun y => (argN z).bind fun z => outG m A (G [x, y, z] []) := by
  rw [callL hS]; simp only [outG_bind, List.mapM_cons, List.mapM_nil, pure, bind]; cases argN x <;> cases argN y <;> cases argN z <;> rfl

/-- sums and comparisons -/
theorem NV :
    (∀ x y : BitVec 32, runBin .add (W32 x) (W32 y) = some (W32 (x + y))) ∧
    (∀ x y : BitVec 32, runBin .sub (W32 x) (W32 y) = some (W32 (x - y))) ∧
    (∀ x y : BitVec 32, runBin .mul (W32 x) (W32 y) = some (W32 (x * y))) ∧
    (∀ x y : BitVec 32, runBin .xor (W32 x) (W32 y) = some (W32 (x ^^^ y))) ∧
    (∀ x y : BitVec 32, runBin .or (W32 x) (W32 y) = some (W32 (x ||| y))) ∧
    (∀ x y : BitVec 32, runBin .and (W32 x) (W32 y) = some (W32 (x &&& y))) ∧
    (∀ x y : BitVec 32, runBin .eql (W32 x) (W32 y) = some (.bool (decide (x.toNat = y.toNat)))) ∧
    (∀ x y : BitVec 32, runBin .neq (W32 x) (W32 y) = some (.bool (decide (x.toNat ≠ y.toNat)))) ∧
    (∀ x y : BitVec 32, runBin .lss (W32 x) (W32 y) = some (.bool (decide (x.toNat < y.toNat)))) ∧
    (∀ x y : BitVec 32, runBin .gtr (W32 x) (W32 y) = some (.bool (decide (y.toNat < x.toNat)))) ∧
    (∀ x y : BitVec 32, runBin .leq (W32 x) (W32 y) = some (.bool (decide (x.toNat ≤ y.toNat)))) ∧
    (∀ x y : BitVec 32, runBin .geq (W32 x) (W32 y) = some (.bool (decide (y.toNat ≤ x.toNat)))) ∧
    (∀ x y : BitVec 64, runBin .add (W64 x) (W64 y) = some (W64 (x + y))) ∧
    (∀ x y : BitVec 64, runBin .sub (W64 x) (W64 y) = some (W64 (x - y))) ∧
    (∀ x y : BitVec 64, runBin .mul (W64 x) (W64 y) = some (W64 (x * y))) ∧
    (∀ x y : BitVec 64, runBin .xor (W64 x) (W64 y) = some (W64 (x ^^^ y))) ∧
    (∀ x y : BitVec 64, runBin .or (W64 x) (W64 y) = some (W64 (x ||| y))) ∧
    (∀ x y : BitVec 64, runBin .and (W64 x) (W64 y) = some (W64 (x &&& y))) ∧
    (∀ x y : BitVec 64, runBin .eql (W64 x) (W64 y) = some (.bool (decide (x.toNat = y.toNat)))) ∧
    (∀ x y : BitVec 64, runBin .neq (W64 x) (W64 y) = some (.bool (decide (x.toNat ≠ y.toNat)))) ∧
    (∀ x y : BitVec 64, runBin .lss (W64 x) (W64 y) = some (.bool (decide (x.toNat < y.toNat)))) ∧
    (∀ x y : BitVec 64, runBin .gtr (W64 x) (W64 y) = some (.bool (decide (y.toNat < x.toNat)))) ∧
    (∀ x y : BitVec 64, runBin .leq (W64 x) (W64 y) = some (.bool (decide (x.toNat ≤ y.toNat)))) ∧
    (∀ x y : BitVec 64, runBin .geq (W64 x) (W64 y) = some (.bool (decide (y.toNat ≤ x.toNat)))) ∧
    (∀ x y : UInt8, runBin .xor (B8 x) (B8 y) = some (B8 (x ^^^ y))) ∧
    (∀ x y : UInt8, runBin .add (B8 x) (B8 y) = some (B8 (x + y))) ∧
    (∀ x y : UInt8, runBin .eql (B8 x) (B8 y) = some (.bool (decide (x = y)))) ∧
    (∀ x y : UInt8, runBin .neq (B8 x) (B8 y) = some (.bool (decide (x ≠ y)))) ∧
    (∀ x y : UInt8, runBin .lss (B8 x) (B8 y) = some (.bool (decide (x.toNat < y.toNat)))) ∧
    (∀ x y : UInt8, runBin .gtr (B8 x) (B8 y) = some (.bool (decide (y.toNat < x.toNat)))) ∧
    (∀ x y : UInt8, runBin .leq (B8 x) (B8 y) = some (.bool (decide (x.toNat ≤ y.toNat)))) ∧
    (∀ x y : UInt8, runBin .geq (B8 x) (B8 y) = some (.bool (decide (y.toNat ≤ x.toNat)))) ∧
    (∀ x y : Int, runBin .add (N64 x) (N64 y) = some (N64 (IntKind.i64.wrap (x + y)))) ∧
    (∀ x y : Int, runBin .sub (N64 x) (N64 y) = some (N64 (IntKind.i64.wrap (x - y)))) ∧
    (∀ x y : Int, runBin .mul (N64 x) (N64 y) = some (N64 (IntKind.i64.wrap (x * y)))) ∧
    (∀ x y : Int, runBin .eql (N64 x) (N64 y) = some (.bool (decide (x = y)))) ∧
    (∀ x y : Int, runBin .neq (N64 x) (N64 y) = some (.bool (decide (x ≠ y)))) ∧
    (∀ x y : Int, runBin .lss (N64 x) (N64 y) = some (.bool (decide (x < y)))) ∧
    (∀ x y : Int, runBin .gtr (N64 x) (N64 y) = some (.bool (decide (y < x)))) ∧
    (∀ x y : Int, runBin .leq (N64 x) (N64 y) = some (.bool (decide (x ≤ y)))) ∧
    (∀ x y : Int, runBin .geq (N64 x) (N64 y) = some (.bool (decide (y ≤ x)))) ∧
    (∀ x y : Int, runBin .add (N32 x) (N32 y) = some (N32 (IntKind.i32.wrap (x + y)))) ∧
    (∀ x y : Int, runBin .sub (N32 x) (N32 y) = some (N32 (IntKind.i32.wrap (x - y)))) ∧
    (∀ x y : Int, runBin .eql (N32 x) (N32 y) = some (.bool (decide (x = y)))) ∧
    (∀ x y : Int, runBin .neq (N32 x) (N32 y) = some (.bool (decide (x ≠ y)))) ∧
    (∀ x y : Int, runBin .lss (N32 x) (N32 y) = some (.bool (decide (x < y)))) ∧
    (∀ x y : Int, runBin .gtr (N32 x) (N32 y) = some (.bool (decide (y < x)))) ∧
    (∀ x y : Int, runBin .leq (N32 x) (N32 y) = some (.bool (decide (x ≤ y)))) ∧
    (∀ x y : Int, runBin .geq (N32 x) (N32 y) = some (.bool (decide (y ≤ x)))) ∧
    (∀ (A : St) (m : Mode) (x : UInt8), cvD A m (.toInt .u32) (B8 x) = some (W32 (BitVec.ofNat 32 x.toNat), A)) ∧
    (∀ (A : St) (m : Mode) (x : UInt8), cvD A m (.toInt .u64) (B8 x) = some (W64 (BitVec.ofNat 64 x.toNat), A)) ∧
    (∀ (A : St) (m : Mode) (x : UInt8), cvD A m (.toInt .i64) (B8 x) = some (N64 x.toNat, A)) ∧
    (∀ (A : St) (m : Mode) (x : UInt8), cvD A m (.toInt .i32) (B8 x) = some (N32 x.toNat, A)) ∧
    (∀ (A : St) (m : Mode) (x : BitVec 32), cvD A m (.toInt .u8) (W32 x) = some (B8 (UInt8.ofNat x.toNat), A)) ∧
    (∀ (A : St) (m : Mode) (x : BitVec 64), cvD A m (.toInt .u8) (W64 x) = some (B8 (UInt8.ofNat x.toNat), A)) ∧
    (∀ (A : St) (m : Mode) (n : Int), cvD A m (.toInt .u8) (N64 n) = some (B8 (UInt8.ofNat (n % 256).toNat), A)) ∧
    (∀ (A : St) (m : Mode) (n : Int), cvD A m (.toInt .u8) (N32 n) = some (B8 (UInt8.ofNat (n % 256).toNat), A)) ∧
    (∀ (A : St) (m : Mode) (n : Int), cvD A m (.toInt .u64) (N64 n) = some (W64 (BitVec.ofNat 64 (n % 18446744073709551616).toNat), A)) ∧
    (∀ (A : St) (m : Mode) (n : Int), cvD A m (.toInt .u32) (N64 n) = some (W32 (BitVec.ofNat 32 (n % 4294967296).toNat), A)) ∧
    (∀ (A : St) (m : Mode) (x : BitVec 32), cvD A m (.toInt .i64) (W32 x) = some (N64 x.toNat, A)) ∧
    (∀ (A : St) (m : Mode) (x : BitVec 32), cvD A m (.toInt .i32) (W32 x) = some (N32 (IntKind.i32.wrap x.toNat), A)) ∧
    (∀ (A : St) (m : Mode) (x : BitVec 64), cvD A m (.toInt .i64) (W64 x) = some (N64 (IntKind.i64.wrap x.toNat), A)) ∧
    (∀ (A : St) (m : Mode) (n : Int), cvD A m (.toInt .i32) (N64 n) = some (N32 (IntKind.i32.wrap n), A)) ∧
    (∀ (A : St) (m : Mode) (x : BitVec 32), cvD A m (.toInt .u64) (W32 x) = some (W64 (BitVec.ofNat 64 x.toNat), A)) :=
  ⟨W32_add, W32_sub, W32_mul, W32_xor, W32_or, W32_and, W32_eql, W32_neq, W32_lss, W32_gtr, W32_leq, W32_geq, W64_add, W64_sub, W64_mul, W64_xor, W64_or, W64_and, W64_eql, W64_neq, W64_lss, W64_gtr, W64_leq, W64_geq, B8_xor, B8_add, B8_eql, B8_neq, B8_lss, B8_gtr, B8_leq, B8_geq, N64_add, N64_sub, N64_mul, N64_eql, N64_neq, N64_lss, N64_gtr, N64_leq, N64_geq, N32_add, N32_sub, N32_eql, N32_neq, N32_lss, N32_gtr, N32_leq, N32_geq, fun _ _ x => cv_B8_W32 _ _ x, fun _ _ x => cv_B8_W64 _ _ x, fun _ _ x => cv_B8_N64 _ _ x, fun _ _ x => cv_B8_N32 _ _ x, fun _ _ x => cv_W32_B8 _ _ x, fun _ _ x => cv_W64_B8 _ _ x, fun _ _ x => cv_N64_B8 _ _ x, fun _ _ x => cv_N32_B8 _ _ x, fun _ _ x => cv_N64_W64 _ _ x, fun _ _ x => cv_N64_W32 _ _ x, fun _ _ x => cv_W32_N64 _ _ x, fun _ _ x => cv_W32_N32 _ _ x, fun _ _ x => cv_W64_N64 _ _ x, fun _ _ x => cv_N64_N32 _ _ x, fun _ _ x => cv_W32_W64 _ _ x⟩

-- ------------------------------------------------------------------ slices of bytes
theorem sliceB_lo (o : Own) (l : List UInt8) (a : Int) (h : 0 ≤ a ∧ a ≤ l.length) : sliceS 1 (.sl o 1 (bytesD l)) (some (N64 a)) none = some (.sl (o.slc l.length l.length) 1 (bytesD (l.drop a.toNat))) := by
  simp only [sliceS, if_true, bounds, bound, N64, bytesD_length, h, and_self]
  rw [← bytesD_length l, List.take_length, bytesD_drop]
theorem sliceB_hi (o : Own) (l : List UInt8) (b : Int) (h : 0 ≤ b ∧ b ≤ l.length) : sliceS 1 (.sl o 1 (bytesD l)) none (some (N64 b)) = some (.sl (o.slc b.toNat l.length) 1 (bytesD (l.take b.toNat))) := by
  simp only [sliceS, if_true, bounds, bound, N64, bytesD_length, h, and_self]
  rw [List.drop_zero, bytesD_take]
theorem sliceB_lohi (o : Own) (l : List UInt8) (a b : Int) (h : 0 ≤ a ∧ a ≤ b ∧ b ≤ l.length) : sliceS 1 (.sl o 1 (bytesD l)) (some (N64 a)) (some (N64 b)) = some (.sl (o.slc b.toNat l.length) 1 (bytesD ((l.take b.toNat).drop a.toNat))) := by
  have h1 : 0 ≤ b := by omega
  have h2 : a ≤ (b.toNat : Nat) := by omega
  simp only [sliceS, if_true, bounds, bound, N64, bytesD_length, h, h1, h2, and_self]
  rw [bytesD_take, bytesD_drop]
theorem sliceB_all (o : Own) (l : List UInt8) : sliceS 1 (.sl o 1 (bytesD l)) none none = some (.sl (o.slc l.length l.length) 1 (bytesD l)) := by
  simp only [sliceS, if_true, bounds, bound, bytesD_length]
  rw [← bytesD_length l, List.take_length, List.drop_zero]
theorem argN_slc (o : Own) (h n : Nat) (l : List UInt8) : argN (.sl (o.slc h n) 1 (bytesD l)) = some (.sl .any 1 (bytesD l)) := by
  unfold Own.slc
  split <;> simp only [AV]
theorem argN_any (l : List UInt8) : argN (.sl .any 1 (bytesD l)) = some (.sl .any 1 (bytesD l)) := by simp only [AV]

theorem tdivN (n m : Nat) : (n : Int).tdiv (m : Int) = ((n / m : Nat) : Int) := by rw [← Int.ofNat_tdiv]
theorem tmodN (n m : Nat) : (n : Int).tmod (m : Int) = ((n % m : Nat) : Int) := by rw [← Int.ofNat_tmod]
theorem tdiv4 (n : Nat) : (n : Int).tdiv 4 = ((n / 4 : Nat) : Int) := tdivN n 4
theorem tmod4 (n : Nat) : (n : Int).tmod 4 = ((n % 4 : Nat) : Int) := tmodN n 4

theorem put_at (l : List UInt8) (n i : Nat) (v : UInt8) (h : i = l.length) : (bytesC (l ++ List.replicate (n + 1) 0)).take i ++ [B8 v] ++ (bytesC (l ++ List.replicate (n + 1) 0)).drop (i + 1) = bytesC ((l ++ [v]) ++ List.replicate n 0) := by
  subst h
  simp only [bytesC, List.map_append, List.map_cons, List.map_nil, List.replicate_succ]
  rw [List.take_append_of_le_length (by simp), List.take_of_length_le (by simp), List.drop_append, List.drop_of_length_le (by simp)]
  simp

-- ------------------------------------------------------------------ arrays of bytes
theorem rep_B8 (n : Nat) : List.replicate n (B8 0) = bytesC (List.replicate n 0) := by simp [bytesC]
theorem bytesC_take_all {l : List UInt8} {n : Nat} (h : l.length ≤ n) : (bytesC l).take n = bytesC l := by
  rw [List.take_of_length_le]; rw [bytesC_length]; exact h
theorem bytesC_drop_all {l : List UInt8} {n : Nat} (h : l.length ≤ n) : (bytesC l).drop n = [] := by
  rw [List.drop_of_length_le]; rw [bytesC_length]; exact h
theorem putG (z : D) (zs : List D) (off size : Nat) (v : D) (r : List (Nat × Nat × D)) : putCells (z :: zs) ((off, size, v) :: r) = if v.cells.length = size ∧ off + size ≤ (z :: zs).length ∧ v.cells.all putCells.D.pc0 = true then putCells (List.take off (z :: zs) ++ v.cells ++ List.drop (off + size) (z :: zs)) r else none := by rw [putCells]
theorem putN (zs : List D) : putCells zs [] = some zs := rfl
theorem putB (l : List UInt8) (i : Nat) (v : UInt8) (r : List (Nat × Nat × D)) (h : i < l.length) : putCells (bytesC l) ((i, 1, B8 v) :: r) = putCells (bytesC (l.set i v)) r := by
  have e : (bytesC l).take i ++ (B8 v).cells ++ (bytesC l).drop (i + 1) = bytesC (l.set i v) := by
    show (bytesC l).take i ++ [B8 v] ++ (bytesC l).drop (i + 1) = _
    simp only [bytesC]
    rw [← List.map_take, ← List.map_drop, List.set_eq_take_append_cons_drop, if_pos h]
    simp
  rw [putCells, if_pos ⟨rfl, by rw [bytesC_length]; omega, rfl⟩, e]

theorem chunksB {l : List UInt8} {n : Nat} (h : l.length = n) : chunks 1 n (bytesC l) = bytesD l := by subst h; exact bytesD_chunks l
theorem bytesD_take_all {l : List UInt8} {n : Nat} (h : l.length ≤ n) : (bytesD l).take n = bytesD l := by
  rw [List.take_of_length_le]; rw [bytesD_length]; exact h
theorem slc_full (n : Nat) : Own.slc .full n n = .full := by simp [Own.slc]
theorem bounds_nn (n : Nat) : bounds n none none = some (0, n) := by simp only [bounds, bound]
theorem bounds_hi (n : Nat) (b : Int) (h : 0 ≤ b ∧ b ≤ n) : bounds n none (some (N64 b)) = some (0, b.toNat) := by simp only [bounds, bound, N64, h, and_self, if_true]
theorem bounds_lo (n : Nat) (a : Int) (h : 0 ≤ a ∧ a ≤ n) : bounds n (some (N64 a)) none = some (a.toNat, n) := by simp only [bounds, bound, N64, h, and_self, if_true]
theorem bounds_lohi (n : Nat) (a b : Int) (h : 0 ≤ a ∧ a ≤ b ∧ b ≤ n) : bounds n (some (N64 a)) (some (N64 b)) = some (a.toNat, b.toNat) := by
  have h1 : 0 ≤ b := by omega
  have h2 : a ≤ (b.toNat : Nat) := by omega
  simp only [bounds, bound, N64, h, h1, h2, and_self, if_true]
theorem bound_N (i : Int) (d mx : Nat) : bound (some (N64 i)) d mx = if 0 ≤ i ∧ i ≤ mx then some i.toNat else none := rfl
theorem bound_none (d mx : Nat) : bound none d mx = some d := rfl
theorem cv_bytes (A : St) (m : Mode) (s : List UInt8) : cvD A m .bytes (.str s) = some (A.newSl m .any 1 (bytesD s)) := rfl
theorem cv_same (A : St) (m : Mode) (s : List UInt8) : cvD A m .same (.str s) = some (.str s, A) := rfl
theorem els_B (A : St) (o : Own) (y : List UInt8) : A.els 1 (.sl o 1 (bytesD y)) = some (bytesD y) := by simp [St.els]
theorem mapM_unByte (l : List UInt8) : (bytesD l).mapM unByte = some l := by
  induction l with
  | nil => rfl
  | cons b l ih =>
    show ((byteD b :: bytesD l).mapM unByte) = _
    rw [List.mapM_cons, ih]
    have h : unByte (byteD b) = some b := by simp [unByte, byteD]
    rw [h]; rfl
theorem cv_ofBytes (A : St) (m : Mode) (o : Own) (l : List UInt8) : cvD A m .ofBytes (.sl o 1 (bytesD l)) = some (.str l, A) := by
  simp only [cvD, els_B, mapM_unByte]
theorem newSl_any (A : St) (o : Own) (w : Nat) (els : List (List D)) : A.newSl .any o w els = (.sl o w els, A) := rfl
theorem newSl_tok (A : St) (o : Own) (w : Nat) (els : List (List D)) : A.newSl .tok o w els = (.sl (.tok A.toks.length els.length) w els, { A with toks := A.toks ++ [els.length] }) := rfl
theorem newSl_trk (A : St) (o : Own) (w : Nat) (els : List (List D)) : A.newSl .trk o w els = (.loc A.blks.length 0 w els.length, { A with blks := A.blks ++ [.mem false els.flatten] }) := rfl
theorem mm_min (a b : Int) : mmD false (N64 a) [N64 b] = some (N64 (if b < a then b else a)) := rfl
theorem mm_max (a b : Int) : mmD true (N64 a) [N64 b] = some (N64 (if b > a then b else a)) := rfl
theorem eqCells_bytes : ∀ (a b : List UInt8), a.length = b.length → eqCells (bytesC a) (bytesC b) = some (decide (a = b))
  | [], [], _ => rfl
  | x :: a, y :: b, h => by
    have ih := eqCells_bytes a b (by simpa using h)
    show (if IntKind.u8 = IntKind.u8 then (if (x.toNat : Int) = y.toNat then eqCells (bytesC a) (bytesC b) else some false) else none) = _
    rw [if_pos rfl, ih]
    by_cases hxy : x = y
    · subst hxy; simp
    · rw [if_neg (fun e => hxy (UInt8.toNat_inj.1 (by omega)))]; simp [hxy]
  | [], _ :: _, h => by simp at h
  | _ :: _, [], h => by simp at h

theorem chunks0 (w : Nat) (l : List D) : chunks w 0 l = [] := rfl
theorem chunk4 (a b c d : D) : chunks 1 4 [a, b, c, d] = [[a], [b], [c], [d]] := rfl
theorem fold1 (c : UInt8) : [[B8 c]] = bytesD [c] := rfl
theorem foldc (c : UInt8) (l : List UInt8) : [B8 c] :: bytesD l = bytesD (c :: l) := rfl
theorem flat_rep (n : Nat) : (List.replicate n [B8 0]).flatten = bytesC (List.replicate n 0) := by
  induction n with
  | zero => rfl
  | succ n ih => rw [List.replicate_succ, List.flatten_cons, ih]; rfl
theorem rep1 : List.replicate 1 (0 : UInt8) = [0] := rfl
theorem rep2 : List.replicate 2 (0 : UInt8) = [0, 0] := rfl
theorem rep3 : List.replicate 3 (0 : UInt8) = [0, 0, 0] := rfl

-- ------------------------------------------------------------------ appending
theorem appK (A : St) (k e : Nat) (o : Own) (l y : List UInt8) (hk : A.toks[k]? = some e) (hl : l.length + y.length ≤ 140737488355328) :
    appD A false .tok 1 1 (.sl (.tok k e) 1 (bytesD l)) (.sl o 1 (bytesD y)) = some (.sl (.tok k (e + y.length)) 1 (bytesD (l ++ y)), { A with toks := A.toks.set k (e + y.length) }) := by
  have h1 : (bytesD y).all (fun el => el.all D.pc) = true := pc_bytesD y
  unfold appD
  simp only [appEls, Bool.false_eq_true, if_false, els_B, h1, if_true, bytesD_length, Nat.mul_one, hl, and_self, hk, bytesD_append]
theorem appK0 (A : St) (k e : Nat) (o : Own) (y : List UInt8) (hk : A.toks[k]? = some e) (hl : y.length ≤ 140737488355328) :
    appD A false .tok 1 1 (.sl (.tok k e) 1 []) (.sl o 1 (bytesD y)) = some (.sl (.tok k (e + y.length)) 1 (bytesD y), { A with toks := A.toks.set k (e + y.length) }) := appK A k e o [] y hk (by simpa using hl)
theorem appKs (A : St) (k e : Nat) (l y : List UInt8) (hk : A.toks[k]? = some e) (hl : l.length + y.length ≤ 140737488355328) :
    appD A true .tok 1 1 (.sl (.tok k e) 1 (bytesD l)) (.str y) = some (.sl (.tok k (e + y.length)) 1 (bytesD (l ++ y)), { A with toks := A.toks.set k (e + y.length) }) := by
  have h1 : (bytesD y).all (fun el => el.all D.pc) = true := pc_bytesD y
  unfold appD
  simp only [appEls, if_true, h1, bytesD_length, Nat.mul_one, hl, and_self, hk, bytesD_append]

-- ------------------------------------------------------------------ a function that may be called under a condition
theorem g_if {P : Prop} [Decidable P] {x r : D} {e : EFn} {args : List D} (h : (if P then some x else none) = some r) (hr : P → ∃ n r0, e.run S n args [] = some (r0, []) ∧ r0.nmR = x) : ∃ n r0, e.run S n args [] = some (r0, []) ∧ r0.nmR = r := by
  split at h
  · rename_i hp; cases h; exact hr hp
  · cases h
theorem g_ar {e : EFn} {args : List D} {l : List UInt8} (h : ∃ n, e.run S n args [] = some (.agg (bytesC l), [])) : ∃ n r0, e.run S n args [] = some (r0, []) ∧ r0.nmR = .agg (bytesC l) :=
  h.elim fun n hn => ⟨n, _, hn, by simp only [DV, nm_bytesC]⟩

-- ------------------------------------------------------------------ results that are several
theorem TV :
    (∀ m A, takeRess m A [] = ([], A)) ∧ (∀ m A d r, takeRess m A (d :: r) = ((takeRes m A d).1 :: (takeRess m (takeRes m A d).2 r).1, (takeRess m (takeRes m A d).2 r).2)) ∧
    (∀ m A (x : BitVec 32), takeRes m A (W32 x) = (W32 x, A)) ∧ (∀ m A (x : BitVec 64), takeRes m A (W64 x) = (W64 x, A)) ∧ (∀ m A (x : UInt8), takeRes m A (B8 x) = (B8 x, A)) ∧ (∀ m A (x : Int), takeRes m A (N64 x) = (N64 x, A)) ∧ (∀ m A (x : Int), takeRes m A (N32 x) = (N32 x, A)) ∧
    (∀ m A b, takeRes m A (.bool b) = (.bool b, A)) ∧ (∀ m A b, takeRes m A (.str b) = (.str b, A)) ∧ (∀ m A b, takeRes m A (.agg b) = (.agg b, A)) ∧ (∀ m A w b, takeRes m A (.sl .any w b) = (.sl .any w b, A)) ∧
    (∀ m A w els, takeRes m A (.sl .fresh w els) = A.newSl m .any w els) ∧ (∀ A w els, takeRes .any A (.sl .rm w els) = A.newSl .any .any w els) ∧ (∀ A w els, takeRes .tok A (.sl .rm w els) = A.newSl .tok .any w els) ∧ (∀ A w els, takeRes .trk A (.sl .rm w els) = A.newSl .any .any w els) :=
  ⟨fun _ _ => rfl, fun _ _ _ _ => rfl, fun _ _ _ => rfl, fun _ _ _ => rfl, fun _ _ _ => rfl, fun _ _ _ => rfl, fun _ _ _ => rfl, fun _ _ _ => rfl, fun _ _ _ => rfl, fun _ _ _ => rfl, fun _ _ _ _ => rfl, fun _ _ _ _ => rfl, fun _ _ _ => rfl, fun _ _ _ => rfl, fun _ _ _ => rfl⟩

-- ------------------------------------------------------------------ what leaves
theorem outRes_ar (nb : Nat) (l : List UInt8) : outRes A nb (.agg (bytesC l)) = some (.agg (bytesC l)) := if_pos (pc_bytesC l)
theorem outRes_agg (nb : Nat) (l : List D) (h : l.all D.pc = true) : outRes A nb (.agg l) = some (.agg l) := if_pos h
theorem OV :
    (∀ (A : St) (nb : Nat) (x : BitVec 32), outRes A nb (W32 x) = some (W32 x)) ∧ (∀ (A : St) (nb : Nat) (x : BitVec 64), outRes A nb (W64 x) = some (W64 x)) ∧ (∀ (A : St) (nb : Nat) (x : UInt8), outRes A nb (B8 x) = some (B8 x)) ∧
    (∀ (A : St) (nb : Nat) (x : Int), outRes A nb (N64 x) = some (N64 x)) ∧ (∀ (A : St) (nb : Nat) (x : Int), outRes A nb (N32 x) = some (N32 x)) ∧ (∀ (A : St) (nb : Nat) (x : Bool), outRes A nb (.bool x) = some (.bool x)) ∧
    (∀ (A : St) (nb : Nat) s, outRes A nb (.str s) = some (.str s)) ∧ (∀ (A : St) (nb : Nat) w els, outRes A nb (.sl .any w els) = some (.sl .any w els)) ∧ (∀ (A : St) (nb : Nat) w els, outRes A nb (.sl .full w els) = some (.sl .full w els)) ∧
    (∀ (A : St) (nb : Nat) w els, outRes A nb (.sl .nilk w els) = some (.sl .nilk w els)) ∧ (∀ (A : St) (nb : Nat) w els, outRes A nb (.sl .nn w els) = some (.sl .nn w els)) ∧
    (∀ (A : St) (nb k e w : Nat) els, outRes A nb (.sl (.tok k e) w els) = some (.sl (if A.toks[k]? = some e then .rm else .any) w els)) ∧
    (∀ (A : St) (nb : Nat) (l : List UInt8), outRes A nb (.agg (bytesC l)) = some (.agg (bytesC l))) :=
  ⟨fun _ _ _ => rfl, fun _ _ _ => rfl, fun _ _ _ => rfl, fun _ _ _ => rfl, fun _ _ _ => rfl, fun _ _ _ => rfl, fun _ _ _ => rfl, fun _ _ _ _ => rfl, fun _ _ _ _ => rfl, fun _ _ _ _ => rfl, fun _ _ _ _ => rfl, fun _ _ _ _ _ _ => rfl, fun _ nb l => outRes_ar nb l⟩

-- ------------------------------------------------------------------ conditions
theorem if_dec {P : Prop} [Decidable P] {a b c d : D} : (if decide P = true then a else b) = (if P then a else b) := by simp

end Ev

namespace Ev
open Go

def ZW :=
  And.intro (And.intro (And.intro (And.intro (And.intro (And.intro (And.intro @runOpsF.eq_1 @runOpsF.eq_2) (And.intro @EOp.runF.eq_1 (And.intro @EOp.runF.eq_2 @EOp.runF.eq_3)))
  (And.intro (And.intro @EOp.runF.eq_4 @Ins.runF.eq_1) (And.intro @Ins.runF.eq_2 (And.intro @Ins.runF.eq_3 @Ins.runF.eq_4)))) (And.intro (And.intro (And.intro @Ins.runF.eq_5
  @Ins.runF.eq_6) (And.intro @Ins.runF.eq_7 (And.intro @Ins.runF.eq_8 @Ins.runF.eq_9))) (And.intro (And.intro @Ins.runF.eq_10 @Ins.runF.eq_11) (And.intro @Ins.runF.eq_12 (And.intro
  @Ins.runF.eq_13 @Ins.runF.eq_14))))) (And.intro (And.intro (And.intro (And.intro @Ins.runF.eq_15 @Ins.runF.eq_16) (And.intro @Ins.runF.eq_17 (And.intro @Ins.runF.eq_18
  @Ins.runF.eq_19))) (And.intro (And.intro @Ins.runF.eq_20 @Ins.runF.eq_21) (And.intro @Ins.runF.eq_22 (And.intro @Ins.runF.eq_23 @Ins.runF.eq_24)))) (And.intro (And.intro (And.intro
  @Ins.runF.eq_25 @Ins.runF.eq_26) (And.intro @Ins.runF.eq_27 (And.intro @Ins.runF.eq_28 @Ins.runF.eq_29))) (And.intro (And.intro @Ins.runF.eq_30 @Ins.runF.eq_31) (And.intro
  @Ins.runF.eq_32 (And.intro @Ins.runF.eq_33 @Ins.runF.eq_34)))))) (And.intro (And.intro (And.intro (And.intro (And.intro @Ins.runF.eq_35 @Opd.evF.eq_1) (And.intro @Opd.evF.eq_2
  (And.intro @Gh.runF.eq_1 @Gh.runF.eq_2))) (And.intro (And.intro @Gh.runF.eq_3 @ptO.eq_1) (And.intro @ptO.eq_2 (And.intro @pt_eq @pt_ne)))) (And.intro (And.intro (And.intro
  @ini_zero @ini_succ) (And.intro @ini_nil (And.intro @St.push.eq_1 @TV))) (And.intro (And.intro @chunks0 @chunk4) (And.intro @List.replicate_zero.{0} (And.intro
  @List.flatten_nil.{0} @fold1))))) (And.intro (And.intro (And.intro (And.intro @foldc @flat_rep) (And.intro @rep1 (And.intro @rep2 @rep3))) (And.intro (And.intro @appK @appKs)
  (And.intro @List.length_append.{0} (And.intro @sliceA.eq_1 @bounds_nn)))) (And.intro (And.intro (And.intro @bounds_hi @bounds_lo) (And.intro @bounds_lohi (And.intro @chunksB
  @bytesD_length))) (And.intro (And.intro @bytesD_take_all (And.intro @slc_full @cv_bytes)) (And.intro @cv_same (And.intro @cv_ofBytes @newSl_any))))))) (And.intro (And.intro
  (And.intro (And.intro (And.intro (And.intro @newSl_tok @newSl_trk) (And.intro @mm_min (And.intro @mm_max @eqCells_bytes))) (And.intro (And.intro @argN_slc @outG_some) (And.intro
  @rep_B8 (And.intro @bytesC_length @bytesC_take_all)))) (And.intro (And.intro (And.intro @bytesC_drop_all @pc_bytesC) (And.intro @pc0_bytesC (And.intro @er_bytesC
  @List.length_replicate.{0}))) (And.intro (And.intro @List.append_nil.{0} @putG) (And.intro @putN (And.intro @putB @NV))))) (And.intro (And.intro (And.intro (And.intro @N64_quo
  @N64_rem) (And.intro @W32_quo (And.intro @W32_rem @W64_quo))) (And.intro (And.intro @W64_rem @shl32w) (And.intro @shr32w (And.intro @shl64w @shr64w)))) (And.intro (And.intro
  (And.intro @shl32n @shr32n) (And.intro @shl64n (And.intro @shr64n @cv_N32_N64))) (And.intro (And.intro @wrap_i64 (And.intro @wrap_i32 @DV)) (And.intro @AV (And.intro
  @List.getD_cons_succ.{0} @List.getD_cons_zero.{0})))))) (And.intro (And.intro (And.intro (And.intro (And.intro @List.set_cons_succ.{0} @List.set_cons_zero.{0}) (And.intro
  @List.length_cons.{0} (And.intro @List.length_nil.{0} (@List.map_cons.{0, 0})))) (And.intro (And.intro (@List.map_nil.{0, 0}) (@Option.bind_some.{0, 0})) (And.intro
  (@Option.map_some.{0, 0}) (And.intro (@Option.map_none.{0, 0}) @List.getElem?_cons_succ.{0})))) (And.intro (And.intro (And.intro @List.getElem?_cons_zero.{0} @List.cons_append.{0})
  (And.intro @List.nil_append.{0} (And.intro @Int.natCast_zero @Int.cast_ofNat_Int))) (And.intro (And.intro @ne_eq.{0} @not_true_eq_false) (And.intro @not_false_eq_true (And.intro
  @gt_iff_lt.{0} @ge_iff_le.{0}))))) (And.intro (And.intro (And.intro (And.intro @Nat.mul_one @Nat.zero_add) (And.intro @Nat.add_zero (And.intro @and_self @true_and))) (And.intro
  (And.intro @and_true @if_true.{0}) (And.intro @if_false.{0} (And.intro @decide_true @decide_false)))) (And.intro (And.intro (And.intro @Bool.false_eq_true @Bool.not_true)
  (And.intro @Bool.not_false (And.intro @List.take_succ_cons.{0} @List.take_zero.{0}))) (And.intro (And.intro @List.drop_succ_cons.{0} (And.intro @List.drop_zero.{0}
  @List.all_cons.{0})) (And.intro @List.all_nil.{0} (And.intro @Bool.and_true @Bool.and_self)))))))

def ZL :=
  And.intro (And.intro (And.intro @List.length_append.{0} @List.length_cons.{0}) (And.intro @List.length_nil.{0} @List.length_take.{0})) (And.intro (And.intro @List.length_drop.{0}
  @List.length_replicate.{0}) (And.intro @List.length_set.{0} (And.intro @List.getElem?_cons_zero.{0} @List.getElem?_cons_succ.{0})))

def ZR :=
  And.intro (And.intro (And.intro @outs.eq_1 @outs.eq_2) (And.intro @ERes.getF.eq_1 @ERes.getF.eq_2)) (And.intro (And.intro @OV @outRes_agg) (And.intro @outB.eq_1 @outB.eq_2))

variable {S : Nat → Option Fn} {f : SF} {A : St} {Q : PostF}

/-- a guard, once what it looks at is known -/
def GK (S : Nat → Option Fn) (d : D) (s t : Nat) (want : Bool) (i : Ins) (r : List EOp) (f : SF) (A : St) (Q : PostF) : Prop := f s = d → W S (.reg (⟨some t, i, some (s, want)⟩ :: r)) f A Q
theorem W_gk {t : Nat} {i : Ins} {s : Nat} {want : Bool} {r : List EOp} {d : D} (h : f s = d) (h2 : GK S d s t want i r f A Q) : W S (.reg (⟨some t, i, some (s, want)⟩ :: r)) f A Q := h2 h
theorem gk_t {t : Nat} {i : Ins} {s : Nat} {want : Bool} {r : List EOp} (h2 : W S (.reg (⟨some t, i, none⟩ :: r)) f A Q) : GK S (.bool want) s t want i r f A Q := fun h => W_gt h h2
theorem gk_tf {t : Nat} {i : Ins} {s : Nat} {r : List EOp} (h2 : W S (.reg r) (pt f t .undef) A Q) : GK S (.bool true) s t false i r f A Q := fun h => W_gf h h2
theorem gk_ft {t : Nat} {i : Ins} {s : Nat} {r : List EOp} (h2 : W S (.reg r) (pt f t .undef) A Q) : GK S (.bool false) s t true i r f A Q := fun h => W_gf h h2
theorem gk_u {t : Nat} {i : Ins} {s : Nat} {want : Bool} {r : List EOp} (h2 : W S (.reg r) (pt f t .undef) A Q) : GK S .undef s t want i r f A Q := fun h => W_gu h h2
theorem gk_dt {P : Prop} [Decidable P] {t : Nat} {i : Ins} {s : Nat} {r : List EOp} (h1 : P → W S (.reg (⟨some t, i, none⟩ :: r)) (pt f s (.bool true)) A Q) (h2 : ¬ P → W S (.reg r) (pt (pt f s (.bool false)) t .undef) A Q) : GK S (.bool (decide P)) s t true i r f A Q :=
  fun h => W_g h (fun hb => h1 (by simpa using hb)) (fun hb => h2 (by simpa using hb))
theorem gk_df {P : Prop} [Decidable P] {t : Nat} {i : Ins} {s : Nat} {r : List EOp} (h1 : ¬ P → W S (.reg (⟨some t, i, none⟩ :: r)) (pt f s (.bool false)) A Q) (h2 : P → W S (.reg r) (pt (pt f s (.bool true)) t .undef) A Q) : GK S (.bool (decide P)) s t false i r f A Q :=
  fun h => W_g h (fun hb => h1 (by simpa using hb)) (fun hb => h2 (by simpa using hb))
theorem gk_bt {b : Bool} {t : Nat} {i : Ins} {s : Nat} {r : List EOp} (h1 : b = true → W S (.reg (⟨some t, i, none⟩ :: r)) (pt f s (.bool true)) A Q) (h2 : b = false → W S (.reg r) (pt (pt f s (.bool false)) t .undef) A Q) : GK S (.bool b) s t true i r f A Q :=
  fun h => W_g h h1 h2
theorem gk_bf {b : Bool} {t : Nat} {i : Ins} {s : Nat} {r : List EOp} (h1 : b = false → W S (.reg (⟨some t, i, none⟩ :: r)) (pt f s (.bool false)) A Q) (h2 : b = true → W S (.reg r) (pt (pt f s (.bool true)) t .undef) A Q) : GK S (.bool b) s t false i r f A Q :=
  fun h => W_g h h1 h2

end Ev

namespace Ev
open Go

section
variable {H : Type} {enc : TypeId × Value → H} {P : Program} {W : World} {b0 : Nat}

/-- the call of a law that is true of all plain inputs, in the form that each has -/
theorem law_calls' {S : Nat → Option Fn} (hm : P.follows .mixedOrders = true) {f : Nat} {fn : Func} (hf : P.funcs[f]? = some fn) {e : EFn} (hok : okFn P fn e = true) (hC : ∀ f', f' ∈ calleesOf e.body → Con P S f')
    {ks : List AK} (hks : fn.params.toList.mapM (argK P) = some ks)
    (hrun : ∀ args : List D, args.length = ks.length → (∀ (i : Nat) k d, ks[i]? = some k → args[i]? = some d → ArgOk k d) → ∃ n, e.run S n (args.map D.nm) [] = some (.bool true, []))
    {args : Array Value} {ds : List (DataW H)} {ps : List MemPlace} (hA : DataW.TrodAll enc P W 0 (fun _ => true) true fn.params.toList args.toList ds ps)
    (hval : ∀ (j : Nat) t v, fn.params[j]? = some t → args[j]? = some v → Value.okWide P W .any b0 t v)
    (hw : (DataW.weightsEach P fn.params.toList ds).all (· ≤ reachBytes) = true) :
    Calls P f args W fun e W' => e = .returned (.bool true) ∧ Go.RowKit.Below W.heap.size W W' := by
  obtain ⟨xs, h1, h2, h3, h4⟩ := read_args (b0 := b0) hks hA (fun j t v ht hv => hval j t v (by simpa using ht) (by simpa using hv)) (fun n hn => by simpa using List.all_eq_true.1 hw n hn)
  obtain ⟨n, hr⟩ := hrun xs h2 h4
  refine (fn_sound hm hf hok hC hr (g0 W) W args (inv0 W) (fun b h => by cases h) (by simpa using h1.symm) (fun i v d hv hd => ?_)).mono ?_
  · rw [List.getElem?_map] at hd
    cases hx : xs[i]? with
    | none => rw [hx] at hd; cases hd
    | some x => rw [hx] at hd; cases hd; exact (h3 i v x (by simpa using hv) hx).nm
  · rintro e W' ⟨v, g', rfl, I', _, _, F, hR, _⟩
    rw [hR.bool_inv]
    exact ⟨rfl, F.os, F.tape, F.out, F.sz, fun k hk => F.old k hk (own0 W k)⟩
end

theorem trod_lts {H : Type} {enc : TypeId × Value → H} {P : Program} {W : World} {base : Nat} {spare : Nat → Bool} {held : Bool} {t : TypeId} {v : Value} {d : DataW H} {ps : List MemPlace} (h : DataW.Trod enc P W base spare held t v d ps) : ∀ x ∈ ps, x.block < W.heap.size := by
  obtain ⟨m, hm⟩ := h; exact DataW.trod_lt m _ _ _ hm

-- ------------------------------------------------------------------ cells
theorem Ok.str_inv {d : D} (h : Ok .str d) : ∃ s : List UInt8, d = .str s ∧ s.length ≤ reachBytes := by cases h with | str s h => exact ⟨s, rfl, h⟩
theorem Ok.bool_inv {d : D} (h : Ok .bool d) : ∃ b, d = .bool b := by cases h with | bool b => exact ⟨b, rfl⟩
theorem wf_i64 {n : Int} (h : (Lit.int .i64 n).wf = true) : -9223372036854775808 ≤ n ∧ n < 9223372036854775808 := by
  simp [Lit.wf, IntKind.min, IntKind.max, IntKind.signed, IntKind.bits] at h; omega
theorem wf_u8 {n : Int} (h : (Lit.int .u8 n).wf = true) : 0 ≤ n ∧ n < 256 := by
  simp [Lit.wf, IntKind.min, IntKind.max, IntKind.signed, IntKind.bits] at h; omega
theorem wf_u32 {n : Int} (h : (Lit.int .u32 n).wf = true) : 0 ≤ n ∧ n < 4294967296 := by
  simp [Lit.wf, IntKind.min, IntKind.max, IntKind.signed, IntKind.bits] at h; omega
theorem wf_u64 {n : Int} (h : (Lit.int .u64 n).wf = true) : 0 ≤ n ∧ n < 18446744073709551616 := by
  simp [Lit.wf, IntKind.min, IntKind.max, IntKind.signed, IntKind.bits] at h; omega
theorem Ok.i64_inv {d : D} (h : Ok (.int .i64) d) : ∃ n : Int, d = N64 n ∧ -9223372036854775808 ≤ n ∧ n < 9223372036854775808 := by
  cases h with | int k n h => exact ⟨n, rfl, wf_i64 h⟩
theorem Ok.u8_inv {d : D} (h : Ok (.int .u8) d) : ∃ b : UInt8, d = B8 b := by
  cases h with
  | int k n h =>
    have := wf_u8 h
    refine ⟨UInt8.ofNat n.toNat, ?_⟩
    simp only [B8, D.int.injEq, true_and]
    rw [UInt8.toNat_ofNat']; omega
theorem Ok.u32_inv {d : D} (h : Ok (.int .u32) d) : ∃ x : BitVec 32, d = W32 x := by
  cases h with
  | int k n h =>
    have := wf_u32 h
    refine ⟨BitVec.ofNat 32 n.toNat, ?_⟩
    simp only [W32, D.int.injEq, true_and, BitVec.toNat_ofNat]; omega
theorem Ok.u64_inv {d : D} (h : Ok (.int .u64) d) : ∃ x : BitVec 64, d = W64 x := by
  cases h with
  | int k n h =>
    have := wf_u64 h
    refine ⟨BitVec.ofNat 64 n.toNat, ?_⟩
    simp only [W64, D.int.injEq, true_and, BitVec.toNat_ofNat]; omega

theorem Oks.nil {ds : List D} (h : Oks [] ds) : ds = [] := List.eq_nil_of_length_eq_zero h.1
theorem Oks.cons {c : CT} {l : List CT} {ds : List D} (h : Oks (c :: l) ds) : ∃ d r, ds = d :: r ∧ Ok c d ∧ Oks l r := by
  match ds, h with
  | [], h => exact absurd h.1 (by simp)
  | d :: r, h => exact ⟨d, r, rfl, h.2 0 c d rfl rfl, by simpa using h.1, fun i c d hc hd => h.2 (i + 1) c d hc hd⟩
theorem Oks.split {l l' : List CT} {ds : List D} (h : Oks (l ++ l') ds) : ∃ a b, ds = a ++ b ∧ Oks l a ∧ Oks l' b := by
  induction l generalizing ds with
  | nil => exact ⟨[], ds, rfl, ⟨rfl, fun i c d hc => by simp at hc⟩, h⟩
  | cons c l ih =>
    obtain ⟨d, r, rfl, h1, h2⟩ := Oks.cons h
    obtain ⟨a, b, rfl, h3, h4⟩ := ih h2
    refine ⟨d :: a, b, rfl, ⟨by simp [h3.1], fun i c d hc hd => ?_⟩, h4⟩
    cases i with
    | zero => simp at hc hd; subst hc; subst hd; exact h1
    | succ i => exact h3.2 i c d (by simpa using hc) (by simpa using hd)
theorem Oks.bytes : ∀ {n : Nat} {ds : List D}, Oks (List.replicate n (.int .u8)) ds → ∃ l : List UInt8, l.length = n ∧ ds = bytesC l
  | 0, ds, h => ⟨[], rfl, Oks.nil h⟩
  | n + 1, ds, h => by
    obtain ⟨d, r, rfl, h1, h2⟩ := Oks.cons h
    obtain ⟨b, rfl⟩ := h1.u8_inv
    obtain ⟨l, rfl, rfl⟩ := Oks.bytes h2
    exact ⟨b :: l, rfl, rfl⟩
/-- the elements of a slice of bytes -/
theorem els_bytes : ∀ {els : List (List D)}, (∀ e, e ∈ els → e.length = 1) → (∀ e, e ∈ els → ∀ (i : Nat) c d, [CT.int .u8][i]? = some c → e[i]? = some d → Ok c d) → ∃ l : List UInt8, els = bytesD l
  | [], _, _ => ⟨[], rfl⟩
  | e :: r, h1, h2 => by
    obtain ⟨l, rfl⟩ := els_bytes (els := r) (fun x hx => h1 x (List.mem_cons_of_mem _ hx)) (fun x hx => h2 x (List.mem_cons_of_mem _ hx))
    match e, h1 e (List.mem_cons_self ..), h2 e (List.mem_cons_self ..) with
    | [d], _, h =>
      obtain ⟨b, rfl⟩ := (h 0 _ d rfl rfl).u8_inv
      exact ⟨b :: l, rfl⟩
theorem Ok.bs_inv {d : D} (h : Ok (.sl 1 [.int .u8]) d) : ∃ l : List UInt8, d.nm = .sl .any 1 (bytesD l) ∧ l.length ≤ reachBytes := by
  cases h with
  | nil => exact ⟨[], rfl, Nat.zero_le _⟩
  | sl bs el els hb hl h =>
    obtain ⟨l, rfl⟩ := els_bytes hl h
    refine ⟨l, ?_, by rw [bytesD_length] at hb; omega⟩
    show D.sl .any 1 (nmLL (bytesD l)) = _
    rw [nm_bytesD]

theorem ArgOk.str {d : D} (h : ArgOk (.one .str) d) : ∃ s : List UInt8, d.nm = .str s ∧ s.length ≤ reachBytes := by
  obtain ⟨s, rfl, hs⟩ := Ok.str_inv h; exact ⟨s, rfl, hs⟩
theorem ArgOk.i64 {d : D} (h : ArgOk (.one (.int .i64)) d) : ∃ n : Int, d.nm = N64 n ∧ -9223372036854775808 ≤ n ∧ n < 9223372036854775808 := by
  obtain ⟨n, rfl, hn⟩ := Ok.i64_inv h; exact ⟨n, rfl, hn⟩
theorem ArgOk.u8 {d : D} (h : ArgOk (.one (.int .u8)) d) : ∃ b : UInt8, d.nm = B8 b := by
  obtain ⟨n, rfl⟩ := Ok.u8_inv h; exact ⟨n, rfl⟩
theorem ArgOk.u32 {d : D} (h : ArgOk (.one (.int .u32)) d) : ∃ b : BitVec 32, d.nm = W32 b := by
  obtain ⟨n, rfl⟩ := Ok.u32_inv h; exact ⟨n, rfl⟩
theorem ArgOk.u64 {d : D} (h : ArgOk (.one (.int .u64)) d) : ∃ b : BitVec 64, d.nm = W64 b := by
  obtain ⟨n, rfl⟩ := Ok.u64_inv h; exact ⟨n, rfl⟩
theorem ArgOk.bs {d : D} (h : ArgOk (.one (.sl 1 [.int .u8])) d) : ∃ l : List UInt8, d.nm = .sl .any 1 (bytesD l) ∧ l.length ≤ reachBytes := Ok.bs_inv h
theorem ArgOk.ar {n : Nat} {d : D} (h : ArgOk (.agg (List.replicate n (.int .u8))) d) : ∃ l : List UInt8, d.nm = .agg (bytesC l) ∧ l.length = n := by
  obtain ⟨ds, rfl, h⟩ := h
  obtain ⟨l, hl, rfl⟩ := Oks.bytes h
  exact ⟨l, by simp only [DV, nm_bytesC], hl⟩

theorem g_rfl {S : Nat → Option Fn} {e : EFn} {args : List D} {x : D} (h : ∃ n, e.run S n args [] = some (x, [])) (hx : x.nmR = x := by rfl) : ∃ n r0, e.run S n args [] = some (r0, []) ∧ r0.nmR = x := h.elim fun n hn => ⟨n, _, hn, hx⟩
theorem g_eq {S : Nat → Option Fn} {e : EFn} {args : List D} {x y : D} (h : ∃ n, e.run S n args [] = some (x, [])) (hx : x.nmR = y) : ∃ n r0, e.run S n args [] = some (r0, []) ∧ r0.nmR = y := h.elim fun n hn => ⟨n, _, hn, hx⟩

/-- a list of arguments, one by one -/
theorem args_nil {args : List D} (h : args.length = ([] : List AK).length) : args = [] := List.eq_nil_of_length_eq_zero h
theorem args_cons {k : AK} {ks : List AK} {args : List D} (h : args.length = (k :: ks).length) (hk : ∀ (i : Nat) k' d, (k :: ks)[i]? = some k' → args[i]? = some d → ArgOk k' d) :
    ∃ d r, args = d :: r ∧ ArgOk k d ∧ r.length = ks.length ∧ ∀ (i : Nat) k' d, ks[i]? = some k' → r[i]? = some d → ArgOk k' d := by
  match args, h, hk with
  | [], h, _ => simp at h
  | d :: r, h, hk => exact ⟨d, r, rfl, hk 0 k d rfl rfl, by simpa using h, fun i k' d hk' hd => hk (i + 1) k' d hk' hd⟩

end Ev

namespace Ev
open Go

/-- a word, turned -/
def rotl (x : BitVec 32) (k : Nat) : BitVec 32 := x <<< k ||| x >>> (32 - k)

theorem rotl_get (x : BitVec 32) (k i : Nat) (hk : k < 32) (hi : i < 32) : (rotl x k).getLsbD i = x.getLsbD ((i + (32 - k)) % 32) := by
  simp only [rotl, BitVec.getLsbD_or, BitVec.getLsbD_shiftLeft, BitVec.getLsbD_ushiftRight]
  by_cases h : i < k
  · rw [show (i + (32 - k)) % 32 = 32 - k + i by omega]
    simp [h, hi]
  · rw [show (i + (32 - k)) % 32 = i - k by omega, BitVec.getLsbD_of_ge _ (32 - k + i) (by omega)]
    simp [h, hi]

theorem rotl_one (x : BitVec 32) (k : Nat) (hk : k + 1 < 32) : rotl (rotl x k) 1 = rotl x (k + 1) := by
  apply BitVec.eq_of_getLsbD_eq
  intro i hi
  rw [rotl_get _ _ _ (by omega) hi, rotl_get _ _ _ (by omega) (by omega), rotl_get _ _ _ (by omega) hi]
  congr 1
  omega

theorem rotl_zero (x : BitVec 32) : rotl x 0 = x := by
  apply BitVec.eq_of_getLsbD_eq
  intro i hi
  rw [rotl_get _ _ _ (by omega) hi]
  congr 1
  omega

/-- math/bits.RotateLeft32 -/
def E_bits_RotateLeft32 : EFn := ⟨17, [.tmp 4],
  (.seq (.reg [⟨some 4, .mov (.d (W32 0)), none⟩])
  (.seq (.reg [⟨some 6, .mov (.t 1), none⟩,
    ⟨some 7, .cv .any (.toInt .u64) (.t 6), none⟩,
    ⟨some 8, .bin .and (.t 7) (.d (W64 31)), none⟩,
    ⟨some 5, .mov (.t 8), none⟩])
  (.seq (.reg [⟨some 9, .mov (.t 0), none⟩,
    ⟨some 10, .mov (.t 5), none⟩,
    ⟨some 11, .bin .shl (.t 9) (.t 10), none⟩,
    ⟨some 12, .mov (.t 0), none⟩,
    ⟨some 13, .mov (.t 5), none⟩,
    ⟨some 14, .bin .sub (.d (W64 32)) (.t 13), none⟩,
    ⟨some 15, .bin .shr (.t 12) (.t 14), none⟩,
    ⟨some 16, .bin .or (.t 11) (.t 15), none⟩,
    ⟨some 4, .mov (.t 16), none⟩])
  .ret)))⟩

def G_rotl (x : BitVec 32) (k : Int) : Option D := if 0 ≤ k ∧ k < 32 then some (W32 (rotl x k.toNat)) else none

set_option maxRecDepth 4000 in
theorem run_RotateLeft32 (S : Nat → Option Fn) (x : BitVec 32) (k : Int) (r : D) (h : G_rotl x k = some r) : ∃ n r0, E_bits_RotateLeft32.run S n [Enc.enc x, Enc.enc k] [] = some (r0, []) ∧ r0.nmR = r := by
  unfold G_rotl at h
  split at h
  · rename_i hk
    cases h
    refine ⟨0, W32 (rotl x k.toNat), ?_, rfl⟩
    have e1 : (BitVec.ofNat 64 (k % 18446744073709551616).toNat &&& (31 : BitVec 64)).toNat = k.toNat := by
      rw [BitVec.toNat_and, BitVec.toNat_ofNat]
      rw [show (31 : BitVec 64).toNat = 2 ^ 5 - 1 from rfl, Nat.and_two_pow_sub_one_eq_mod]
      omega
    have e2 : ((32 : BitVec 64) - (BitVec.ofNat 64 (k % 18446744073709551616).toNat &&& (31 : BitVec 64))).toNat = 32 - k.toNat := by
      rw [BitVec.toNat_sub, e1, show (32 : BitVec 64).toNat = 32 from rfl]
      omega
    simp only [E_bits_RotateLeft32, EFn.run, EV, AV, List.getD_cons_succ, List.getD_cons_zero, List.set_cons_succ, List.set_cons_zero, List.length_cons, List.length_nil, List.replicate, List.cons_append, List.nil_append, Nat.reduceSub, Nat.reduceAdd, cv_N64_W64, W64_and, W64_sub, shl32w, shr32w, W32_or, e1, e2]
    rfl
  · cases h

end Ev

namespace Ev
open Go

-- writes 0 1 5 6 7 8 9 10 11 12 13 of 15
def L_ref2_turn_0 : ECode :=
  (.seq (.seq (.reg [⟨some 5, .mov (.t 1), none⟩,
    ⟨some 6, .bin .gtr (.t 5) (.d (N64 0)), none⟩])
  (.cond (.t 6) .skip
  (.exit 0)))
  (.seq (.block 1 (.reg [⟨some 9, .mov (.t 0), none⟩,
    ⟨some 10, .bin .shl (.t 9) (.d (W64 1)), none⟩,
    ⟨some 11, .mov (.t 0), none⟩,
    ⟨some 12, .bin .shr (.t 11) (.d (W64 31)), none⟩,
    ⟨some 13, .bin .or (.t 10) (.t 12), none⟩,
    ⟨some 0, .mov (.t 13), none⟩]))
  (.reg [⟨some 7, .mov (.t 1), none⟩,
    ⟨some 8, .bin .sub (.t 7) (.d (N64 1)), none⟩,
    ⟨some 1, .mov (.t 8), none⟩])))

/-- claviger/clavigerref2.turn -/
def E_ref2_turn : EFn := ⟨15, [.tmp 4],
  (.seq (.reg [⟨some 4, .mov (.d (W32 0)), none⟩])
  (.seq (.block 0 (.loop (L_ref2_turn_0)))
  (.seq (.reg [⟨some 14, .mov (.t 0), none⟩,
    ⟨some 4, .mov (.t 14), none⟩])
  .ret)))⟩

set_option maxRecDepth 4000 in
theorem loop_turn (S : Nat → Option Fn) (n : Nat) (A : St) (a2 a3 a4 a14 : D) : ∀ (k j m : Nat) (x : BitVec 32) (g5 g6 g7 g8 g9 g10 g11 g12 g13 : D), k < m → j + k < 32 →
    ∃ h5 h6 h7 h8 h9 h10 h11 h12 h13, rounds (L_ref2_turn_0.run S n) m [W32 (rotl x j), N64 k, a2, a3, a4, g5, g6, g7, g8, g9, g10, g11, g12, g13, a14] A =
      some (.exit 0, [W32 (rotl x (j + k)), N64 0, a2, a3, a4, h5, h6, h7, h8, h9, h10, h11, h12, h13, a14], A) := by
  intro k
  induction k with
  | zero =>
    intro j m x g5 g6 g7 g8 g9 g10 g11 g12 g13 hm hj
    obtain ⟨m, rfl⟩ : ∃ m', m = m' + 1 := ⟨m - 1, by omega⟩
    refine ⟨N64 0, .bool false, g7, g8, g9, g10, g11, g12, g13, ?_⟩
    simp only [rounds, L_ref2_turn_0, EV, List.getD_cons_succ, List.getD_cons_zero, List.set_cons_succ, List.set_cons_zero, N64_gtr, Int.natCast_zero, gt_iff_lt, Int.lt_irrefl, decide_false, Bool.false_eq_true, if_false, Nat.add_zero]
  | succ k ih =>
    intro j m x g5 g6 g7 g8 g9 g10 g11 g12 g13 hm hj
    obtain ⟨m, rfl⟩ : ∃ m', m = m' + 1 := ⟨m - 1, by omega⟩
    have h1 : ((k + 1 : Nat) : Int) > 0 := by omega
    have h2 : IntKind.i64.wrap (((k + 1 : Nat) : Int) - 1) = k := by rw [wrap_i64 (by omega)]; omega
    have h3 : rotl x j <<< (1 : BitVec 64).toNat ||| rotl x j >>> (31 : BitVec 64).toNat = rotl x (j + 1) := rotl_one x j (by omega)
    obtain ⟨h5, h6, h7, h8, h9, h10, h11, h12, h13, e⟩ := ih (j + 1) m x _ _ _ _ _ _ _ _ _ (by omega) (by omega)
    refine ⟨h5, h6, h7, h8, h9, h10, h11, h12, h13, ?_⟩
    rw [show j + (k + 1) = j + 1 + k by omega, ← e]
    simp only [rounds, L_ref2_turn_0, EV, List.getD_cons_succ, List.getD_cons_zero, List.set_cons_succ, List.set_cons_zero, N64_gtr, h1, decide_true, if_true, N64_sub, h2, shl32w, shr32w, W32_or, h3]
    rfl

theorem run_turn (S : Nat → Option Fn) (x : BitVec 32) (k : Int) (r : D) (h : G_rotl x k = some r) : ∃ n r0, E_ref2_turn.run S n [Enc.enc x, Enc.enc k] [] = some (r0, []) ∧ r0.nmR = r := by
  unfold G_rotl at h
  split at h
  · rename_i hk
    cases h
    refine ⟨33, W32 (rotl x k.toNat), ?_, rfl⟩
    obtain ⟨h5, h6, h7, h8, h9, h10, h11, h12, h13, e⟩ := loop_turn S 33 ⟨[], []⟩ .undef .undef (W32 0) .undef k.toNat 0 33 x .undef .undef .undef .undef .undef .undef .undef .undef .undef (by omega) (by omega)
    rw [rotl_zero, Nat.zero_add, Int.toNat_of_nonneg hk.1] at e
    simp only [E_ref2_turn, EFn.run, EV, AV, List.getD_cons_succ, List.getD_cons_zero, List.set_cons_succ, List.set_cons_zero, List.length_cons, List.length_nil, List.replicate, List.cons_append, List.nil_append, Nat.reduceSub, Nat.reduceAdd, e, if_true]
    rfl
  · cases h

/-- the word that stands in four bytes, the last one first -/
def wordOf (b0 b1 b2 b3 : UInt8) : BitVec 32 := BitVec.ofNat 32 (b0.toNat + 256 * b1.toNat + 65536 * b2.toNat + 16777216 * b3.toNat)

def G_word (b : Bs) : Option D := match b.b with | b0 :: b1 :: b2 :: b3 :: _ => some (W32 (wordOf b0 b1 b2 b3)) | _ => none

-- writes 3 4 5 6 7 8 9 10 11 12 13 14 15 16 of 18
def L_blend_low_0 : ECode :=
  (.seq (.seq (.reg [⟨some 5, .mov (.t 4), none⟩,
    ⟨some 6, .bin .geq (.t 5) (.d (N64 0)), none⟩])
  (.cond (.t 6) .skip
  (.exit 0)))
  (.seq (.block 1 (.reg [⟨some 9, .mov (.t 3), none⟩,
    ⟨some 10, .bin .shl (.t 9) (.d (W64 8)), none⟩,
    ⟨some 11, .mov (.t 0), none⟩,
    ⟨some 12, .mov (.t 4), none⟩,
    ⟨some 13, .iadrS 1 (.t 11) (.t 12), none⟩,
    ⟨some 14, .load 1 false (.t 13), none⟩,
    ⟨some 15, .cv .any (.toInt .u32) (.t 14), none⟩,
    ⟨some 16, .bin .or (.t 10) (.t 15), none⟩,
    ⟨some 3, .mov (.t 16), none⟩]))
  (.reg [⟨some 7, .mov (.t 4), none⟩,
    ⟨some 8, .bin .sub (.t 7) (.d (N64 1)), none⟩,
    ⟨some 4, .mov (.t 8), none⟩])))

/-- claviger/blend.low -/
def E_blend_low : EFn := ⟨18, [.tmp 2],
  (.seq (.reg [⟨some 2, .mov (.d (W32 0)), none⟩])
  (.seq (.reg [⟨some 3, .mov (.d (W32 0)), none⟩])
  (.seq (.seq (.reg [⟨some 4, .mov (.d (N64 3)), none⟩])
  (.block 0 (.loop (L_blend_low_0))))
  (.seq (.reg [⟨some 17, .mov (.t 3), none⟩,
    ⟨some 2, .mov (.t 17), none⟩])
  .ret))))⟩
-- writes 3 4 5 6 7 8 9 10 11 12 13 14 15 16 of 18
def L_ref2_word_0 : ECode :=
  (.seq (.seq (.reg [⟨some 5, .mov (.t 4), none⟩,
    ⟨some 6, .bin .geq (.t 5) (.d (N64 0)), none⟩])
  (.cond (.t 6) .skip
  (.exit 0)))
  (.seq (.block 1 (.reg [⟨some 9, .mov (.t 3), none⟩,
    ⟨some 10, .bin .mul (.t 9) (.d (W32 256)), none⟩,
    ⟨some 11, .mov (.t 0), none⟩,
    ⟨some 12, .mov (.t 4), none⟩,
    ⟨some 13, .iadrS 1 (.t 11) (.t 12), none⟩,
    ⟨some 14, .load 1 false (.t 13), none⟩,
    ⟨some 15, .cv .any (.toInt .u32) (.t 14), none⟩,
    ⟨some 16, .bin .add (.t 10) (.t 15), none⟩,
    ⟨some 3, .mov (.t 16), none⟩]))
  (.reg [⟨some 7, .mov (.t 4), none⟩,
    ⟨some 8, .bin .sub (.t 7) (.d (N64 1)), none⟩,
    ⟨some 4, .mov (.t 8), none⟩])))

/-- claviger/clavigerref2.word -/
def E_ref2_word : EFn := ⟨18, [.tmp 2],
  (.seq (.reg [⟨some 2, .mov (.d (W32 0)), none⟩])
  (.seq (.reg [⟨some 3, .mov (.d (W32 0)), none⟩])
  (.seq (.seq (.reg [⟨some 4, .mov (.d (N64 3)), none⟩])
  (.block 0 (.loop (L_ref2_word_0))))
  (.seq (.reg [⟨some 17, .mov (.t 3), none⟩,
    ⟨some 2, .mov (.t 17), none⟩])
  .ret))))⟩

theorem shl_or (v : BitVec 32) (b : UInt8) : v <<< (8 : BitVec 64).toNat ||| BitVec.ofNat 32 b.toNat = BitVec.ofNat 32 (v.toNat * 256 + b.toNat) := by
  have hb := b.toNat_lt
  apply BitVec.eq_of_toNat_eq
  simp only [BitVec.toNat_or, BitVec.toNat_shiftLeft, BitVec.toNat_ofNat]
  rw [show (8 : BitVec 64).toNat = 8 from rfl, Nat.mod_eq_of_lt (show b.toNat < 2 ^ 32 by omega)]
  have h1 : v.toNat <<< 8 % 2 ^ 32 = (v.toNat % 2 ^ 24) <<< 8 := by
    rw [Nat.shiftLeft_eq, Nat.shiftLeft_eq, show (2 : Nat) ^ 32 = 2 ^ 24 * 2 ^ 8 from rfl, Nat.mul_mod_mul_right]
  rw [h1, ← Nat.shiftLeft_add_eq_or_of_lt (by omega : b.toNat < 2 ^ 8), Nat.shiftLeft_eq]
  omega

set_option maxRecDepth 4000 in
theorem run_low (S : Nat → Option Fn) (b : Bs) (r : D) (h : G_word b = some r) : ∃ n r0, E_blend_low.run S n [Enc.enc b] [] = some (r0, []) ∧ r0.nmR = r := by
  obtain ⟨b⟩ := b
  unfold G_word at h
  split at h
  · rename_i b0 b1 b2 b3 t hb
    cases h
    simp only at hb
    subst hb
    refine ⟨6, W32 (wordOf b0 b1 b2 b3), ?_, rfl⟩
    simp (disch := omega) only [E_blend_low, L_blend_low_0, rounds, EFn.run, EV, AV, DV, List.getD_cons_succ, List.getD_cons_zero, List.set_cons_succ, List.set_cons_zero, List.length_cons, List.length_nil, List.replicate, List.cons_append, List.nil_append, Nat.reduceSub, Nat.reduceAdd, bytesD, byteD_eq, List.map_cons,
      N64_geq, N64_sub, shl32w, cv_B8_W32, W32_or, wrap_i64, Int.reduceSub, Int.reduceToNat, Int.reduceLE, Int.reduceNeg, ge_iff_le, decide_true, decide_false, Bool.false_eq_true, if_true, if_false, List.getElem?_cons_succ, List.getElem?_cons_zero, reduceCtorEq, reduceIte, shl_or]
    have e : BitVec.ofNat 32 ((BitVec.ofNat 32 ((BitVec.ofNat 32 ((BitVec.ofNat 32 ((0 : BitVec 32).toNat * 256 + b3.toNat)).toNat * 256 + b2.toNat)).toNat * 256 + b1.toNat)).toNat * 256 + b0.toNat) = wordOf b0 b1 b2 b3 := by
      have := b0.toNat_lt; have := b1.toNat_lt; have := b2.toNat_lt; have := b3.toNat_lt
      apply BitVec.eq_of_toNat_eq
      simp only [wordOf, BitVec.toNat_ofNat, show (0 : BitVec 32).toNat = 0 from rfl]
      omega
    rw [e]
    rfl
  · cases h

end Ev

namespace Ev
open Go

set_option maxRecDepth 4000 in
theorem run_word (S : Nat → Option Fn) (b : Bs) (r : D) (h : G_word b = some r) : ∃ n r0, E_ref2_word.run S n [Enc.enc b] [] = some (r0, []) ∧ r0.nmR = r := by
  obtain ⟨b⟩ := b
  unfold G_word at h
  split at h
  · rename_i b0 b1 b2 b3 t hb
    cases h
    simp only at hb
    subst hb
    refine ⟨6, W32 (wordOf b0 b1 b2 b3), ?_, rfl⟩
    simp (disch := omega) only [E_ref2_word, L_ref2_word_0, rounds, EFn.run, EV, AV, DV, List.getD_cons_succ, List.getD_cons_zero, List.set_cons_succ, List.set_cons_zero, List.length_cons, List.length_nil, List.replicate, List.cons_append, List.nil_append, Nat.reduceSub, Nat.reduceAdd, bytesD, byteD_eq, List.map_cons,
      N64_geq, N64_sub, W32_mul, W32_add, cv_B8_W32, W32_or, wrap_i64, Int.reduceSub, Int.reduceToNat, Int.reduceLE, Int.reduceNeg, ge_iff_le, decide_true, decide_false, Bool.false_eq_true, if_true, if_false, List.getElem?_cons_succ, List.getElem?_cons_zero, reduceCtorEq, reduceIte]
    have e : (((0 : BitVec 32) * 256 + BitVec.ofNat 32 b3.toNat) * 256 + BitVec.ofNat 32 b2.toNat) * 256 + BitVec.ofNat 32 b1.toNat = BitVec.ofNat 32 (b1.toNat + 256 * b2.toNat + 65536 * b3.toNat) := by
      have := b1.toNat_lt; have := b2.toNat_lt; have := b3.toNat_lt
      apply BitVec.eq_of_toNat_eq
      simp only [BitVec.toNat_add, BitVec.toNat_mul, BitVec.toNat_ofNat, show (0 : BitVec 32).toNat = 0 from rfl, show (256 : BitVec 32).toNat = 256 from rfl]
      omega
    have e' : ((((0 : BitVec 32) * 256 + BitVec.ofNat 32 b3.toNat) * 256 + BitVec.ofNat 32 b2.toNat) * 256 + BitVec.ofNat 32 b1.toNat) * 256 + BitVec.ofNat 32 b0.toNat = wordOf b0 b1 b2 b3 := by
      rw [e]
      have := b0.toNat_lt; have := b1.toNat_lt; have := b2.toNat_lt; have := b3.toNat_lt
      apply BitVec.eq_of_toNat_eq
      simp only [wordOf, BitVec.toNat_add, BitVec.toNat_mul, BitVec.toNat_ofNat, show (256 : BitVec 32).toNat = 256 from rfl]
      omega
    rw [e']
    rfl
  · cases h

structure W4 where
  a : BitVec 32
  b : BitVec 32
  c : BitVec 32
  d : BitVec 32

def W4.cells (x : W4) : List D := [W32 x.a, W32 x.b, W32 x.c, W32 x.d]

noncomputable def unW4 : List D → Option W4
  | [a, b, c, d] => (Enc.dec a).bind fun a => (Enc.dec b).bind fun b => (Enc.dec c).bind fun c => (Enc.dec d).map fun d => ⟨a, b, c, d⟩
  | _ => none

theorem unW4_cells (x : W4) : unW4 x.cells = some x := by simp only [W4.cells, unW4, AV, Option.bind_some, Option.map_some]
theorem of_unW4 {ds : List D} {x : W4} (h : unW4 ds = some x) : ds = x.cells := by
  unfold unW4 at h
  split at h
  · simp only [Option.bind_eq_some_iff, Option.map_eq_some_iff] at h
    obtain ⟨a, ha, b, hb, c, hc, d, hd, rfl⟩ := h
    rw [Enc.enc_dec _ _ ha, Enc.enc_dec _ _ hb, Enc.enc_dec _ _ hc, Enc.enc_dec _ _ hd]
    rfl
  · cases h

/-- one stir, as it is written -/
def stir (x : W4) : W4 :=
  let a1 := x.a + x.b
  let d1 := rotl (x.d ^^^ a1) 16
  let c1 := x.c + d1
  let b1 := rotl (x.b ^^^ c1) 12
  let a2 := a1 + b1
  let d2 := rotl (d1 ^^^ a2) 8
  let c2 := c1 + d2
  let b2 := rotl (b1 ^^^ c2) 7
  ⟨a2, b2, c2, d2⟩

noncomputable def F_stirP : Fn := fun args B => match args, B with
  | [.ptr 0 0], [.mem false cells] => (unW4 cells).map fun x => (.tup [], [.mem false (stir x).cells])
  | _, _ => none
noncomputable def F_stirS : Fn := fun args B => match args, B with
  | [.loc 0 0 1 4], [.mem false cells] => (unW4 cells).map fun x => (.tup [], [.mem false (stir x).cells])
  | _, _ => none

theorem G_rotl_eq (x : BitVec 32) (k : Int) (h : 0 ≤ k ∧ k < 32) : G_rotl x k = some (W32 (rotl x k.toNat)) := if_pos h

/-- (*claviger/blend.words).stir -/
def E_blend_words_stir (c_bits_RotateLeft32 : Nat) : EFn := ⟨98, [],
  (.seq (.regD [⟨some 2, .mov (.t 0), none⟩,
    ⟨some 3, .nilc (.t 2), none⟩,
    ⟨some 4, .iadrA 1 4 (.t 3) (.d (N64 0)), none⟩,
    ⟨some 5, .load 1 false (.t 4), none⟩,
    ⟨some 6, .mov (.t 0), none⟩,
    ⟨some 7, .nilc (.t 6), none⟩,
    ⟨some 8, .iadrA 1 4 (.t 7) (.d (N64 1)), none⟩,
    ⟨some 9, .load 1 false (.t 8), none⟩,
    ⟨some 10, .bin .add (.t 5) (.t 9), none⟩,
    ⟨some 11, .nilc (.t 2), none⟩,
    ⟨some 12, .iadrA 1 4 (.t 11) (.d (N64 0)), none⟩,
    ⟨none, .store 1 (.t 12) (.t 10), none⟩] [])
  (.seq (.regD [⟨some 13, .mov (.t 0), none⟩,
    ⟨some 14, .mov (.t 0), none⟩,
    ⟨some 15, .nilc (.t 14), none⟩,
    ⟨some 16, .iadrA 1 4 (.t 15) (.d (N64 3)), none⟩,
    ⟨some 17, .load 1 false (.t 16), none⟩,
    ⟨some 18, .mov (.t 0), none⟩,
    ⟨some 19, .nilc (.t 18), none⟩,
    ⟨some 20, .iadrA 1 4 (.t 19) (.d (N64 0)), none⟩,
    ⟨some 21, .load 1 false (.t 20), none⟩,
    ⟨some 22, .bin .xor (.t 17) (.t 21), none⟩,
    ⟨some 23, .call c_bits_RotateLeft32 [(.t 22), (.d (N64 16))] [] .any, none⟩,
    ⟨some 24, .nilc (.t 13), none⟩,
    ⟨some 25, .iadrA 1 4 (.t 24) (.d (N64 3)), none⟩,
    ⟨none, .store 1 (.t 25) (.t 23), none⟩] [])
  (.seq (.regD [⟨some 26, .mov (.t 0), none⟩,
    ⟨some 27, .nilc (.t 26), none⟩,
    ⟨some 28, .iadrA 1 4 (.t 27) (.d (N64 2)), none⟩,
    ⟨some 29, .load 1 false (.t 28), none⟩,
    ⟨some 30, .mov (.t 0), none⟩,
    ⟨some 31, .nilc (.t 30), none⟩,
    ⟨some 32, .iadrA 1 4 (.t 31) (.d (N64 3)), none⟩,
    ⟨some 33, .load 1 false (.t 32), none⟩,
    ⟨some 34, .bin .add (.t 29) (.t 33), none⟩,
    ⟨some 35, .nilc (.t 26), none⟩,
    ⟨some 36, .iadrA 1 4 (.t 35) (.d (N64 2)), none⟩,
    ⟨none, .store 1 (.t 36) (.t 34), none⟩] [])
  (.seq (.regD [⟨some 37, .mov (.t 0), none⟩,
    ⟨some 38, .mov (.t 0), none⟩,
    ⟨some 39, .nilc (.t 38), none⟩,
    ⟨some 40, .iadrA 1 4 (.t 39) (.d (N64 1)), none⟩,
    ⟨some 41, .load 1 false (.t 40), none⟩,
    ⟨some 42, .mov (.t 0), none⟩,
    ⟨some 43, .nilc (.t 42), none⟩,
    ⟨some 44, .iadrA 1 4 (.t 43) (.d (N64 2)), none⟩,
    ⟨some 45, .load 1 false (.t 44), none⟩,
    ⟨some 46, .bin .xor (.t 41) (.t 45), none⟩,
    ⟨some 47, .call c_bits_RotateLeft32 [(.t 46), (.d (N64 12))] [] .any, none⟩,
    ⟨some 48, .nilc (.t 37), none⟩,
    ⟨some 49, .iadrA 1 4 (.t 48) (.d (N64 1)), none⟩,
    ⟨none, .store 1 (.t 49) (.t 47), none⟩] [])
  (.seq (.regD [⟨some 50, .mov (.t 0), none⟩,
    ⟨some 51, .nilc (.t 50), none⟩,
    ⟨some 52, .iadrA 1 4 (.t 51) (.d (N64 0)), none⟩,
    ⟨some 53, .load 1 false (.t 52), none⟩,
    ⟨some 54, .mov (.t 0), none⟩,
    ⟨some 55, .nilc (.t 54), none⟩,
    ⟨some 56, .iadrA 1 4 (.t 55) (.d (N64 1)), none⟩,
    ⟨some 57, .load 1 false (.t 56), none⟩,
    ⟨some 58, .bin .add (.t 53) (.t 57), none⟩,
    ⟨some 59, .nilc (.t 50), none⟩,
    ⟨some 60, .iadrA 1 4 (.t 59) (.d (N64 0)), none⟩,
    ⟨none, .store 1 (.t 60) (.t 58), none⟩] [])
  (.seq (.regD [⟨some 61, .mov (.t 0), none⟩,
    ⟨some 62, .mov (.t 0), none⟩,
    ⟨some 63, .nilc (.t 62), none⟩,
    ⟨some 64, .iadrA 1 4 (.t 63) (.d (N64 3)), none⟩,
    ⟨some 65, .load 1 false (.t 64), none⟩,
    ⟨some 66, .mov (.t 0), none⟩,
    ⟨some 67, .nilc (.t 66), none⟩,
    ⟨some 68, .iadrA 1 4 (.t 67) (.d (N64 0)), none⟩,
    ⟨some 69, .load 1 false (.t 68), none⟩,
    ⟨some 70, .bin .xor (.t 65) (.t 69), none⟩,
    ⟨some 71, .call c_bits_RotateLeft32 [(.t 70), (.d (N64 8))] [] .any, none⟩,
    ⟨some 72, .nilc (.t 61), none⟩,
    ⟨some 73, .iadrA 1 4 (.t 72) (.d (N64 3)), none⟩,
    ⟨none, .store 1 (.t 73) (.t 71), none⟩] [])
  (.seq (.regD [⟨some 74, .mov (.t 0), none⟩,
    ⟨some 75, .nilc (.t 74), none⟩,
    ⟨some 76, .iadrA 1 4 (.t 75) (.d (N64 2)), none⟩,
    ⟨some 77, .load 1 false (.t 76), none⟩,
    ⟨some 78, .mov (.t 0), none⟩,
    ⟨some 79, .nilc (.t 78), none⟩,
    ⟨some 80, .iadrA 1 4 (.t 79) (.d (N64 3)), none⟩,
    ⟨some 81, .load 1 false (.t 80), none⟩,
    ⟨some 82, .bin .add (.t 77) (.t 81), none⟩,
    ⟨some 83, .nilc (.t 74), none⟩,
    ⟨some 84, .iadrA 1 4 (.t 83) (.d (N64 2)), none⟩,
    ⟨none, .store 1 (.t 84) (.t 82), none⟩] [])
  (.regD [⟨some 85, .mov (.t 0), none⟩,
    ⟨some 86, .mov (.t 0), none⟩,
    ⟨some 87, .nilc (.t 86), none⟩,
    ⟨some 88, .iadrA 1 4 (.t 87) (.d (N64 1)), none⟩,
    ⟨some 89, .load 1 false (.t 88), none⟩,
    ⟨some 90, .mov (.t 0), none⟩,
    ⟨some 91, .nilc (.t 90), none⟩,
    ⟨some 92, .iadrA 1 4 (.t 91) (.d (N64 2)), none⟩,
    ⟨some 93, .load 1 false (.t 92), none⟩,
    ⟨some 94, .bin .xor (.t 89) (.t 93), none⟩,
    ⟨some 95, .call c_bits_RotateLeft32 [(.t 94), (.d (N64 7))] [] .any, none⟩,
    ⟨some 96, .nilc (.t 85), none⟩,
    ⟨some 97, .iadrA 1 4 (.t 96) (.d (N64 1)), none⟩,
    ⟨none, .store 1 (.t 97) (.t 95), none⟩] []))))))))⟩
/-- claviger/clavigerref2.stir -/
def E_ref2_stir (c_ref2_turn : Nat) : EFn := ⟨78, [],
  (.seq (.regD [⟨some 2, .mov (.t 0), none⟩,
    ⟨some 3, .mov (.t 0), none⟩,
    ⟨some 4, .iadrS 1 (.t 3) (.d (N64 0)), none⟩,
    ⟨some 5, .load 1 false (.t 4), none⟩,
    ⟨some 6, .mov (.t 0), none⟩,
    ⟨some 7, .iadrS 1 (.t 6) (.d (N64 1)), none⟩,
    ⟨some 8, .load 1 false (.t 7), none⟩,
    ⟨some 9, .bin .add (.t 5) (.t 8), none⟩,
    ⟨some 10, .iadrS 1 (.t 2) (.d (N64 0)), none⟩,
    ⟨none, .store 1 (.t 10) (.t 9), none⟩] [])
  (.seq (.regD [⟨some 11, .mov (.t 0), none⟩,
    ⟨some 12, .mov (.t 0), none⟩,
    ⟨some 13, .iadrS 1 (.t 12) (.d (N64 3)), none⟩,
    ⟨some 14, .load 1 false (.t 13), none⟩,
    ⟨some 15, .mov (.t 0), none⟩,
    ⟨some 16, .iadrS 1 (.t 15) (.d (N64 0)), none⟩,
    ⟨some 17, .load 1 false (.t 16), none⟩,
    ⟨some 18, .bin .xor (.t 14) (.t 17), none⟩,
    ⟨some 19, .call c_ref2_turn [(.t 18), (.d (N64 16))] [] .any, none⟩,
    ⟨some 20, .iadrS 1 (.t 11) (.d (N64 3)), none⟩,
    ⟨none, .store 1 (.t 20) (.t 19), none⟩] [])
  (.seq (.regD [⟨some 21, .mov (.t 0), none⟩,
    ⟨some 22, .mov (.t 0), none⟩,
    ⟨some 23, .iadrS 1 (.t 22) (.d (N64 2)), none⟩,
    ⟨some 24, .load 1 false (.t 23), none⟩,
    ⟨some 25, .mov (.t 0), none⟩,
    ⟨some 26, .iadrS 1 (.t 25) (.d (N64 3)), none⟩,
    ⟨some 27, .load 1 false (.t 26), none⟩,
    ⟨some 28, .bin .add (.t 24) (.t 27), none⟩,
    ⟨some 29, .iadrS 1 (.t 21) (.d (N64 2)), none⟩,
    ⟨none, .store 1 (.t 29) (.t 28), none⟩] [])
  (.seq (.regD [⟨some 30, .mov (.t 0), none⟩,
    ⟨some 31, .mov (.t 0), none⟩,
    ⟨some 32, .iadrS 1 (.t 31) (.d (N64 1)), none⟩,
    ⟨some 33, .load 1 false (.t 32), none⟩,
    ⟨some 34, .mov (.t 0), none⟩,
    ⟨some 35, .iadrS 1 (.t 34) (.d (N64 2)), none⟩,
    ⟨some 36, .load 1 false (.t 35), none⟩,
    ⟨some 37, .bin .xor (.t 33) (.t 36), none⟩,
    ⟨some 38, .call c_ref2_turn [(.t 37), (.d (N64 12))] [] .any, none⟩,
    ⟨some 39, .iadrS 1 (.t 30) (.d (N64 1)), none⟩,
    ⟨none, .store 1 (.t 39) (.t 38), none⟩] [])
  (.seq (.regD [⟨some 40, .mov (.t 0), none⟩,
    ⟨some 41, .mov (.t 0), none⟩,
    ⟨some 42, .iadrS 1 (.t 41) (.d (N64 0)), none⟩,
    ⟨some 43, .load 1 false (.t 42), none⟩,
    ⟨some 44, .mov (.t 0), none⟩,
    ⟨some 45, .iadrS 1 (.t 44) (.d (N64 1)), none⟩,
    ⟨some 46, .load 1 false (.t 45), none⟩,
    ⟨some 47, .bin .add (.t 43) (.t 46), none⟩,
    ⟨some 48, .iadrS 1 (.t 40) (.d (N64 0)), none⟩,
    ⟨none, .store 1 (.t 48) (.t 47), none⟩] [])
  (.seq (.regD [⟨some 49, .mov (.t 0), none⟩,
    ⟨some 50, .mov (.t 0), none⟩,
    ⟨some 51, .iadrS 1 (.t 50) (.d (N64 3)), none⟩,
    ⟨some 52, .load 1 false (.t 51), none⟩,
    ⟨some 53, .mov (.t 0), none⟩,
    ⟨some 54, .iadrS 1 (.t 53) (.d (N64 0)), none⟩,
    ⟨some 55, .load 1 false (.t 54), none⟩,
    ⟨some 56, .bin .xor (.t 52) (.t 55), none⟩,
    ⟨some 57, .call c_ref2_turn [(.t 56), (.d (N64 8))] [] .any, none⟩,
    ⟨some 58, .iadrS 1 (.t 49) (.d (N64 3)), none⟩,
    ⟨none, .store 1 (.t 58) (.t 57), none⟩] [])
  (.seq (.regD [⟨some 59, .mov (.t 0), none⟩,
    ⟨some 60, .mov (.t 0), none⟩,
    ⟨some 61, .iadrS 1 (.t 60) (.d (N64 2)), none⟩,
    ⟨some 62, .load 1 false (.t 61), none⟩,
    ⟨some 63, .mov (.t 0), none⟩,
    ⟨some 64, .iadrS 1 (.t 63) (.d (N64 3)), none⟩,
    ⟨some 65, .load 1 false (.t 64), none⟩,
    ⟨some 66, .bin .add (.t 62) (.t 65), none⟩,
    ⟨some 67, .iadrS 1 (.t 59) (.d (N64 2)), none⟩,
    ⟨none, .store 1 (.t 67) (.t 66), none⟩] [])
  (.regD [⟨some 68, .mov (.t 0), none⟩,
    ⟨some 69, .mov (.t 0), none⟩,
    ⟨some 70, .iadrS 1 (.t 69) (.d (N64 1)), none⟩,
    ⟨some 71, .load 1 false (.t 70), none⟩,
    ⟨some 72, .mov (.t 0), none⟩,
    ⟨some 73, .iadrS 1 (.t 72) (.d (N64 2)), none⟩,
    ⟨some 74, .load 1 false (.t 73), none⟩,
    ⟨some 75, .bin .xor (.t 71) (.t 74), none⟩,
    ⟨some 76, .call c_ref2_turn [(.t 75), (.d (N64 7))] [] .any, none⟩,
    ⟨some 77, .iadrS 1 (.t 68) (.d (N64 1)), none⟩,
    ⟨none, .store 1 (.t 77) (.t 76), none⟩] []))))))))⟩

set_option maxRecDepth 10000 in
theorem run_stirP (S : Nat → Option Fn) (c : Nat) (hc : S c = some (lift (fn2 G_rotl))) (x : W4) : (E_blend_words_stir c).run S 0 [.ptr 0 0] [.mem false x.cells] = some (.tup [], [.mem false (stir x).cells]) := by
  have h : ∃ ρ A', (E_blend_words_stir c).body.run S 0 ([.ptr 0 0] ++ List.replicate 97 .undef) ⟨[.mem false [W32 x.a, W32 x.b, W32 x.c, W32 x.d]], []⟩ = some (.normal, ρ, A') ∧ A' = ⟨[.mem false (stir x).cells], []⟩ := by
    simp only [List.replicate, List.cons_append, List.nil_append, E_blend_words_stir]
    apply Exists.intro
    apply Exists.intro
    apply And.intro
    repeat' (first
      | with_reducible apply go_seq
      | with_reducible apply go_k
      | with_reducible exact go_kr
      | with_reducible exact go_kx
      | (with_reducible apply go_reg; simp (disch := omega) only [EV, DV, AV, List.getD_cons_succ, List.getD_cons_zero, List.set_cons_succ, List.set_cons_zero, List.length_cons, List.length_nil, List.map_cons, List.map_nil, Option.bind_some, Option.map_some, List.getElem?_cons_succ, List.getElem?_cons_zero, List.cons_append, List.nil_append, ne_eq, not_true_eq_false, not_false_eq_true, Int.reduceNe, gt_iff_lt, ge_iff_le, Nat.reduceSub, Nat.reduceAdd, Nat.reduceMul, Nat.reduceLT, Nat.reduceLeDiff, Nat.reduceEqDiff, Int.reduceLE, Int.reduceLT, Int.reduceToNat, Int.reduceSub, Int.reduceAdd, Int.reduceMul, Int.reduceNeg, Nat.mul_one, Nat.zero_add, Nat.add_zero, and_self, true_and, and_true, if_true, if_false, reduceIte, reduceCtorEq, decide_true, decide_false, Bool.false_eq_true, Bool.not_true, Bool.not_false, List.take_succ_cons, List.take_zero, List.drop_succ_cons, List.drop_zero, List.all_cons, List.all_nil, Bool.and_true, Bool.and_self, W32_add, W32_xor, call2 hc, G_rotl_eq]; exact rfl)
      | (with_reducible apply go_regD; simp (disch := omega) only [EV, DV, AV, List.getD_cons_succ, List.getD_cons_zero, List.set_cons_succ, List.set_cons_zero, List.length_cons, List.length_nil, List.map_cons, List.map_nil, Option.bind_some, Option.map_some, List.getElem?_cons_succ, List.getElem?_cons_zero, List.cons_append, List.nil_append, ne_eq, not_true_eq_false, not_false_eq_true, Int.reduceNe, gt_iff_lt, ge_iff_le, Nat.reduceSub, Nat.reduceAdd, Nat.reduceMul, Nat.reduceLT, Nat.reduceLeDiff, Nat.reduceEqDiff, Int.reduceLE, Int.reduceLT, Int.reduceToNat, Int.reduceSub, Int.reduceAdd, Int.reduceMul, Int.reduceNeg, Nat.mul_one, Nat.zero_add, Nat.add_zero, and_self, true_and, and_true, if_true, if_false, reduceIte, reduceCtorEq, decide_true, decide_false, Bool.false_eq_true, Bool.not_true, Bool.not_false, List.take_succ_cons, List.take_zero, List.drop_succ_cons, List.drop_zero, List.all_cons, List.all_nil, Bool.and_true, Bool.and_self, W32_add, W32_xor, call2 hc, G_rotl_eq]; exact rfl)
      | with_reducible exact go_skip
      | with_reducible exact go_ret
      | with_reducible exact go_exit
      | with_reducible apply go_cond (by simp (disch := omega) only [EV, DV, AV, List.getD_cons_succ, List.getD_cons_zero, List.set_cons_succ, List.set_cons_zero, List.length_cons, List.length_nil, List.map_cons, List.map_nil, Option.bind_some, Option.map_some, List.getElem?_cons_succ, List.getElem?_cons_zero, List.cons_append, List.nil_append, ne_eq, not_true_eq_false, not_false_eq_true, Int.reduceNe, gt_iff_lt, ge_iff_le, Nat.reduceSub, Nat.reduceAdd, Nat.reduceMul, Nat.reduceLT, Nat.reduceLeDiff, Nat.reduceEqDiff, Int.reduceLE, Int.reduceLT, Int.reduceToNat, Int.reduceSub, Int.reduceAdd, Int.reduceMul, Int.reduceNeg, Nat.mul_one, Nat.zero_add, Nat.add_zero, and_self, true_and, and_true, if_true, if_false, reduceIte, reduceCtorEq, decide_true, decide_false, Bool.false_eq_true, Bool.not_true, Bool.not_false, List.take_succ_cons, List.take_zero, List.drop_succ_cons, List.drop_zero, List.all_cons, List.all_nil, Bool.and_true, Bool.and_self, W32_add, W32_xor, call2 hc, G_rotl_eq]; exact rfl)
      | with_reducible apply go_t
      | with_reducible apply go_f
      | with_reducible apply go_block
      | with_reducible exact go_bn
      | with_reducible exact go_br
      | with_reducible exact go_be
      | with_reducible exact go_bx rfl
      | with_reducible apply go_gh (by simp (disch := omega) only [EV, DV, AV, List.getD_cons_succ, List.getD_cons_zero, List.set_cons_succ, List.set_cons_zero, List.length_cons, List.length_nil, List.map_cons, List.map_nil, Option.bind_some, Option.map_some, List.getElem?_cons_succ, List.getElem?_cons_zero, List.cons_append, List.nil_append, ne_eq, not_true_eq_false, not_false_eq_true, Int.reduceNe, gt_iff_lt, ge_iff_le, Nat.reduceSub, Nat.reduceAdd, Nat.reduceMul, Nat.reduceLT, Nat.reduceLeDiff, Nat.reduceEqDiff, Int.reduceLE, Int.reduceLT, Int.reduceToNat, Int.reduceSub, Int.reduceAdd, Int.reduceMul, Int.reduceNeg, Nat.mul_one, Nat.zero_add, Nat.add_zero, and_self, true_and, and_true, if_true, if_false, reduceIte, reduceCtorEq, decide_true, decide_false, Bool.false_eq_true, Bool.not_true, Bool.not_false, List.take_succ_cons, List.take_zero, List.drop_succ_cons, List.drop_zero, List.all_cons, List.all_nil, Bool.and_true, Bool.and_self, W32_add, W32_xor, call2 hc, G_rotl_eq]; exact rfl))
    rfl
  obtain ⟨ρ, A', h, rfl⟩ := h
  exact go_fn h (.inr rfl) rfl (Nat.zero_le _) rfl rfl rfl

set_option maxRecDepth 10000 in
theorem run_stirS (S : Nat → Option Fn) (c : Nat) (hc : S c = some (lift (fn2 G_rotl))) (x : W4) : (E_ref2_stir c).run S 0 [.loc 0 0 1 4] [.mem false x.cells] = some (.tup [], [.mem false (stir x).cells]) := by
  have h : ∃ ρ A', (E_ref2_stir c).body.run S 0 ([.loc 0 0 1 4] ++ List.replicate 77 .undef) ⟨[.mem false [W32 x.a, W32 x.b, W32 x.c, W32 x.d]], []⟩ = some (.normal, ρ, A') ∧ A' = ⟨[.mem false (stir x).cells], []⟩ := by
    simp only [List.replicate, List.cons_append, List.nil_append, E_ref2_stir]
    apply Exists.intro
    apply Exists.intro
    apply And.intro
    repeat' (first
      | with_reducible apply go_seq
      | with_reducible apply go_k
      | with_reducible exact go_kr
      | with_reducible exact go_kx
      | (with_reducible apply go_reg; simp (disch := omega) only [EV, DV, AV, List.getD_cons_succ, List.getD_cons_zero, List.set_cons_succ, List.set_cons_zero, List.length_cons, List.length_nil, List.map_cons, List.map_nil, Option.bind_some, Option.map_some, List.getElem?_cons_succ, List.getElem?_cons_zero, List.cons_append, List.nil_append, ne_eq, not_true_eq_false, not_false_eq_true, Int.reduceNe, gt_iff_lt, ge_iff_le, Nat.reduceSub, Nat.reduceAdd, Nat.reduceMul, Nat.reduceLT, Nat.reduceLeDiff, Nat.reduceEqDiff, Int.reduceLE, Int.reduceLT, Int.reduceToNat, Int.reduceSub, Int.reduceAdd, Int.reduceMul, Int.reduceNeg, Nat.mul_one, Nat.zero_add, Nat.add_zero, and_self, true_and, and_true, if_true, if_false, reduceIte, reduceCtorEq, decide_true, decide_false, Bool.false_eq_true, Bool.not_true, Bool.not_false, List.take_succ_cons, List.take_zero, List.drop_succ_cons, List.drop_zero, List.all_cons, List.all_nil, Bool.and_true, Bool.and_self, W32_add, W32_xor, call2 hc, G_rotl_eq]; exact rfl)
      | (with_reducible apply go_regD; simp (disch := omega) only [EV, DV, AV, List.getD_cons_succ, List.getD_cons_zero, List.set_cons_succ, List.set_cons_zero, List.length_cons, List.length_nil, List.map_cons, List.map_nil, Option.bind_some, Option.map_some, List.getElem?_cons_succ, List.getElem?_cons_zero, List.cons_append, List.nil_append, ne_eq, not_true_eq_false, not_false_eq_true, Int.reduceNe, gt_iff_lt, ge_iff_le, Nat.reduceSub, Nat.reduceAdd, Nat.reduceMul, Nat.reduceLT, Nat.reduceLeDiff, Nat.reduceEqDiff, Int.reduceLE, Int.reduceLT, Int.reduceToNat, Int.reduceSub, Int.reduceAdd, Int.reduceMul, Int.reduceNeg, Nat.mul_one, Nat.zero_add, Nat.add_zero, and_self, true_and, and_true, if_true, if_false, reduceIte, reduceCtorEq, decide_true, decide_false, Bool.false_eq_true, Bool.not_true, Bool.not_false, List.take_succ_cons, List.take_zero, List.drop_succ_cons, List.drop_zero, List.all_cons, List.all_nil, Bool.and_true, Bool.and_self, W32_add, W32_xor, call2 hc, G_rotl_eq]; exact rfl)
      | with_reducible exact go_skip
      | with_reducible exact go_ret
      | with_reducible exact go_exit
      | with_reducible apply go_cond (by simp (disch := omega) only [EV, DV, AV, List.getD_cons_succ, List.getD_cons_zero, List.set_cons_succ, List.set_cons_zero, List.length_cons, List.length_nil, List.map_cons, List.map_nil, Option.bind_some, Option.map_some, List.getElem?_cons_succ, List.getElem?_cons_zero, List.cons_append, List.nil_append, ne_eq, not_true_eq_false, not_false_eq_true, Int.reduceNe, gt_iff_lt, ge_iff_le, Nat.reduceSub, Nat.reduceAdd, Nat.reduceMul, Nat.reduceLT, Nat.reduceLeDiff, Nat.reduceEqDiff, Int.reduceLE, Int.reduceLT, Int.reduceToNat, Int.reduceSub, Int.reduceAdd, Int.reduceMul, Int.reduceNeg, Nat.mul_one, Nat.zero_add, Nat.add_zero, and_self, true_and, and_true, if_true, if_false, reduceIte, reduceCtorEq, decide_true, decide_false, Bool.false_eq_true, Bool.not_true, Bool.not_false, List.take_succ_cons, List.take_zero, List.drop_succ_cons, List.drop_zero, List.all_cons, List.all_nil, Bool.and_true, Bool.and_self, W32_add, W32_xor, call2 hc, G_rotl_eq]; exact rfl)
      | with_reducible apply go_t
      | with_reducible apply go_f
      | with_reducible apply go_block
      | with_reducible exact go_bn
      | with_reducible exact go_br
      | with_reducible exact go_be
      | with_reducible exact go_bx rfl
      | with_reducible apply go_gh (by simp (disch := omega) only [EV, DV, AV, List.getD_cons_succ, List.getD_cons_zero, List.set_cons_succ, List.set_cons_zero, List.length_cons, List.length_nil, List.map_cons, List.map_nil, Option.bind_some, Option.map_some, List.getElem?_cons_succ, List.getElem?_cons_zero, List.cons_append, List.nil_append, ne_eq, not_true_eq_false, not_false_eq_true, Int.reduceNe, gt_iff_lt, ge_iff_le, Nat.reduceSub, Nat.reduceAdd, Nat.reduceMul, Nat.reduceLT, Nat.reduceLeDiff, Nat.reduceEqDiff, Int.reduceLE, Int.reduceLT, Int.reduceToNat, Int.reduceSub, Int.reduceAdd, Int.reduceMul, Int.reduceNeg, Nat.mul_one, Nat.zero_add, Nat.add_zero, and_self, true_and, and_true, if_true, if_false, reduceIte, reduceCtorEq, decide_true, decide_false, Bool.false_eq_true, Bool.not_true, Bool.not_false, List.take_succ_cons, List.take_zero, List.drop_succ_cons, List.drop_zero, List.all_cons, List.all_nil, Bool.and_true, Bool.and_self, W32_add, W32_xor, call2 hc, G_rotl_eq]; exact rfl))
    rfl
  obtain ⟨ρ, A', h, rfl⟩ := h
  exact go_fn h (.inr rfl) rfl (Nat.zero_le _) rfl rfl rfl

end Ev

namespace Ev
open Go

theorem els_b (A : St) (o : Own) (y : List UInt8) : A.els 1 (.sl o 1 (bytesD y)) = some (bytesD y) := by simp [St.els]

theorem appB (A : St) (k e : Nat) (o : Own) (l y : List UInt8) (hk : A.toks[k]? = some e) (hl : l.length + y.length ≤ 140737488355328) :
    appD A false .tok 1 1 (.sl (.tok k e) 1 (bytesD l)) (.sl o 1 (bytesD y)) = some (.sl (.tok k (e + y.length)) 1 (bytesD (l ++ y)), { A with toks := A.toks.set k (e + y.length) }) := by
  have h1 : (bytesD y).all (fun el => el.all D.pc) = true := pc_bytesD y
  unfold appD
  simp only [appEls, Bool.false_eq_true, if_false, els_b, h1, if_true, bytesD_length, Nat.mul_one, hl, and_self, hk, bytesD_append]

theorem appBs (A : St) (k e : Nat) (l y : List UInt8) (hk : A.toks[k]? = some e) (hl : l.length + y.length ≤ 140737488355328) :
    appD A true .tok 1 1 (.sl (.tok k e) 1 (bytesD l)) (.str y) = some (.sl (.tok k (e + y.length)) 1 (bytesD (l ++ y)), { A with toks := A.toks.set k (e + y.length) }) := by
  have h1 : (bytesD y).all (fun el => el.all D.pc) = true := pc_bytesD y
  unfold appD
  simp only [appEls, if_true, h1, bytesD_length, Nat.mul_one, hl, and_self, hk, bytesD_append]

/-- bytes.Clone -/
def E_bytes_Clone : EFn := ⟨8, [.tmp 2],
  (.seq (.reg [⟨some 2, .mov (.d (.sl .nilk 1 [])), none⟩])
  (.seq (.seq (.reg [⟨some 3, .mov (.t 0), none⟩,
    ⟨some 4, .eqnil false (.t 3) (.d (.sl .nilk 1 [])), none⟩])
  (.cond (.t 4) (.seq (.reg [⟨some 2, .mov (.d (.sl .nilk 1 [])), none⟩])
  .ret)
  .skip))
  (.seq (.reg [⟨some 5, .bsl .any 1 [B8 0] 0 [], none⟩,
    ⟨some 6, .mov (.t 0), none⟩,
    ⟨some 7, .app false .trk 1 1 (.t 5) (.t 6), none⟩,
    ⟨some 2, .mov (.t 7), none⟩])
  .ret)))⟩

def F_clone : Fn := fun args B => match args, B with
  | [.sl .any 1 els], [] => match unB els with
    | some l => if l.length ≤ 140737488355328 then some (.sl .fresh 1 (bytesD l), []) else none
    | none => none
  | _, _ => none

theorem run_clone_nil (S : Nat → Option Fn) : E_bytes_Clone.run S 0 [.sl .nilk 1 []] [] = some (.sl .nilk 1 [], []) := rfl

theorem run_clone (S : Nat → Option Fn) (l : List UInt8) (hl : l.length ≤ 140737488355328) : E_bytes_Clone.run S 0 [.sl .nn 1 (bytesD l)] [] = some (.sl .fresh 1 (bytesD l), []) := by
  have h0 : appD ⟨[], []⟩ false .trk 1 1 (.sl .full 1 []) (.sl .nn 1 (bytesD l)) = some (.loc 0 0 1 l.length, ⟨[.mem false (bytesC l)], []⟩) := by
    have h1 : (bytesD l).all (fun el => el.all D.pc) = true := pc_bytesD l
    unfold appD
    simp only [appEls, Bool.false_eq_true, if_false, els_b, h1, if_true, bytesD_length, Nat.mul_one, List.length_nil, Nat.zero_add, hl, and_self, St.newSl, bytesC_flat, List.nil_append]
  have h : ∃ ρ A', E_bytes_Clone.body.run S 0 ([.sl .nn 1 (bytesD l)] ++ List.replicate 7 .undef) ⟨[], []⟩ = some (.ret, ρ, A') ∧ ρ.getD 2 .undef = .loc 0 0 1 l.length ∧ A' = ⟨[.mem false (bytesC l)], []⟩ := by
    simp only [List.replicate, List.cons_append, List.nil_append, E_bytes_Clone]
    apply Exists.intro
    apply Exists.intro
    apply And.intro
    repeat' (first
      | with_reducible apply go_seq
      | with_reducible apply go_k
      | with_reducible exact go_kr
      | with_reducible exact go_kx
      | (with_reducible apply go_reg; simp (disch := omega) only [EV, DV, AV, List.getD_cons_succ, List.getD_cons_zero, List.set_cons_succ, List.set_cons_zero, List.length_cons, List.length_nil, List.map_cons, List.map_nil, Option.bind_some, Option.map_some, List.getElem?_cons_succ, List.getElem?_cons_zero, List.cons_append, List.nil_append, ne_eq, not_true_eq_false, not_false_eq_true, Int.reduceNe, gt_iff_lt, ge_iff_le, Nat.reduceSub, Nat.reduceAdd, Nat.reduceMul, Nat.reduceLT, Nat.reduceLeDiff, Nat.reduceEqDiff, Int.reduceLE, Int.reduceLT, Int.reduceToNat, Int.reduceSub, Int.reduceAdd, Int.reduceMul, Int.reduceNeg, Nat.mul_one, Nat.zero_add, Nat.add_zero, and_self, true_and, and_true, if_true, if_false, reduceIte, reduceCtorEq, decide_true, decide_false, Bool.false_eq_true, Bool.not_true, Bool.not_false, List.take_succ_cons, List.take_zero, List.drop_succ_cons, List.drop_zero, List.all_cons, List.all_nil, Bool.and_true, Bool.and_self, eqnilD, putCells, chunks, St.newSl, List.replicate, List.flatten, h0]; exact rfl)
      | (with_reducible apply go_regD; simp (disch := omega) only [EV, DV, AV, List.getD_cons_succ, List.getD_cons_zero, List.set_cons_succ, List.set_cons_zero, List.length_cons, List.length_nil, List.map_cons, List.map_nil, Option.bind_some, Option.map_some, List.getElem?_cons_succ, List.getElem?_cons_zero, List.cons_append, List.nil_append, ne_eq, not_true_eq_false, not_false_eq_true, Int.reduceNe, gt_iff_lt, ge_iff_le, Nat.reduceSub, Nat.reduceAdd, Nat.reduceMul, Nat.reduceLT, Nat.reduceLeDiff, Nat.reduceEqDiff, Int.reduceLE, Int.reduceLT, Int.reduceToNat, Int.reduceSub, Int.reduceAdd, Int.reduceMul, Int.reduceNeg, Nat.mul_one, Nat.zero_add, Nat.add_zero, and_self, true_and, and_true, if_true, if_false, reduceIte, reduceCtorEq, decide_true, decide_false, Bool.false_eq_true, Bool.not_true, Bool.not_false, List.take_succ_cons, List.take_zero, List.drop_succ_cons, List.drop_zero, List.all_cons, List.all_nil, Bool.and_true, Bool.and_self, eqnilD, putCells, chunks, St.newSl, List.replicate, List.flatten, h0]; exact rfl)
      | with_reducible exact go_skip
      | with_reducible exact go_ret
      | with_reducible exact go_exit
      | with_reducible apply go_cond (by simp (disch := omega) only [EV, DV, AV, List.getD_cons_succ, List.getD_cons_zero, List.set_cons_succ, List.set_cons_zero, List.length_cons, List.length_nil, List.map_cons, List.map_nil, Option.bind_some, Option.map_some, List.getElem?_cons_succ, List.getElem?_cons_zero, List.cons_append, List.nil_append, ne_eq, not_true_eq_false, not_false_eq_true, Int.reduceNe, gt_iff_lt, ge_iff_le, Nat.reduceSub, Nat.reduceAdd, Nat.reduceMul, Nat.reduceLT, Nat.reduceLeDiff, Nat.reduceEqDiff, Int.reduceLE, Int.reduceLT, Int.reduceToNat, Int.reduceSub, Int.reduceAdd, Int.reduceMul, Int.reduceNeg, Nat.mul_one, Nat.zero_add, Nat.add_zero, and_self, true_and, and_true, if_true, if_false, reduceIte, reduceCtorEq, decide_true, decide_false, Bool.false_eq_true, Bool.not_true, Bool.not_false, List.take_succ_cons, List.take_zero, List.drop_succ_cons, List.drop_zero, List.all_cons, List.all_nil, Bool.and_true, Bool.and_self, eqnilD, putCells, chunks, St.newSl, List.replicate, List.flatten, h0]; exact rfl)
      | with_reducible apply go_t
      | with_reducible apply go_f
      | with_reducible apply go_block
      | with_reducible exact go_bn
      | with_reducible exact go_br
      | with_reducible exact go_be
      | with_reducible exact go_bx rfl
      | with_reducible apply go_gh (by simp (disch := omega) only [EV, DV, AV, List.getD_cons_succ, List.getD_cons_zero, List.set_cons_succ, List.set_cons_zero, List.length_cons, List.length_nil, List.map_cons, List.map_nil, Option.bind_some, Option.map_some, List.getElem?_cons_succ, List.getElem?_cons_zero, List.cons_append, List.nil_append, ne_eq, not_true_eq_false, not_false_eq_true, Int.reduceNe, gt_iff_lt, ge_iff_le, Nat.reduceSub, Nat.reduceAdd, Nat.reduceMul, Nat.reduceLT, Nat.reduceLeDiff, Nat.reduceEqDiff, Int.reduceLE, Int.reduceLT, Int.reduceToNat, Int.reduceSub, Int.reduceAdd, Int.reduceMul, Int.reduceNeg, Nat.mul_one, Nat.zero_add, Nat.add_zero, and_self, true_and, and_true, if_true, if_false, reduceIte, reduceCtorEq, decide_true, decide_false, Bool.false_eq_true, Bool.not_true, Bool.not_false, List.take_succ_cons, List.take_zero, List.drop_succ_cons, List.drop_zero, List.all_cons, List.all_nil, Bool.and_true, Bool.and_self, eqnilD, putCells, chunks, St.newSl, List.replicate, List.flatten, h0]; exact rfl))
    exact ⟨rfl, rfl⟩
  obtain ⟨ρ, A', h, h2, rfl⟩ := h
  refine go_fn h (.inl rfl) (rs := [.sl .fresh 1 (bytesD l)]) ?_ (Nat.le_refl _) rfl rfl rfl
  show ([ERes.tmp 2].mapM fun r => (r.get ρ ⟨[.mem false (bytesC l)], []⟩).bind (outRes ⟨[.mem false (bytesC l)], []⟩ 0)) = _
  simp only [List.mapM_cons, List.mapM_nil, ERes.get, h2, Option.bind_some, outRes, List.getElem?_cons_zero, bytesC_length, Nat.mul_one, Nat.le_refl, pc_bytesC, bytesD_chunks, Nat.zero_lt_one, and_self, if_true, bind, pure]

theorem con_clone {P : Program} {S : Nat → Option Fn} (hm : P.follows .mixedOrders = true) {f : Nat} {fn : Func} (hf : P.funcs[f]? = some fn) (hok : okFn P fn E_bytes_Clone = true) (hS : S f = some (lift F_clone)) : Con P S f := by
  intro F hF args B r B' hr g w vs I hO hsz hRv
  rw [hS] at hF
  cases hF
  unfold lift F_clone at hr
  split at hr
  · rename_i els hargs hB
    split at hr
    · rename_i l hl
      split at hr
      · rename_i hlen
        simp only [Option.some.injEq, Prod.mk.injEq] at hr
        obtain ⟨rfl, rfl⟩ := hr
        have hB' : B = [] := by simpa using hB
        subst hB'
        have he := of_unB hl
        subst he
        have hC : ∀ f', f' ∈ calleesOf E_bytes_Clone.body → Con P S f' := fun f' h => by simp [E_bytes_Clone, calleesOf, calleeOf] at h
        match args, hargs, hsz, hRv with
        | [x], hargs, hsz, hRv =>
          simp only [List.map_cons, List.map_nil, List.cons.injEq, and_true] at hargs
          obtain ⟨v, rfl⟩ : ∃ v, vs = #[v] := by
            match vs, hsz with
            | ⟨[v]⟩, _ => exact ⟨v, rfl⟩
            | ⟨[]⟩, h => simp at h
            | ⟨_ :: _ :: _⟩, h => simp at h
          have hR : R g v (.sl .any 1 (bytesD l)) := by rw [← hargs]; exact (hRv 0 v x rfl rfl).nm
          obtain ⟨a, cap, hv, hcap, _, _, _, _, hnone, _⟩ := hR.sl_inv
          cases a with
          | none =>
            have hc := hnone rfl
            have hl0 : l = [] := by rw [bytesD_length] at hcap; exact List.eq_nil_of_length_eq_zero (by omega)
            subst hl0
            have hR2 : R g v (.sl .nilk 1 []) := R.own hR (by rw [hv, hc]; rfl)
            refine (fn_sound hm hf hok hC (run_clone_nil S) g w #[v] I hO rfl (fun i v' d h1 h2 => ?_)).mono ?_
            · cases i with
              | zero => simp at h1 h2; subst h1; subst h2; exact hR2
              | succ i => simp at h1
            · rintro e' w' ⟨v', g', rfl, I', hO', hl', F', hR'⟩
              refine ⟨v', g', rfl, I', hO', hl', F', ?_⟩
              obtain ⟨hR', _⟩ : R g' v' (.sl .nilk 1 []) ∧ _ := hR'
              obtain ⟨_, _, _, _, hn, _⟩ := hR'.sl_inv
              exact .inl ⟨rfl, none, hn, fun _ _ => rfl⟩
          | some a0 =>
            have hR2 : R g v (.sl .nn 1 (bytesD l)) := R.own hR ⟨a0, _, _, hv⟩
            refine (fn_sound hm hf hok hC (run_clone S l hlen) g w #[v] I hO rfl (fun i v' d h1 h2 => ?_)).mono ?_
            · cases i with
              | zero => simp at h1 h2; subst h1; subst h2; exact hR2
              | succ i => simp at h1
            · rintro e' w' h
              exact h
        | [], hargs, _, _ => simp at hargs
        | _ :: _ :: _, hargs, _, _ => simp at hargs
      · cases hr
    · cases hr
  · cases hr

end Ev

namespace Ev
open Go

-- writes 4 13 14 15 16 17 18 19 of 76
def L_blend_Sum_0 : ECode :=
  (.seq (.seq (.reg [⟨some 13, .mov (.t 4), none⟩,
    ⟨some 14, .len (.t 13), none⟩,
    ⟨some 15, .bin .rem (.t 14) (.d (N64 8)), none⟩,
    ⟨some 16, .bin .neq (.t 15) (.d (N64 0)), none⟩])
  (.cond (.t 16) .skip
  (.exit 0)))
  (.block 1 (.reg [⟨some 17, .mov (.t 4), none⟩,
    ⟨some 18, .bsl .any 1 [B8 0] 1 [(0, (.d (B8 0)))], none⟩,
    ⟨some 19, .app false .tok 1 1 (.t 17) (.t 18), none⟩,
    ⟨some 4, .mov (.t 19), none⟩])))

-- writes 4 5 20 21 22 23 24 25 26 27 28 29 30 31 32 33 of 76
def L_blend_Sum_1 : ECode :=
  (.seq (.reg [⟨some 21, .bin .lss (.t 20) (.d (N64 8)), none⟩])
  (.seq (.cond (.t 21) .skip
  (.exit 2))
  (.seq (.block 3 (.seq (.reg [⟨some 22, .mov (.t 20), none⟩,
    ⟨some 5, .mov (.t 22), none⟩])
  (.reg [⟨some 23, .mov (.t 4), none⟩,
    ⟨some 24, .mov (.t 0), none⟩,
    ⟨some 25, .len (.t 24), none⟩,
    ⟨some 26, .cv .any (.toInt .u64) (.t 25), none⟩,
    ⟨some 27, .mov (.t 5), none⟩,
    ⟨some 28, .bin .mul (.d (N64 8)) (.t 27), none⟩,
    ⟨some 29, .bin .shr (.t 26) (.t 28), none⟩,
    ⟨some 30, .cv .any (.toInt .u8) (.t 29), none⟩,
    ⟨some 31, .bsl .any 1 [B8 0] 1 [(0, (.t 30))], none⟩,
    ⟨some 32, .app false .tok 1 1 (.t 23) (.t 31), none⟩,
    ⟨some 4, .mov (.t 32), none⟩])))
  (.reg [⟨some 33, .bin .add (.t 20) (.d (N64 1)), none⟩,
    ⟨some 20, .mov (.t 33), none⟩]))))

-- writes 52 53 54 55 of 76
def L_blend_Sum_2 (c_blend_words_stir : Nat) : ECode :=
  (.seq (.reg [⟨some 53, .bin .lss (.t 52) (.d (N64 3)), none⟩])
  (.seq (.cond (.t 53) .skip
  (.exit 6))
  (.seq (.block 7 (.reg [⟨some 54, .call c_blend_words_stir [(.t 3)] [0] .any, none⟩]))
  (.reg [⟨some 55, .bin .add (.t 52) (.d (N64 1)), none⟩,
    ⟨some 52, .mov (.t 55), none⟩]))))

-- writes 4 34 35 36 37 38 39 40 41 42 43 44 45 46 47 48 49 50 51 52 53 54 55 of 76
def L_blend_Sum_3 (c_blend_low : Nat) (c_blend_words_stir : Nat) : ECode :=
  (.seq (.seq (.reg [⟨some 34, .mov (.t 4), none⟩,
    ⟨some 35, .len (.t 34), none⟩,
    ⟨some 36, .bin .gtr (.t 35) (.d (N64 0)), none⟩])
  (.cond (.t 36) .skip
  (.exit 4)))
  (.seq (.block 5 (.seq (.regD [⟨some 39, .iadrA 1 4 (.t 3) (.d (N64 0)), none⟩,
    ⟨some 40, .load 1 false (.t 39), none⟩,
    ⟨some 41, .mov (.t 4), none⟩,
    ⟨some 42, .call c_blend_low [(.t 41)] [] .any, none⟩,
    ⟨some 43, .bin .xor (.t 40) (.t 42), none⟩,
    ⟨some 44, .iadrA 1 4 (.t 3) (.d (N64 0)), none⟩,
    ⟨none, .store 1 (.t 44) (.t 43), none⟩] [])
  (.seq (.regD [⟨some 45, .iadrA 1 4 (.t 3) (.d (N64 3)), none⟩,
    ⟨some 46, .load 1 false (.t 45), none⟩,
    ⟨some 47, .mov (.t 4), none⟩,
    ⟨some 48, .slS 1 (.t 47) (some (.d (N64 4))) none, none⟩,
    ⟨some 49, .call c_blend_low [(.t 48)] [] .any, none⟩,
    ⟨some 50, .bin .xor (.t 46) (.t 49), none⟩,
    ⟨some 51, .iadrA 1 4 (.t 3) (.d (N64 3)), none⟩,
    ⟨none, .store 1 (.t 51) (.t 50), none⟩] [])
  (.seq (.reg [⟨some 52, .mov (.d (N64 0)), none⟩])
  (.block 6 (.loop (L_blend_Sum_2 c_blend_words_stir)))))))
  (.reg [⟨some 37, .mov (.t 4), none⟩,
    ⟨some 38, .slS 1 (.t 37) (some (.d (N64 8))) none, none⟩,
    ⟨some 4, .mov (.t 38), none⟩])))

-- writes 56 57 58 59 of 76
def L_blend_Sum_4 (c_blend_words_stir : Nat) : ECode :=
  (.seq (.reg [⟨some 57, .bin .lss (.t 56) (.d (N64 8)), none⟩])
  (.seq (.cond (.t 57) .skip
  (.exit 8))
  (.seq (.block 9 (.reg [⟨some 58, .call c_blend_words_stir [(.t 3)] [0] .any, none⟩]))
  (.reg [⟨some 59, .bin .add (.t 56) (.d (N64 1)), none⟩,
    ⟨some 56, .mov (.t 59), none⟩]))))

-- writes 7 60 61 62 63 64 65 66 67 68 69 70 71 72 73 74 of 76
def L_blend_Sum_5 : ECode :=
  (.seq (.reg [⟨some 61, .bin .lss (.t 60) (.d (N64 16)), none⟩])
  (.seq (.cond (.t 61) .skip
  (.exit 10))
  (.seq (.block 11 (.seq (.reg [⟨some 62, .mov (.t 60), none⟩,
    ⟨some 7, .mov (.t 62), none⟩])
  (.reg [⟨some 63, .mov (.t 7), none⟩,
    ⟨some 64, .mov (.t 7), none⟩,
    ⟨some 65, .bin .quo (.t 64) (.d (N64 4)), none⟩,
    ⟨some 66, .iadrA 1 4 (.t 3) (.t 65), none⟩,
    ⟨some 67, .load 1 false (.t 66), none⟩,
    ⟨some 68, .mov (.t 7), none⟩,
    ⟨some 69, .bin .rem (.t 68) (.d (N64 4)), none⟩,
    ⟨some 70, .bin .mul (.d (N64 8)) (.t 69), none⟩,
    ⟨some 71, .bin .shr (.t 67) (.t 70), none⟩,
    ⟨some 72, .cv .any (.toInt .u8) (.t 71), none⟩,
    ⟨some 73, .iadrA 1 16 (.t 6) (.t 63), none⟩,
    ⟨none, .store 1 (.t 73) (.t 72), none⟩])))
  (.reg [⟨some 74, .bin .add (.t 60) (.d (N64 1)), none⟩,
    ⟨some 60, .mov (.t 74), none⟩]))))

/-- claviger/blend.Sum -/
def E_blend_Sum (c_bytes_Clone : Nat) (c_blend_low : Nat) (c_blend_words_stir : Nat) : EFn := ⟨76, [.cell 2 16 true],
  (.seq (.reg [⟨some 2, .alloc (List.replicate 16 (B8 0)), none⟩])
  (.seq (.reg [⟨some 8, .build (List.replicate 4 (W32 0)) [(0, 1, (.d (W32 1668047222))), (1, 1, (.d (W32 1768383858))), (2, 1, (.d (W32 1801807216))), (3, 1, (.d (W32 1935763045)))], none⟩,
    ⟨some 3, .alloc (List.replicate 4 (W32 0)), none⟩,
    ⟨none, .store 4 (.t 3) (.t 8), none⟩])
  (.seq (.reg [⟨some 9, .mov (.t 0), none⟩,
    ⟨some 10, .call c_bytes_Clone [(.t 9)] [] .tok, none⟩,
    ⟨some 11, .bsl .any 1 [B8 0] 1 [(0, (.d (B8 128)))], none⟩,
    ⟨some 12, .app false .tok 1 1 (.t 10) (.t 11), none⟩,
    ⟨some 4, .mov (.t 12), none⟩])
  (.seq (.block 0 (.loop (L_blend_Sum_0)))
  (.seq (.seq (.reg [⟨some 20, .mov (.d (N64 0)), none⟩])
  (.block 2 (.loop (L_blend_Sum_1))))
  (.seq (.block 4 (.loop (L_blend_Sum_3 c_blend_low c_blend_words_stir)))
  (.seq (.seq (.reg [⟨some 56, .mov (.d (N64 0)), none⟩])
  (.block 8 (.loop (L_blend_Sum_4 c_blend_words_stir))))
  (.seq (.reg [⟨some 6, .alloc (List.replicate 16 (B8 0)), none⟩])
  (.seq (.seq (.reg [⟨some 60, .mov (.d (N64 0)), none⟩])
  (.block 10 (.loop (L_blend_Sum_5))))
  (.seq (.reg [⟨some 75, .load 16 true (.t 6), none⟩,
    ⟨none, .store 16 (.t 2) (.t 75), none⟩])
  .ret))))))))))⟩

theorem N64_len (l : List (List D)) : lenD (.sl .any 1 l) = some (N64 l.length) := rfl

theorem loop_pad (S : Nat → Option Fn) (n : Nat) (B : List Blk) : ∀ (k m : Nat) (l : List UInt8) (ρ : List D), k = (8 - l.length % 8) % 8 → k < m → l.length + k ≤ 140737488355328 → ρ.length = 76 → ρ.getD 4 .undef = .sl (.tok 0 l.length) 1 (bytesD l) →
    wpR (L_blend_Sum_0.run S n) m ρ ⟨B, [l.length]⟩ (fun x ρ' A' => x = .exit 0 ∧ A' = ⟨B, [l.length + k]⟩ ∧ ρ'.length = 76 ∧ ρ'.getD 4 .undef = .sl (.tok 0 (l.length + k)) 1 (bytesD (l ++ List.replicate k 0)) ∧
      ∀ t, [4, 13, 14, 15, 16, 17, 18, 19].contains t = false → ρ'.getD t .undef = ρ.getD t .undef) := by
  intro k
  induction k with
  | zero =>
    intro m l ρ hk hm hl hρ h4
    obtain ⟨m, rfl⟩ : ∃ m', m = m' + 1 := ⟨m - 1, by omega⟩
    have h8 : (l.length : Int).tmod 8 = 0 := by rw [show (8 : Int) = ((8 : Nat) : Int) from rfl, ← Int.ofNat_tmod]; omega
    apply w_round
    unfold L_blend_Sum_0
    repeat' (first
      | with_reducible apply w_seq
      | with_reducible apply w_n
      | with_reducible apply w_r
      | with_reducible apply w_x
      | (with_reducible apply w_reg; (simp (disch := (first | omega | (simp only [List.length_set]; omega) | rfl)) only [EV, DV, AV, gs_eq, gs_ne, List.length_set, List.length_cons, List.length_nil, List.map_cons, List.map_nil, Option.bind_some, Option.map_some, List.getElem?_cons_succ, List.getElem?_cons_zero, List.cons_append, List.nil_append, ne_eq, not_true_eq_false, not_false_eq_true, Int.reduceNe, gt_iff_lt, ge_iff_le, Nat.reduceSub, Nat.reduceAdd, Nat.reduceMul, Nat.reduceLT, Nat.reduceLeDiff, Nat.reduceEqDiff, Int.reduceLE, Int.reduceLT, Int.reduceToNat, Int.reduceSub, Int.reduceAdd, Int.reduceMul, Int.reduceNeg, Nat.mul_one, Nat.zero_add, Nat.add_zero, and_self, true_and, and_true, if_true, if_false, reduceIte, reduceCtorEq, decide_true, decide_false, Bool.false_eq_true, Bool.not_true, Bool.not_false, List.take_succ_cons, List.take_zero, List.drop_succ_cons, List.drop_zero, List.all_cons, List.all_nil, Bool.and_true, Bool.and_self, h4, bytesD_length, N64_rem, N64_neq, h8]; exact rfl))
      | (with_reducible apply w_regD; (simp (disch := (first | omega | (simp only [List.length_set]; omega) | rfl)) only [EV, DV, AV, gs_eq, gs_ne, List.length_set, List.length_cons, List.length_nil, List.map_cons, List.map_nil, Option.bind_some, Option.map_some, List.getElem?_cons_succ, List.getElem?_cons_zero, List.cons_append, List.nil_append, ne_eq, not_true_eq_false, not_false_eq_true, Int.reduceNe, gt_iff_lt, ge_iff_le, Nat.reduceSub, Nat.reduceAdd, Nat.reduceMul, Nat.reduceLT, Nat.reduceLeDiff, Nat.reduceEqDiff, Int.reduceLE, Int.reduceLT, Int.reduceToNat, Int.reduceSub, Int.reduceAdd, Int.reduceMul, Int.reduceNeg, Nat.mul_one, Nat.zero_add, Nat.add_zero, and_self, true_and, and_true, if_true, if_false, reduceIte, reduceCtorEq, decide_true, decide_false, Bool.false_eq_true, Bool.not_true, Bool.not_false, List.take_succ_cons, List.take_zero, List.drop_succ_cons, List.drop_zero, List.all_cons, List.all_nil, Bool.and_true, Bool.and_self, h4, bytesD_length, N64_rem, N64_neq, h8]; exact rfl))
      | with_reducible apply w_skip
      | with_reducible apply w_ret
      | with_reducible apply w_exit
      | (with_reducible apply w_cond; (simp (disch := (first | omega | (simp only [List.length_set]; omega) | rfl)) only [EV, DV, AV, gs_eq, gs_ne, List.length_set, List.length_cons, List.length_nil, List.map_cons, List.map_nil, Option.bind_some, Option.map_some, List.getElem?_cons_succ, List.getElem?_cons_zero, List.cons_append, List.nil_append, ne_eq, not_true_eq_false, not_false_eq_true, Int.reduceNe, gt_iff_lt, ge_iff_le, Nat.reduceSub, Nat.reduceAdd, Nat.reduceMul, Nat.reduceLT, Nat.reduceLeDiff, Nat.reduceEqDiff, Int.reduceLE, Int.reduceLT, Int.reduceToNat, Int.reduceSub, Int.reduceAdd, Int.reduceMul, Int.reduceNeg, Nat.mul_one, Nat.zero_add, Nat.add_zero, and_self, true_and, and_true, if_true, if_false, reduceIte, reduceCtorEq, decide_true, decide_false, Bool.false_eq_true, Bool.not_true, Bool.not_false, List.take_succ_cons, List.take_zero, List.drop_succ_cons, List.drop_zero, List.all_cons, List.all_nil, Bool.and_true, Bool.and_self, h4, bytesD_length, N64_rem, N64_neq, h8]; exact rfl))
      | with_reducible apply w_t
      | with_reducible apply w_f
      | with_reducible apply w_block
      | with_reducible apply w_bn
      | with_reducible apply w_br
      | with_reducible apply w_be
      | with_reducible apply w_bx rfl
      | with_reducible apply w_rn
      | with_reducible apply w_rx
      | with_reducible apply w_rr
      | (with_reducible apply w_gh; (simp (disch := (first | omega | (simp only [List.length_set]; omega) | rfl)) only [EV, DV, AV, gs_eq, gs_ne, List.length_set, List.length_cons, List.length_nil, List.map_cons, List.map_nil, Option.bind_some, Option.map_some, List.getElem?_cons_succ, List.getElem?_cons_zero, List.cons_append, List.nil_append, ne_eq, not_true_eq_false, not_false_eq_true, Int.reduceNe, gt_iff_lt, ge_iff_le, Nat.reduceSub, Nat.reduceAdd, Nat.reduceMul, Nat.reduceLT, Nat.reduceLeDiff, Nat.reduceEqDiff, Int.reduceLE, Int.reduceLT, Int.reduceToNat, Int.reduceSub, Int.reduceAdd, Int.reduceMul, Int.reduceNeg, Nat.mul_one, Nat.zero_add, Nat.add_zero, and_self, true_and, and_true, if_true, if_false, reduceIte, reduceCtorEq, decide_true, decide_false, Bool.false_eq_true, Bool.not_true, Bool.not_false, List.take_succ_cons, List.take_zero, List.drop_succ_cons, List.drop_zero, List.all_cons, List.all_nil, Bool.and_true, Bool.and_self, h4, bytesD_length, N64_rem, N64_neq, h8]; exact rfl)))
    refine ⟨rfl, rfl, by simp only [List.length_set]; exact hρ, ?_, fun t ht => ?_⟩
    · simp only [List.replicate, List.append_nil, Nat.add_zero]
      rw [gs_ne (by omega), gs_ne (by omega), gs_ne (by omega), gs_ne (by omega)]; exact h4
    · simp only [List.contains_cons, Bool.or_eq_false_iff] at ht
      rw [gs_ne, gs_ne, gs_ne, gs_ne] <;> (simp only [beq_eq_false_iff_ne] at *; omega)
  | succ k ih =>
    intro m l ρ hk hm hl hρ h4
    obtain ⟨m, rfl⟩ : ∃ m', m = m' + 1 := ⟨m - 1, by omega⟩
    have h8 : (l.length : Int).tmod 8 = ((l.length % 8 : Nat) : Int) := by rw [show (8 : Int) = ((8 : Nat) : Int) from rfl, ← Int.ofNat_tmod]
    have h9 : (((l.length % 8 : Nat) : Int) = 0) = False := by simp only [eq_iff_iff, iff_false]; omega
    have ha : appD ⟨B, [l.length]⟩ false .tok 1 1 (.sl (.tok 0 l.length) 1 (bytesD l)) (.sl .full 1 [[B8 0]]) = some (.sl (.tok 0 (l.length + 1)) 1 (bytesD (l ++ [0])), ⟨B, [l.length + 1]⟩) :=
      appB ⟨B, [l.length]⟩ 0 l.length .full l [0] rfl (by simp; omega)
    apply w_round
    unfold L_blend_Sum_0
    repeat' (first
      | with_reducible apply w_seq
      | with_reducible apply w_n
      | with_reducible apply w_r
      | with_reducible apply w_x
      | (with_reducible apply w_reg; (simp (disch := (first | omega | (simp only [List.length_set]; omega) | rfl)) only [EV, DV, AV, gs_eq, gs_ne, List.length_set, List.length_cons, List.length_nil, List.map_cons, List.map_nil, Option.bind_some, Option.map_some, List.getElem?_cons_succ, List.getElem?_cons_zero, List.cons_append, List.nil_append, ne_eq, not_true_eq_false, not_false_eq_true, Int.reduceNe, gt_iff_lt, ge_iff_le, Nat.reduceSub, Nat.reduceAdd, Nat.reduceMul, Nat.reduceLT, Nat.reduceLeDiff, Nat.reduceEqDiff, Int.reduceLE, Int.reduceLT, Int.reduceToNat, Int.reduceSub, Int.reduceAdd, Int.reduceMul, Int.reduceNeg, Nat.mul_one, Nat.zero_add, Nat.add_zero, and_self, true_and, and_true, if_true, if_false, reduceIte, reduceCtorEq, decide_true, decide_false, Bool.false_eq_true, Bool.not_true, Bool.not_false, List.take_succ_cons, List.take_zero, List.drop_succ_cons, List.drop_zero, List.all_cons, List.all_nil, Bool.and_true, Bool.and_self, h4, bytesD_length, N64_rem, N64_neq, h8, h9, putCells, St.newSl, chunks, List.replicate, List.flatten_cons, List.flatten_nil, List.append_nil, Nat.zero_mul, ha]; exact rfl))
      | (with_reducible apply w_regD; (simp (disch := (first | omega | (simp only [List.length_set]; omega) | rfl)) only [EV, DV, AV, gs_eq, gs_ne, List.length_set, List.length_cons, List.length_nil, List.map_cons, List.map_nil, Option.bind_some, Option.map_some, List.getElem?_cons_succ, List.getElem?_cons_zero, List.cons_append, List.nil_append, ne_eq, not_true_eq_false, not_false_eq_true, Int.reduceNe, gt_iff_lt, ge_iff_le, Nat.reduceSub, Nat.reduceAdd, Nat.reduceMul, Nat.reduceLT, Nat.reduceLeDiff, Nat.reduceEqDiff, Int.reduceLE, Int.reduceLT, Int.reduceToNat, Int.reduceSub, Int.reduceAdd, Int.reduceMul, Int.reduceNeg, Nat.mul_one, Nat.zero_add, Nat.add_zero, and_self, true_and, and_true, if_true, if_false, reduceIte, reduceCtorEq, decide_true, decide_false, Bool.false_eq_true, Bool.not_true, Bool.not_false, List.take_succ_cons, List.take_zero, List.drop_succ_cons, List.drop_zero, List.all_cons, List.all_nil, Bool.and_true, Bool.and_self, h4, bytesD_length, N64_rem, N64_neq, h8, h9, putCells, St.newSl, chunks, List.replicate, List.flatten_cons, List.flatten_nil, List.append_nil, Nat.zero_mul, ha]; exact rfl))
      | with_reducible apply w_skip
      | with_reducible apply w_ret
      | with_reducible apply w_exit
      | (with_reducible apply w_cond; (simp (disch := (first | omega | (simp only [List.length_set]; omega) | rfl)) only [EV, DV, AV, gs_eq, gs_ne, List.length_set, List.length_cons, List.length_nil, List.map_cons, List.map_nil, Option.bind_some, Option.map_some, List.getElem?_cons_succ, List.getElem?_cons_zero, List.cons_append, List.nil_append, ne_eq, not_true_eq_false, not_false_eq_true, Int.reduceNe, gt_iff_lt, ge_iff_le, Nat.reduceSub, Nat.reduceAdd, Nat.reduceMul, Nat.reduceLT, Nat.reduceLeDiff, Nat.reduceEqDiff, Int.reduceLE, Int.reduceLT, Int.reduceToNat, Int.reduceSub, Int.reduceAdd, Int.reduceMul, Int.reduceNeg, Nat.mul_one, Nat.zero_add, Nat.add_zero, and_self, true_and, and_true, if_true, if_false, reduceIte, reduceCtorEq, decide_true, decide_false, Bool.false_eq_true, Bool.not_true, Bool.not_false, List.take_succ_cons, List.take_zero, List.drop_succ_cons, List.drop_zero, List.all_cons, List.all_nil, Bool.and_true, Bool.and_self, h4, bytesD_length, N64_rem, N64_neq, h8, h9, putCells, St.newSl, chunks, List.replicate, List.flatten_cons, List.flatten_nil, List.append_nil, Nat.zero_mul, ha]; exact rfl))
      | with_reducible apply w_t
      | with_reducible apply w_f
      | with_reducible apply w_block
      | with_reducible apply w_bn
      | with_reducible apply w_br
      | with_reducible apply w_be
      | with_reducible apply w_bx rfl
      | with_reducible apply w_rn
      | with_reducible apply w_rx
      | with_reducible apply w_rr
      | (with_reducible apply w_gh; (simp (disch := (first | omega | (simp only [List.length_set]; omega) | rfl)) only [EV, DV, AV, gs_eq, gs_ne, List.length_set, List.length_cons, List.length_nil, List.map_cons, List.map_nil, Option.bind_some, Option.map_some, List.getElem?_cons_succ, List.getElem?_cons_zero, List.cons_append, List.nil_append, ne_eq, not_true_eq_false, not_false_eq_true, Int.reduceNe, gt_iff_lt, ge_iff_le, Nat.reduceSub, Nat.reduceAdd, Nat.reduceMul, Nat.reduceLT, Nat.reduceLeDiff, Nat.reduceEqDiff, Int.reduceLE, Int.reduceLT, Int.reduceToNat, Int.reduceSub, Int.reduceAdd, Int.reduceMul, Int.reduceNeg, Nat.mul_one, Nat.zero_add, Nat.add_zero, and_self, true_and, and_true, if_true, if_false, reduceIte, reduceCtorEq, decide_true, decide_false, Bool.false_eq_true, Bool.not_true, Bool.not_false, List.take_succ_cons, List.take_zero, List.drop_succ_cons, List.drop_zero, List.all_cons, List.all_nil, Bool.and_true, Bool.and_self, h4, bytesD_length, N64_rem, N64_neq, h8, h9, putCells, St.newSl, chunks, List.replicate, List.flatten_cons, List.flatten_nil, List.append_nil, Nat.zero_mul, ha]; exact rfl)))
    have hl1 : (l ++ [0]).length = l.length + 1 := by simp
    have key := fun ρ2 => ih m (l ++ [0]) ρ2 (by rw [hl1]; omega) (by omega) (by rw [hl1]; omega)
    rw [hl1] at key
    refine wpR.mono (key _ ?_ ?_) ?_
    · simp only [List.length_set]; exact hρ
    · rw [gs_eq (by simp only [List.length_set]; omega)]
    rintro x ρ' A' ⟨h1, h2, h3, h5, h6⟩
    refine ⟨h1, by rw [h2, Nat.add_assoc, Nat.add_comm 1 k], h3, ?_, fun t ht => ?_⟩
    · rw [h5, Nat.add_assoc, Nat.add_comm 1 k, List.append_assoc]; rfl
    · rw [h6 t ht]
      simp only [List.contains_cons, Bool.or_eq_false_iff] at ht
      repeat rw [gs_ne (by simp only [beq_eq_false_iff_ne] at *; omega)]

end Ev

namespace Ev
open Go

/-- a number's bytes, the last one first -/
def le64 (n i : Nat) : List UInt8 := (List.range i).map fun j => UInt8.ofNat (n / 2 ^ (8 * j))

theorem le64_succ (n i : Nat) : le64 n (i + 1) = le64 n i ++ [UInt8.ofNat (n / 2 ^ (8 * i))] := by simp [le64, List.range_succ]

theorem le64_length (n k : Nat) : (le64 n k).length = k := by simp [le64]
theorem le64_get (n k i : Nat) (h : i < k) : (le64 n k)[i]? = some (UInt8.ofNat (n / 2 ^ (8 * i))) := by
  simp only [le64, List.getElem?_map, List.getElem?_range h, Option.map_some]

theorem loop_len (S : Nat → Option Fn) (n : Nat) (B : List Blk) (b : List UInt8) (hb : b.length ≤ 140737488355328) : ∀ (k m i : Nat) (l : List UInt8) (ρ : List D), i + k = 8 → k < m → l.length + k ≤ 140737488355328 → ρ.length = 76 → ρ.getD 0 .undef = .sl .any 1 (bytesD b) → ρ.getD 20 .undef = N64 i →
    ρ.getD 4 .undef = .sl (.tok 0 l.length) 1 (bytesD l) →
    wpR (L_blend_Sum_1.run S n) m ρ ⟨B, [l.length]⟩ (fun x ρ' A' => x = .exit 2 ∧ ∃ l', l' = l ++ (le64 b.length 8).drop i ∧ A' = ⟨B, [l'.length]⟩ ∧ ρ'.length = 76 ∧ ρ'.getD 4 .undef = .sl (.tok 0 l'.length) 1 (bytesD l') ∧
      ∀ t, [4, 5, 20, 21, 22, 23, 24, 25, 26, 27, 28, 29, 30, 31, 32, 33].contains t = false → ρ'.getD t .undef = ρ.getD t .undef) := by
  intro k
  induction k with
  | zero =>
    intro m i l ρ hi hm hl hρ h0 h20 h4
    obtain ⟨m, rfl⟩ : ∃ m', m = m' + 1 := ⟨m - 1, by omega⟩
    obtain rfl : i = 8 := by omega
    apply w_round
    unfold L_blend_Sum_1
    have e8 : decide (((8 : Nat) : Int) < 8) = false := rfl
    repeat' (first
      | with_reducible apply w_seq
      | with_reducible apply w_n
      | with_reducible apply w_r
      | with_reducible apply w_x
      | (with_reducible apply w_reg; (simp (disch := (first | omega | (simp only [List.length_set]; omega) | rfl)) only [EV, DV, AV, gs_eq, gs_ne, List.length_set, List.length_cons, List.length_nil, List.map_cons, List.map_nil, Option.bind_some, Option.map_some, List.getElem?_cons_succ, List.getElem?_cons_zero, List.cons_append, List.nil_append, ne_eq, not_true_eq_false, not_false_eq_true, Int.reduceNe, gt_iff_lt, ge_iff_le, Nat.reduceSub, Nat.reduceAdd, Nat.reduceMul, Nat.reduceLT, Nat.reduceLeDiff, Nat.reduceEqDiff, Int.reduceLE, Int.reduceLT, Int.reduceToNat, Int.reduceSub, Int.reduceAdd, Int.reduceMul, Int.reduceNeg, Nat.mul_one, Nat.zero_add, Nat.add_zero, and_self, true_and, and_true, if_true, if_false, reduceIte, reduceCtorEq, decide_true, decide_false, Bool.false_eq_true, Bool.not_true, Bool.not_false, List.take_succ_cons, List.take_zero, List.drop_succ_cons, List.drop_zero, List.all_cons, List.all_nil, Bool.and_true, Bool.and_self, h20, N64_lss, e8]; exact rfl))
      | (with_reducible apply w_regD; (simp (disch := (first | omega | (simp only [List.length_set]; omega) | rfl)) only [EV, DV, AV, gs_eq, gs_ne, List.length_set, List.length_cons, List.length_nil, List.map_cons, List.map_nil, Option.bind_some, Option.map_some, List.getElem?_cons_succ, List.getElem?_cons_zero, List.cons_append, List.nil_append, ne_eq, not_true_eq_false, not_false_eq_true, Int.reduceNe, gt_iff_lt, ge_iff_le, Nat.reduceSub, Nat.reduceAdd, Nat.reduceMul, Nat.reduceLT, Nat.reduceLeDiff, Nat.reduceEqDiff, Int.reduceLE, Int.reduceLT, Int.reduceToNat, Int.reduceSub, Int.reduceAdd, Int.reduceMul, Int.reduceNeg, Nat.mul_one, Nat.zero_add, Nat.add_zero, and_self, true_and, and_true, if_true, if_false, reduceIte, reduceCtorEq, decide_true, decide_false, Bool.false_eq_true, Bool.not_true, Bool.not_false, List.take_succ_cons, List.take_zero, List.drop_succ_cons, List.drop_zero, List.all_cons, List.all_nil, Bool.and_true, Bool.and_self, h20, N64_lss, e8]; exact rfl))
      | with_reducible apply w_skip
      | with_reducible apply w_ret
      | with_reducible apply w_exit
      | (with_reducible apply w_cond; (simp (disch := (first | omega | (simp only [List.length_set]; omega) | rfl)) only [EV, DV, AV, gs_eq, gs_ne, List.length_set, List.length_cons, List.length_nil, List.map_cons, List.map_nil, Option.bind_some, Option.map_some, List.getElem?_cons_succ, List.getElem?_cons_zero, List.cons_append, List.nil_append, ne_eq, not_true_eq_false, not_false_eq_true, Int.reduceNe, gt_iff_lt, ge_iff_le, Nat.reduceSub, Nat.reduceAdd, Nat.reduceMul, Nat.reduceLT, Nat.reduceLeDiff, Nat.reduceEqDiff, Int.reduceLE, Int.reduceLT, Int.reduceToNat, Int.reduceSub, Int.reduceAdd, Int.reduceMul, Int.reduceNeg, Nat.mul_one, Nat.zero_add, Nat.add_zero, and_self, true_and, and_true, if_true, if_false, reduceIte, reduceCtorEq, decide_true, decide_false, Bool.false_eq_true, Bool.not_true, Bool.not_false, List.take_succ_cons, List.take_zero, List.drop_succ_cons, List.drop_zero, List.all_cons, List.all_nil, Bool.and_true, Bool.and_self, h20, N64_lss, e8]; exact rfl))
      | with_reducible apply w_t
      | with_reducible apply w_f
      | with_reducible apply w_block
      | with_reducible apply w_bn
      | with_reducible apply w_br
      | with_reducible apply w_be
      | with_reducible apply w_bx rfl
      | with_reducible apply w_rn
      | with_reducible apply w_rx
      | with_reducible apply w_rr
      | (with_reducible apply w_gh; (simp (disch := (first | omega | (simp only [List.length_set]; omega) | rfl)) only [EV, DV, AV, gs_eq, gs_ne, List.length_set, List.length_cons, List.length_nil, List.map_cons, List.map_nil, Option.bind_some, Option.map_some, List.getElem?_cons_succ, List.getElem?_cons_zero, List.cons_append, List.nil_append, ne_eq, not_true_eq_false, not_false_eq_true, Int.reduceNe, gt_iff_lt, ge_iff_le, Nat.reduceSub, Nat.reduceAdd, Nat.reduceMul, Nat.reduceLT, Nat.reduceLeDiff, Nat.reduceEqDiff, Int.reduceLE, Int.reduceLT, Int.reduceToNat, Int.reduceSub, Int.reduceAdd, Int.reduceMul, Int.reduceNeg, Nat.mul_one, Nat.zero_add, Nat.add_zero, and_self, true_and, and_true, if_true, if_false, reduceIte, reduceCtorEq, decide_true, decide_false, Bool.false_eq_true, Bool.not_true, Bool.not_false, List.take_succ_cons, List.take_zero, List.drop_succ_cons, List.drop_zero, List.all_cons, List.all_nil, Bool.and_true, Bool.and_self, h20, N64_lss, e8]; exact rfl)))
    refine ⟨rfl, l, ?_, rfl, by simp only [List.length_set]; exact hρ, ?_, fun t ht => ?_⟩
    · simp [le64]
    · rw [gs_ne (by omega)]; exact h4
    · simp only [List.contains_cons, Bool.or_eq_false_iff] at ht
      rw [gs_ne (by simp only [beq_eq_false_iff_ne] at *; omega)]
  | succ k ih =>
    intro m i l ρ hi hm hl hρ h0 h20 h4
    obtain ⟨m, rfl⟩ : ∃ m', m = m' + 1 := ⟨m - 1, by omega⟩
    have ei : decide ((i : Int) < 8) = true := by simp; omega
    have e1 : (W64 (BitVec.ofNat 64 ((b.length : Int) % 18446744073709551616).toNat)) = W64 (BitVec.ofNat 64 b.length) := by
      congr 2; omega
    have e2 : IntKind.i64.wrap (8 * (i : Int)) = 8 * (i : Int) := wrap_i64 (by omega)
    have e3 : (8 * (i : Int)).toNat = 8 * i := by omega
    have e4 : IntKind.i64.wrap ((i : Int) + 1) = ((i + 1 : Nat) : Int) := by rw [wrap_i64 (by omega)]; omega
    have e5 : UInt8.ofNat (BitVec.ofNat 64 b.length >>> (8 * i)).toNat = UInt8.ofNat (b.length / 2 ^ (8 * i)) := by
      rw [BitVec.toNat_ushiftRight, BitVec.toNat_ofNat, Nat.mod_eq_of_lt (by omega), Nat.shiftRight_eq_div_pow]
    have ha : appD ⟨B, [l.length]⟩ false .tok 1 1 (.sl (.tok 0 l.length) 1 (bytesD l)) (.sl .full 1 [[B8 (UInt8.ofNat (b.length / 2 ^ (8 * i)))]]) = some (.sl (.tok 0 (l.length + 1)) 1 (bytesD (l ++ [UInt8.ofNat (b.length / 2 ^ (8 * i))])), ⟨B, [l.length + 1]⟩) :=
      appB ⟨B, [l.length]⟩ 0 l.length .full l [UInt8.ofNat (b.length / 2 ^ (8 * i))] rfl (by simp; omega)
    apply w_round
    unfold L_blend_Sum_1
    repeat' (first
      | with_reducible apply w_seq
      | with_reducible apply w_n
      | with_reducible apply w_r
      | with_reducible apply w_x
      | (with_reducible apply w_reg; (simp (disch := (first | omega | (simp only [List.length_set]; omega) | rfl)) only [EV, DV, AV, gs_eq, gs_ne, List.length_set, List.length_cons, List.length_nil, List.map_cons, List.map_nil, Option.bind_some, Option.map_some, List.getElem?_cons_succ, List.getElem?_cons_zero, List.cons_append, List.nil_append, ne_eq, not_true_eq_false, not_false_eq_true, Int.reduceNe, gt_iff_lt, ge_iff_le, Nat.reduceSub, Nat.reduceAdd, Nat.reduceMul, Nat.reduceLT, Nat.reduceLeDiff, Nat.reduceEqDiff, Int.reduceLE, Int.reduceLT, Int.reduceToNat, Int.reduceSub, Int.reduceAdd, Int.reduceMul, Int.reduceNeg, Nat.mul_one, Nat.zero_add, Nat.add_zero, and_self, true_and, and_true, if_true, if_false, reduceIte, reduceCtorEq, decide_true, decide_false, Bool.false_eq_true, Bool.not_true, Bool.not_false, List.take_succ_cons, List.take_zero, List.drop_succ_cons, List.drop_zero, List.all_cons, List.all_nil, Bool.and_true, Bool.and_self, h0, h20, h4, N64_lss, ei, bytesD_length, cv_N64_W64, e1, N64_mul, e2, shr64n, e3, cv_W64_B8, e5, N64_add, e4, putCells, St.newSl, chunks, List.replicate, List.flatten_cons, List.flatten_nil, List.append_nil, Nat.zero_mul, ha]; exact rfl))
      | (with_reducible apply w_regD; (simp (disch := (first | omega | (simp only [List.length_set]; omega) | rfl)) only [EV, DV, AV, gs_eq, gs_ne, List.length_set, List.length_cons, List.length_nil, List.map_cons, List.map_nil, Option.bind_some, Option.map_some, List.getElem?_cons_succ, List.getElem?_cons_zero, List.cons_append, List.nil_append, ne_eq, not_true_eq_false, not_false_eq_true, Int.reduceNe, gt_iff_lt, ge_iff_le, Nat.reduceSub, Nat.reduceAdd, Nat.reduceMul, Nat.reduceLT, Nat.reduceLeDiff, Nat.reduceEqDiff, Int.reduceLE, Int.reduceLT, Int.reduceToNat, Int.reduceSub, Int.reduceAdd, Int.reduceMul, Int.reduceNeg, Nat.mul_one, Nat.zero_add, Nat.add_zero, and_self, true_and, and_true, if_true, if_false, reduceIte, reduceCtorEq, decide_true, decide_false, Bool.false_eq_true, Bool.not_true, Bool.not_false, List.take_succ_cons, List.take_zero, List.drop_succ_cons, List.drop_zero, List.all_cons, List.all_nil, Bool.and_true, Bool.and_self, h0, h20, h4, N64_lss, ei, bytesD_length, cv_N64_W64, e1, N64_mul, e2, shr64n, e3, cv_W64_B8, e5, N64_add, e4, putCells, St.newSl, chunks, List.replicate, List.flatten_cons, List.flatten_nil, List.append_nil, Nat.zero_mul, ha]; exact rfl))
      | with_reducible apply w_skip
      | with_reducible apply w_ret
      | with_reducible apply w_exit
      | (with_reducible apply w_cond; (simp (disch := (first | omega | (simp only [List.length_set]; omega) | rfl)) only [EV, DV, AV, gs_eq, gs_ne, List.length_set, List.length_cons, List.length_nil, List.map_cons, List.map_nil, Option.bind_some, Option.map_some, List.getElem?_cons_succ, List.getElem?_cons_zero, List.cons_append, List.nil_append, ne_eq, not_true_eq_false, not_false_eq_true, Int.reduceNe, gt_iff_lt, ge_iff_le, Nat.reduceSub, Nat.reduceAdd, Nat.reduceMul, Nat.reduceLT, Nat.reduceLeDiff, Nat.reduceEqDiff, Int.reduceLE, Int.reduceLT, Int.reduceToNat, Int.reduceSub, Int.reduceAdd, Int.reduceMul, Int.reduceNeg, Nat.mul_one, Nat.zero_add, Nat.add_zero, and_self, true_and, and_true, if_true, if_false, reduceIte, reduceCtorEq, decide_true, decide_false, Bool.false_eq_true, Bool.not_true, Bool.not_false, List.take_succ_cons, List.take_zero, List.drop_succ_cons, List.drop_zero, List.all_cons, List.all_nil, Bool.and_true, Bool.and_self, h0, h20, h4, N64_lss, ei, bytesD_length, cv_N64_W64, e1, N64_mul, e2, shr64n, e3, cv_W64_B8, e5, N64_add, e4, putCells, St.newSl, chunks, List.replicate, List.flatten_cons, List.flatten_nil, List.append_nil, Nat.zero_mul, ha]; exact rfl))
      | with_reducible apply w_t
      | with_reducible apply w_f
      | with_reducible apply w_block
      | with_reducible apply w_bn
      | with_reducible apply w_br
      | with_reducible apply w_be
      | with_reducible apply w_bx rfl
      | with_reducible apply w_rn
      | with_reducible apply w_rx
      | with_reducible apply w_rr
      | (with_reducible apply w_gh; (simp (disch := (first | omega | (simp only [List.length_set]; omega) | rfl)) only [EV, DV, AV, gs_eq, gs_ne, List.length_set, List.length_cons, List.length_nil, List.map_cons, List.map_nil, Option.bind_some, Option.map_some, List.getElem?_cons_succ, List.getElem?_cons_zero, List.cons_append, List.nil_append, ne_eq, not_true_eq_false, not_false_eq_true, Int.reduceNe, gt_iff_lt, ge_iff_le, Nat.reduceSub, Nat.reduceAdd, Nat.reduceMul, Nat.reduceLT, Nat.reduceLeDiff, Nat.reduceEqDiff, Int.reduceLE, Int.reduceLT, Int.reduceToNat, Int.reduceSub, Int.reduceAdd, Int.reduceMul, Int.reduceNeg, Nat.mul_one, Nat.zero_add, Nat.add_zero, and_self, true_and, and_true, if_true, if_false, reduceIte, reduceCtorEq, decide_true, decide_false, Bool.false_eq_true, Bool.not_true, Bool.not_false, List.take_succ_cons, List.take_zero, List.drop_succ_cons, List.drop_zero, List.all_cons, List.all_nil, Bool.and_true, Bool.and_self, h0, h20, h4, N64_lss, ei, bytesD_length, cv_N64_W64, e1, N64_mul, e2, shr64n, e3, cv_W64_B8, e5, N64_add, e4, putCells, St.newSl, chunks, List.replicate, List.flatten_cons, List.flatten_nil, List.append_nil, Nat.zero_mul, ha]; exact rfl)))
    have hl1 : (l ++ [UInt8.ofNat (b.length / 2 ^ (8 * i))]).length = l.length + 1 := by simp
    have key := fun ρ2 => ih m (i + 1) (l ++ [UInt8.ofNat (b.length / 2 ^ (8 * i))]) ρ2 (by omega) (by omega) (by rw [hl1]; omega)
    rw [hl1] at key
    refine wpR.mono (key _ ?_ ?_ ?_ ?_) ?_
    · simp only [List.length_set]; exact hρ
    · simp (disch := omega) only [gs_ne]; exact h0
    · rw [gs_eq (by simp only [List.length_set]; omega)]
    · simp (disch := (first | omega | (simp only [List.length_set]; omega))) only [gs_ne, gs_eq]
    rintro x ρ' A' ⟨h1, l', hl', h2, h3, h5, h6⟩
    refine ⟨h1, l', ?_, h2, h3, h5, fun t ht => ?_⟩
    · rw [hl', List.append_assoc]
      congr 1
      have : (le64 b.length 8)[i]? = some (UInt8.ofNat (b.length / 2 ^ (8 * i))) := le64_get _ _ _ (by omega)
      rw [List.singleton_append]
      have h7 : i < (le64 b.length 8).length := by rw [le64_length]; omega
      rw [List.drop_eq_getElem_cons h7]
      congr 1
      rw [List.getElem?_eq_getElem h7] at this
      exact (Option.some.inj this).symm
    · rw [h6 t ht]
      simp only [List.contains_cons, Bool.or_eq_false_iff] at ht
      repeat rw [gs_ne (by simp only [beq_eq_false_iff_ne] at *; omega)]

end Ev

namespace Ev
open Go

-- ------------------------------------------------------------------ what it comes to
/-- the bytes, filled up, with their number behind -/
def padded (b : List UInt8) : List UInt8 := (b ++ [128]) ++ List.replicate ((8 - (b.length + 1) % 8) % 8) 0 ++ le64 b.length 8

def stirN : Nat → W4 → W4
  | 0, x => x
  | n + 1, x => stirN n (stir x)

def mixIn (x : W4) (u v : BitVec 32) : W4 := stirN 3 ⟨x.a ^^^ u, x.b, x.c, x.d ^^^ v⟩

def absorb : W4 → List UInt8 → W4
  | x, b0 :: b1 :: b2 :: b3 :: b4 :: b5 :: b6 :: b7 :: r => absorb (mixIn x (wordOf b0 b1 b2 b3) (wordOf b4 b5 b6 b7)) r
  | x, _ => x

def W4.get (x : W4) : Nat → BitVec 32
  | 0 => x.a
  | 1 => x.b
  | 2 => x.c
  | _ => x.d

def outB16 (x : W4) : Nat → List UInt8
  | 0 => []
  | n + 1 => outB16 x n ++ [UInt8.ofNat (x.get (n / 4) >>> (8 * (n % 4))).toNat]

def x0 : W4 := ⟨1668047222, 1768383858, 1801807216, 1935763045⟩

def sumL (b : List UInt8) : List UInt8 := outB16 (stirN 8 (absorb x0 (padded b))) 16

theorem outB16_length (x : W4) : ∀ n, (outB16 x n).length = n
  | 0 => rfl
  | n + 1 => by simp [outB16, outB16_length x n]
theorem sumL_length (b : List UInt8) : (sumL b).length = 16 := outB16_length _ _

theorem le64_len8 (n : Nat) : (le64 n 8).length = 8 := le64_length n 8
theorem padded_length (b : List UInt8) : (padded b).length % 8 = 0 := by
  simp only [padded, List.length_append, List.length_replicate, le64_len8, List.length_cons, List.length_nil]; omega

theorem stirN_succ (n : Nat) (x : W4) : stirN (n + 1) x = stir (stirN n x) := by
  induction n generalizing x with
  | zero => rfl
  | succ n ih => exact ih (stir x)

-- ------------------------------------------------------------------ four words
theorem W4c :
    (∀ x : W4, x.cells[0]? = some (W32 x.a)) ∧ (∀ x : W4, x.cells[1]? = some (W32 x.b)) ∧ (∀ x : W4, x.cells[2]? = some (W32 x.c)) ∧ (∀ x : W4, x.cells[3]? = some (W32 x.d)) ∧
    (∀ x : W4, x.cells.length = 4) ∧
    (∀ (x : W4) v, x.cells.take 0 ++ [W32 v] ++ x.cells.drop 1 = W4.cells ⟨v, x.b, x.c, x.d⟩) ∧ (∀ (x : W4) v, x.cells.take 3 ++ [W32 v] ++ x.cells.drop 4 = W4.cells ⟨x.a, x.b, x.c, v⟩) ∧
    (∀ (x : W4) v, W32 v :: x.cells.drop 1 = W4.cells ⟨v, x.b, x.c, x.d⟩) ∧ (∀ x : W4, x.cells.map D.er = x.cells) ∧ (∀ x : W4, x.cells.all D.pc = true) :=
  ⟨fun _ => rfl, fun _ => rfl, fun _ => rfl, fun _ => rfl, fun _ => rfl, fun _ _ => rfl, fun _ _ => rfl, fun _ _ => rfl, fun _ => rfl, fun _ => rfl⟩

theorem len_snoc (l : List UInt8) (c : UInt8) : (l ++ [c]).length = l.length + 1 := by simp

theorem W4_get (x : W4) (i : Nat) (h : i < 4) : x.cells[i]? = some (W32 (x.get i)) := by
  match i, h with
  | 0, _ => rfl
  | 1, _ => rfl
  | 2, _ => rfl
  | 3, _ => rfl

theorem lift_stirP (x : W4) : lift F_stirP [.ptr 0 0] [.mem false x.cells] = some (.tup [], [.mem false (stir x).cells]) := by
  have h : (x.cells.map D.nm) = x.cells := rfl
  simp only [lift, List.map_cons, List.map_nil, DV, h, F_stirP, unW4_cells, Option.map_some]

theorem call_stirP {S : Nat → Option Fn} {c : Nat} (hc : S c = some (lift F_stirP)) (b0 : Blk) (x : W4) (T : List Nat) :
    callD S ⟨[b0, .mem false x.cells], T⟩ c [.ptr 1 0] [0] .any = some (.tup [], ⟨[b0, .mem false (stir x).cells], T⟩) :=
  callP hc (js := [1]) (Bs := [.mem false x.cells]) (xs := [.ptr 0 0]) rfl rfl rfl (by decide) rfl (lift_stirP x) rfl

-- ------------------------------------------------------------------ blend.Sum
theorem decN (a b : Int) : decide (a > b) = decide (b < a) := rfl

theorem tm8 (n : Nat) : (n : Int).tmod 8 = ((n % 8 : Nat) : Int) := by rw [show (8 : Int) = ((8 : Nat) : Int) from rfl, ← Int.ofNat_tmod]

theorem app1 {B : List Blk} {l : List UInt8} {o : Own} {c : UInt8} {k : Nat} (hk : k = l.length) (h : l.length < 140737488355328) :
    appD ⟨B, [k]⟩ false .tok 1 1 (.sl (.tok 0 k) 1 (bytesD l)) (.sl o 1 [[B8 c]]) = some (.sl (.tok 0 (l ++ [c]).length) 1 (bytesD (l ++ [c])), ⟨B, [(l ++ [c]).length]⟩) := by
  subst hk
  have := appB ⟨B, [l.length]⟩ 0 l.length o l [c] rfl (by simp; omega)
  rw [show (l ++ [c]).length = l.length + 1 by simp]
  exact this

theorem low_of {b : List UInt8} {b0 b1 b2 b3 : UInt8} {r : List UInt8} (h : b = b0 :: b1 :: b2 :: b3 :: r) : G_word ⟨b⟩ = some (W32 (wordOf b0 b1 b2 b3)) := by subst h; rfl

theorem F_clone_b (l : List UInt8) (h : l.length ≤ 140737488355328) : F_clone [.sl .any 1 (bytesD l)] [] = some (.sl .fresh 1 (bytesD l), []) := by
  simp only [F_clone, unB_bytesD, h, if_true]

theorem Sum_pad (S : Nat → Option Fn) (Bk : List Blk) (l : List UInt8) (n : Nat) (hln : l.length = n) (f : SF) (hl : l.length ≤ 140737488355100) (h4 : f 4 = .sl (.tok 0 n) 1 (bytesD l)) :
    W S (.loop L_blend_Sum_0) f ⟨Bk, [n]⟩ (fun x g B => x = .exit 0 ∧ ∃ l', l' = l ++ List.replicate ((8 - l.length % 8) % 8) 0 ∧ B = ⟨Bk, [l'.length]⟩ ∧ g 4 = .sl (.tok 0 l'.length) 1 (bytesD l')) := by
  subst hln
  refine W_loop (I := fun k g B => ∃ l', k = (8 - l'.length % 8) % 8 ∧ l' ++ List.replicate k 0 = l ++ List.replicate ((8 - l.length % 8) % 8) 0 ∧ l'.length + k ≤ 140737488355200 ∧ B = ⟨Bk, [l'.length]⟩ ∧ g 4 = .sl (.tok 0 l'.length) 1 (bytesD l')) _ ⟨l, rfl, rfl, by omega, rfl, h4⟩ ?_
  rintro k g B - ⟨l', hk, he, hn, rfl, g4⟩
  unfold L_blend_Sum_0
  have hn' : l'.length < 140737488355328 := by omega
  repeat' (first
    | with_reducible apply W_seq
    | with_reducible apply W_sn
    | with_reducible apply W_sr
    | with_reducible apply W_sx
    | ((first | (with_reducible apply W_reg0; focus exact rfl) | (with_reducible apply W_reg0D; focus exact rfl)); focus (simp (disch := first | decide | omega | (simp only [ZL, g4, bytesD_length, tm8, hn'] <;> omega) | fail) only [ZW, simprocAttr, -List.reduceReplicate, g4, bytesD_length, tm8, hn']; exact rfl))
    | with_reducible apply W_D
    | with_reducible apply W_nil
    | ((first | with_reducible apply W_op | with_reducible apply W_op' | with_reducible apply W_gk | with_reducible apply W_cond | with_reducible apply W_gh); focus (simp (disch := first | decide | omega | (simp only [ZL, g4, bytesD_length, tm8, hn'] <;> omega) | fail) only [ZW, simprocAttr, -List.reduceReplicate, g4, bytesD_length, tm8, hn']; exact rfl))
    | with_reducible apply gk_t
    | with_reducible apply gk_tf
    | with_reducible apply gk_ft
    | with_reducible apply gk_u
    | with_reducible apply W_t
    | with_reducible apply W_f
    | ((first | with_reducible apply gk_dt | with_reducible apply gk_df | with_reducible apply gk_bt | with_reducible apply gk_bf | with_reducible apply W_d | with_reducible apply W_b) <;> intro hg)
    | with_reducible apply W_skip
    | with_reducible apply W_ret
    | with_reducible apply W_exit
    | with_reducible apply W_un
    | with_reducible apply W_ux
    | with_reducible apply W_ur
    | intro hfx
    | with_reducible apply W_block
    | with_reducible apply W_bn
    | with_reducible apply W_br
    | with_reducible apply W_be
    | with_reducible apply W_bx rfl)
  · refine W_ln (k - 1) (by simp at hg; omega) ⟨l' ++ [0], ?_, ?_, ?_, by rw [len_snoc], by rw [len_snoc]; rfl⟩
    · simp at hg ⊢; omega
    · rw [← he]
      obtain ⟨k, rfl⟩ : ∃ j, k = j + 1 := ⟨k - 1, by simp at hg; omega⟩
      rw [Nat.add_sub_cancel, List.replicate_succ, List.append_assoc]; rfl
    · simp at hg ⊢; omega
  · refine ⟨rfl, l', ?_, rfl, g4⟩
    rw [← he, show k = 0 by simp at hg; omega]; simp

theorem Sum_len (S : Nat → Option Fn) (Bk : List Blk) (b l : List UInt8) (f : SF) (hb : b.length ≤ 140737488355100) (hl : l.length ≤ 140737488355200) (h0 : f 0 = .sl .any 1 (bytesD b)) (h20 : f 20 = N64 0) (h4 : f 4 = .sl (.tok 0 l.length) 1 (bytesD l)) :
    W S (.loop L_blend_Sum_1) f ⟨Bk, [l.length]⟩ (fun x g B => x = .exit 2 ∧ ∃ l', l' = l ++ le64 b.length 8 ∧ B = ⟨Bk, [l'.length]⟩ ∧ g 4 = .sl (.tok 0 l'.length) 1 (bytesD l')) := by
  refine W_loop (I := fun k g B => ∃ i l', k + i = 8 ∧ l' = l ++ le64 b.length i ∧ g 20 = N64 i ∧ B = ⟨Bk, [l'.length]⟩ ∧ g 4 = .sl (.tok 0 l'.length) 1 (bytesD l')) 8 ⟨0, l, rfl, by simp [le64], h20, rfl, h4⟩ ?_
  rintro k g B hfr ⟨i, l', hk, he, g20, rfl, g4⟩
  have g0 := (hfr 0 rfl).trans h0
  have hl' : l'.length = l.length + i := by rw [he, List.length_append, le64_length]
  have hn' : l'.length < 140737488355328 := by omega
  have e1 : (W64 (BitVec.ofNat 64 ((b.length : Int) % 18446744073709551616).toNat)) = W64 (BitVec.ofNat 64 b.length) := by congr 2; omega
  have e2 : IntKind.i64.wrap (8 * (i : Int)) = 8 * (i : Int) := wrap_i64 (by omega)
  have e3 : (8 * (i : Int)).toNat = 8 * i := by omega
  have e5 : UInt8.ofNat (BitVec.ofNat 64 b.length >>> (8 * i)).toNat = UInt8.ofNat (b.length / 2 ^ (8 * i)) := by
    rw [BitVec.toNat_ushiftRight, BitVec.toNat_ofNat, Nat.mod_eq_of_lt (by omega), Nat.shiftRight_eq_div_pow]
  have e4 : IntKind.i64.wrap ((i : Int) + 1) = ((i + 1 : Nat) : Int) := by rw [wrap_i64 (by omega)]; omega
  unfold L_blend_Sum_1
  repeat' (first
    | with_reducible apply W_seq
    | with_reducible apply W_sn
    | with_reducible apply W_sr
    | with_reducible apply W_sx
    | ((first | (with_reducible apply W_reg0; focus exact rfl) | (with_reducible apply W_reg0D; focus exact rfl)); focus (simp (disch := first | decide | omega | (simp only [ZL, g0, g4, g20, bytesD_length, e1, e2, e3, e5, e4, hn'] <;> omega) | fail) only [ZW, simprocAttr, -List.reduceReplicate, g0, g4, g20, bytesD_length, e1, e2, e3, e5, e4, hn']; exact rfl))
    | with_reducible apply W_D
    | with_reducible apply W_nil
    | ((first | with_reducible apply W_op | with_reducible apply W_op' | with_reducible apply W_gk | with_reducible apply W_cond | with_reducible apply W_gh); focus (simp (disch := first | decide | omega | (simp only [ZL, g0, g4, g20, bytesD_length, e1, e2, e3, e5, e4, hn'] <;> omega) | fail) only [ZW, simprocAttr, -List.reduceReplicate, g0, g4, g20, bytesD_length, e1, e2, e3, e5, e4, hn']; exact rfl))
    | with_reducible apply gk_t
    | with_reducible apply gk_tf
    | with_reducible apply gk_ft
    | with_reducible apply gk_u
    | with_reducible apply W_t
    | with_reducible apply W_f
    | ((first | with_reducible apply gk_dt | with_reducible apply gk_df | with_reducible apply gk_bt | with_reducible apply gk_bf | with_reducible apply W_d | with_reducible apply W_b) <;> intro hg)
    | with_reducible apply W_skip
    | with_reducible apply W_ret
    | with_reducible apply W_exit
    | with_reducible apply W_un
    | with_reducible apply W_ux
    | with_reducible apply W_ur
    | intro hfx
    | with_reducible apply W_block
    | with_reducible apply W_bn
    | with_reducible apply W_br
    | with_reducible apply W_be
    | with_reducible apply W_bx rfl)
  · refine W_ln (k - 1) (by omega) ⟨i + 1, l' ++ [UInt8.ofNat (b.length / 2 ^ (8 * i))], by omega, ?_, rfl, by rw [len_snoc], by rw [len_snoc]; rfl⟩
    rw [he, le64_succ, List.append_assoc]
  · refine ⟨rfl, l', ?_, rfl, g4⟩
    rw [he, show i = 8 by omega]

theorem Sum_stir3 (S : Nat → Option Fn) (c : Nat) (hc : S c = some (lift F_stirP)) (b0 : Blk) (x : W4) (T : List Nat) (f : SF) (h3 : f 3 = .ptr 1 0) (h52 : f 52 = N64 0) :
    W S (.loop (L_blend_Sum_2 c)) f ⟨[b0, .mem false x.cells], T⟩ (fun e g B => e = .exit 6 ∧ B = ⟨[b0, .mem false (stirN 3 x).cells], T⟩) := by
  refine W_loop (I := fun k g B => ∃ i, k + i = 3 ∧ g 52 = N64 i ∧ B = ⟨[b0, .mem false (stirN i x).cells], T⟩) 3 ⟨0, rfl, h52, rfl⟩ ?_
  rintro k g B hfr ⟨i, hk, g52, rfl⟩
  have g3 := (hfr 3 rfl).trans h3
  have e4 : IntKind.i64.wrap ((i : Int) + 1) = ((i + 1 : Nat) : Int) := by rw [wrap_i64 (by omega)]; omega
  unfold L_blend_Sum_2
  repeat' (first
    | with_reducible apply W_seq
    | with_reducible apply W_sn
    | with_reducible apply W_sr
    | with_reducible apply W_sx
    | ((first | (with_reducible apply W_reg0; focus exact rfl) | (with_reducible apply W_reg0D; focus exact rfl)); focus (simp (disch := first | decide | omega | (simp only [ZL, g3, g52, call_stirP hc, e4] <;> omega) | fail) only [ZW, simprocAttr, -List.reduceReplicate, g3, g52, call_stirP hc, e4]; exact rfl))
    | with_reducible apply W_D
    | with_reducible apply W_nil
    | ((first | with_reducible apply W_op | with_reducible apply W_op' | with_reducible apply W_gk | with_reducible apply W_cond | with_reducible apply W_gh); focus (simp (disch := first | decide | omega | (simp only [ZL, g3, g52, call_stirP hc, e4] <;> omega) | fail) only [ZW, simprocAttr, -List.reduceReplicate, g3, g52, call_stirP hc, e4]; exact rfl))
    | with_reducible apply gk_t
    | with_reducible apply gk_tf
    | with_reducible apply gk_ft
    | with_reducible apply gk_u
    | with_reducible apply W_t
    | with_reducible apply W_f
    | ((first | with_reducible apply gk_dt | with_reducible apply gk_df | with_reducible apply gk_bt | with_reducible apply gk_bf | with_reducible apply W_d | with_reducible apply W_b) <;> intro hg)
    | with_reducible apply W_skip
    | with_reducible apply W_ret
    | with_reducible apply W_exit
    | with_reducible apply W_un
    | with_reducible apply W_ux
    | with_reducible apply W_ur
    | intro hfx
    | with_reducible apply W_block
    | with_reducible apply W_bn
    | with_reducible apply W_br
    | with_reducible apply W_be
    | with_reducible apply W_bx rfl)
  · exact W_ln (k - 1) (by omega) ⟨i + 1, by omega, rfl, by rw [stirN_succ]⟩
  · exact ⟨rfl, by rw [show i = 3 by omega]⟩

theorem Sum_stir8 (S : Nat → Option Fn) (c : Nat) (hc : S c = some (lift F_stirP)) (b0 : Blk) (x : W4) (T : List Nat) (f : SF) (h3 : f 3 = .ptr 1 0) (h52 : f 56 = N64 0) :
    W S (.loop (L_blend_Sum_4 c)) f ⟨[b0, .mem false x.cells], T⟩ (fun e g B => e = .exit 8 ∧ B = ⟨[b0, .mem false (stirN 8 x).cells], T⟩) := by
  refine W_loop (I := fun k g B => ∃ i, k + i = 8 ∧ g 56 = N64 i ∧ B = ⟨[b0, .mem false (stirN i x).cells], T⟩) 8 ⟨0, rfl, h52, rfl⟩ ?_
  rintro k g B hfr ⟨i, hk, g52, rfl⟩
  have g3 := (hfr 3 rfl).trans h3
  have e4 : IntKind.i64.wrap ((i : Int) + 1) = ((i + 1 : Nat) : Int) := by rw [wrap_i64 (by omega)]; omega
  unfold L_blend_Sum_4
  repeat' (first
    | with_reducible apply W_seq
    | with_reducible apply W_sn
    | with_reducible apply W_sr
    | with_reducible apply W_sx
    | ((first | (with_reducible apply W_reg0; focus exact rfl) | (with_reducible apply W_reg0D; focus exact rfl)); focus (simp (disch := first | decide | omega | (simp only [ZL, g3, g52, call_stirP hc, e4] <;> omega) | fail) only [ZW, simprocAttr, -List.reduceReplicate, g3, g52, call_stirP hc, e4]; exact rfl))
    | with_reducible apply W_D
    | with_reducible apply W_nil
    | ((first | with_reducible apply W_op | with_reducible apply W_op' | with_reducible apply W_gk | with_reducible apply W_cond | with_reducible apply W_gh); focus (simp (disch := first | decide | omega | (simp only [ZL, g3, g52, call_stirP hc, e4] <;> omega) | fail) only [ZW, simprocAttr, -List.reduceReplicate, g3, g52, call_stirP hc, e4]; exact rfl))
    | with_reducible apply gk_t
    | with_reducible apply gk_tf
    | with_reducible apply gk_ft
    | with_reducible apply gk_u
    | with_reducible apply W_t
    | with_reducible apply W_f
    | ((first | with_reducible apply gk_dt | with_reducible apply gk_df | with_reducible apply gk_bt | with_reducible apply gk_bf | with_reducible apply W_d | with_reducible apply W_b) <;> intro hg)
    | with_reducible apply W_skip
    | with_reducible apply W_ret
    | with_reducible apply W_exit
    | with_reducible apply W_un
    | with_reducible apply W_ux
    | with_reducible apply W_ur
    | intro hfx
    | with_reducible apply W_block
    | with_reducible apply W_bn
    | with_reducible apply W_br
    | with_reducible apply W_be
    | with_reducible apply W_bx rfl)
  · exact W_ln (k - 1) (by omega) ⟨i + 1, by omega, rfl, by rw [stirN_succ]⟩
  · exact ⟨rfl, by rw [show i = 8 by omega]⟩

theorem G_word_eq (b0 b1 b2 b3 : UInt8) (r : List UInt8) : G_word ⟨b0 :: b1 :: b2 :: b3 :: r⟩ = some (W32 (wordOf b0 b1 b2 b3)) := rfl

theorem eight {l : List UInt8} (h : l.length % 8 = 0) (h0 : 0 < l.length) : ∃ b0 b1 b2 b3 b4 b5 b6 b7 r, l = b0 :: b1 :: b2 :: b3 :: b4 :: b5 :: b6 :: b7 :: r ∧ r.length % 8 = 0 := by
  match l, h, h0 with
  | b0 :: b1 :: b2 :: b3 :: b4 :: b5 :: b6 :: b7 :: r, h, _ => exact ⟨b0, b1, b2, b3, b4, b5, b6, b7, r, rfl, by simp at h; omega⟩
  | [], _, h0 => simp at h0
  | [_], h, _ => simp at h
  | [_, _], h, _ => simp at h
  | [_, _, _], h, _ => simp at h
  | [_, _, _, _], h, _ => simp at h
  | [_, _, _, _, _], h, _ => simp at h
  | [_, _, _, _, _, _], h, _ => simp at h
  | [_, _, _, _, _, _, _], h, _ => simp at h

theorem Sum_abs (S : Nat → Option Fn) (c2 c3 : Nat) (h2 : S c2 = some (lift (fn1 G_word))) (h3 : S c3 = some (lift F_stirP)) (b0 : Blk) (x : W4) (T : List Nat) (l : List UInt8) (o : Own) (f : SF) (hl : l.length % 8 = 0) (f3 : f 3 = .ptr 1 0)
    (f4 : f 4 = .sl o 1 (bytesD l)) (ho : argN (.sl o 1 (bytesD l)) = some (.sl .any 1 (bytesD l))) :
    W S (.loop (L_blend_Sum_3 c2 c3)) f ⟨[b0, .mem false x.cells], T⟩ (fun e g B => e = .exit 4 ∧ B = ⟨[b0, .mem false (absorb x l).cells], T⟩) := by
  refine W_loop (I := fun k g B => ∃ l' x' o, k = l'.length ∧ l'.length % 8 = 0 ∧ absorb x' l' = absorb x l ∧ g 4 = .sl o 1 (bytesD l') ∧ argN (.sl o 1 (bytesD l')) = some (.sl .any 1 (bytesD l')) ∧ B = ⟨[b0, .mem false x'.cells], T⟩) _ ⟨l, x, o, rfl, hl, rfl, f4, ho, rfl⟩ ?_
  rintro k g B hfr ⟨l', x', o', hk, hm, ha, g4, ho', rfl⟩
  have g3 := (hfr 3 rfl).trans f3
  clear ho f4 hfr o hl
  rcases Nat.eq_zero_or_pos l'.length with h0 | h0
  · obtain rfl : l' = [] := List.eq_nil_of_length_eq_zero h0
    unfold L_blend_Sum_3
    repeat' (first
      | with_reducible apply W_seq
      | with_reducible apply W_sn
      | with_reducible apply W_sr
      | with_reducible apply W_sx
      | ((first | (with_reducible apply W_reg0; focus exact rfl) | (with_reducible apply W_reg0D; focus exact rfl)); focus (simp (disch := first | decide | omega | (simp only [ZL, g4, g3, bytesD_length, Int.natCast_zero] <;> omega) | fail) only [ZW, simprocAttr, -List.reduceReplicate, g4, g3, bytesD_length, Int.natCast_zero]; exact rfl))
      | with_reducible apply W_D
      | with_reducible apply W_nil
      | ((first | with_reducible apply W_op | with_reducible apply W_op' | with_reducible apply W_gk | with_reducible apply W_cond | with_reducible apply W_gh); focus (simp (disch := first | decide | omega | (simp only [ZL, g4, g3, bytesD_length, Int.natCast_zero] <;> omega) | fail) only [ZW, simprocAttr, -List.reduceReplicate, g4, g3, bytesD_length, Int.natCast_zero]; exact rfl))
      | with_reducible apply gk_t
      | with_reducible apply gk_tf
      | with_reducible apply gk_ft
      | with_reducible apply gk_u
      | with_reducible apply W_t
      | with_reducible apply W_f
      | ((first | with_reducible apply gk_dt | with_reducible apply gk_df | with_reducible apply gk_bt | with_reducible apply gk_bf | with_reducible apply W_d | with_reducible apply W_b) <;> intro hg)
      | with_reducible apply W_skip
      | with_reducible apply W_ret
      | with_reducible apply W_exit
      | with_reducible apply W_un
      | with_reducible apply W_ux
      | with_reducible apply W_ur
      | intro hfx
      | with_reducible apply W_block
      | with_reducible apply W_bn
      | with_reducible apply W_br
      | with_reducible apply W_be
      | with_reducible apply W_bx rfl)
    exact ⟨rfl, by rw [← ha]; rfl⟩
  · obtain ⟨b0, b1, b2, b3, b4, b5, b6, b7, r, rfl, hr⟩ := eight hm h0
    subst hk
    have e1 : (0 : Int) < ((r.length + 1 + 1 + 1 + 1 + 1 + 1 + 1 + 1 : Nat) : Int) := by omega
    unfold L_blend_Sum_3
    repeat' (first
      | with_reducible apply W_seq
      | with_reducible apply W_sn
      | with_reducible apply W_sr
      | with_reducible apply W_sx
      | ((first | (with_reducible apply W_reg0; focus exact rfl) | (with_reducible apply W_reg0D; focus exact rfl)); focus (simp (disch := first | decide | omega | (simp only [ZL, g4, g3, bytesD_length, e1, W4c, call1 h2, ho', G_word_eq, sliceB_lo, argN_slc, Int.reduceToNat] <;> omega) | fail) only [ZW, simprocAttr, -List.reduceReplicate, g4, g3, bytesD_length, e1, W4c, call1 h2, ho', G_word_eq, sliceB_lo, argN_slc, Int.reduceToNat]; exact rfl))
      | with_reducible apply W_D
      | with_reducible apply W_nil
      | ((first | with_reducible apply W_op | with_reducible apply W_op' | with_reducible apply W_gk | with_reducible apply W_cond | with_reducible apply W_gh); focus (simp (disch := first | decide | omega | (simp only [ZL, g4, g3, bytesD_length, e1, W4c, call1 h2, ho', G_word_eq, sliceB_lo, argN_slc, Int.reduceToNat] <;> omega) | fail) only [ZW, simprocAttr, -List.reduceReplicate, g4, g3, bytesD_length, e1, W4c, call1 h2, ho', G_word_eq, sliceB_lo, argN_slc, Int.reduceToNat]; exact rfl))
      | with_reducible apply gk_t
      | with_reducible apply gk_tf
      | with_reducible apply gk_ft
      | with_reducible apply gk_u
      | with_reducible apply W_t
      | with_reducible apply W_f
      | ((first | with_reducible apply gk_dt | with_reducible apply gk_df | with_reducible apply gk_bt | with_reducible apply gk_bf | with_reducible apply W_d | with_reducible apply W_b) <;> intro hg)
      | with_reducible apply W_skip
      | with_reducible apply W_ret
      | with_reducible apply W_exit
      | with_reducible apply W_un
      | with_reducible apply W_ux
      | with_reducible apply W_ur
      | intro hfx
      | with_reducible apply W_block
      | with_reducible apply W_bn
      | with_reducible apply W_br
      | with_reducible apply W_be
      | with_reducible apply W_bx rfl)
    refine W_mono (Sum_stir3 S c3 h3 _ ⟨x'.a ^^^ wordOf b0 b1 b2 b3, x'.b, x'.c, x'.d ^^^ wordOf b4 b5 b6 b7⟩ _ _ ((pt_ne rfl).trans g3) rfl) ?_
    rintro e g' B' hf ⟨rfl, rfl⟩
    have g4' := (hf 4 rfl).trans g4
    repeat' (first
      | with_reducible apply W_seq
      | with_reducible apply W_sn
      | with_reducible apply W_sr
      | with_reducible apply W_sx
      | ((first | (with_reducible apply W_reg0; focus exact rfl) | (with_reducible apply W_reg0D; focus exact rfl)); focus (simp (disch := first | decide | omega | (simp only [ZL, g4', sliceB_lo] <;> omega) | fail) only [ZW, simprocAttr, -List.reduceReplicate, g4', sliceB_lo]; exact rfl))
      | with_reducible apply W_D
      | with_reducible apply W_nil
      | ((first | with_reducible apply W_op | with_reducible apply W_op' | with_reducible apply W_gk | with_reducible apply W_cond | with_reducible apply W_gh); focus (simp (disch := first | decide | omega | (simp only [ZL, g4', sliceB_lo] <;> omega) | fail) only [ZW, simprocAttr, -List.reduceReplicate, g4', sliceB_lo]; exact rfl))
      | with_reducible apply gk_t
      | with_reducible apply gk_tf
      | with_reducible apply gk_ft
      | with_reducible apply gk_u
      | with_reducible apply W_t
      | with_reducible apply W_f
      | ((first | with_reducible apply gk_dt | with_reducible apply gk_df | with_reducible apply gk_bt | with_reducible apply gk_bf | with_reducible apply W_d | with_reducible apply W_b) <;> intro hg)
      | with_reducible apply W_skip
      | with_reducible apply W_ret
      | with_reducible apply W_exit
      | with_reducible apply W_un
      | with_reducible apply W_ux
      | with_reducible apply W_ur
      | intro hfx
      | with_reducible apply W_block
      | with_reducible apply W_bn
      | with_reducible apply W_br
      | with_reducible apply W_be
      | with_reducible apply W_bx rfl)
    refine W_ln r.length (by simp; omega) ⟨r, _, _, rfl, hr, ?_, rfl, ?_, rfl⟩
    · rw [← ha]; rfl
    · exact argN_slc ..

theorem Sum_out (S : Nat → Option Fn) (b0 : Blk) (x : W4) (T : List Nat) (f : SF) (f3 : f 3 = .ptr 1 0) (f6 : f 6 = .ptr 2 0) (f60 : f 60 = N64 0) :
    W S (.loop L_blend_Sum_5) f ⟨[b0, .mem false x.cells, .mem false (bytesC (List.replicate 16 0))], T⟩ (fun e g B => e = .exit 10 ∧ B = ⟨[b0, .mem false x.cells, .mem false (bytesC (outB16 x 16))], T⟩) := by
  refine W_loop (I := fun k g B => ∃ i, k + i = 16 ∧ g 60 = N64 i ∧ B = ⟨[b0, .mem false x.cells, .mem false (bytesC (outB16 x i ++ List.replicate (16 - i) 0))], T⟩) 16 ⟨0, rfl, f60, rfl⟩ ?_
  rintro k g B hfr ⟨i, hk, g60, rfl⟩
  have g3 := (hfr 3 rfl).trans f3
  have g6 := (hfr 6 rfl).trans f6
  rcases Nat.lt_or_ge i 16 with hi | hi
  · obtain ⟨j, hj⟩ : ∃ j, 16 - i = j + 1 := ⟨15 - i, by omega⟩
    have e1 : (i : Int) < 16 := by omega
    have e4 : IntKind.i64.wrap ((i : Int) + 1) = ((i + 1 : Nat) : Int) := by rw [wrap_i64 (by omega)]; omega
    have e5 : IntKind.i64.wrap ((i / 4 : Nat) : Int) = ((i / 4 : Nat) : Int) := by rw [wrap_i64 (by omega)]
    have e6 : (0 : Int) ≤ ((i / 4 : Nat) : Int) := by omega
    have e7 : i / 4 < 4 := by omega
    have e8 : IntKind.i64.wrap (8 * ((i % 4 : Nat) : Int)) = 8 * ((i % 4 : Nat) : Int) := by rw [wrap_i64 (by omega)]
    have e9 : (8 * ((i % 4 : Nat) : Int)).toNat = 8 * (i % 4) := by omega
    have e10 : (0 : Int) ≤ (i : Int) := by omega
    have e11 : (outB16 x i).length + (j + 1) = 16 := by rw [outB16_length]; omega
    have e12 : i + 1 ≤ 16 := by omega
    rw [hj]
    unfold L_blend_Sum_5
    repeat' (first
      | with_reducible apply W_seq
      | with_reducible apply W_sn
      | with_reducible apply W_sr
      | with_reducible apply W_sx
      | ((first | (with_reducible apply W_reg0; focus exact rfl) | (with_reducible apply W_reg0D; focus exact rfl)); focus (simp (disch := first | decide | omega | (simp only [ZL, g3, g6, g60, e1, tdiv4, e5, Int.toNat_natCast, e6, e7, W4_get, tmod4, e9, e4, hi, e10, bytesC_length, List.length_append, List.length_replicate, e11, e12, put_at (outB16 x i) j i _ (outB16_length x i).symm] <;> omega) | fail) only [ZW, simprocAttr, -List.reduceReplicate, g3, g6, g60, e1, tdiv4, e5, Int.toNat_natCast, e6, e7, W4_get, tmod4, e9, e4, hi, e10, bytesC_length, List.length_append, List.length_replicate, e11, e12, put_at (outB16 x i) j i _ (outB16_length x i).symm]; exact rfl))
      | with_reducible apply W_D
      | with_reducible apply W_nil
      | ((first | with_reducible apply W_op | with_reducible apply W_op' | with_reducible apply W_gk | with_reducible apply W_cond | with_reducible apply W_gh); focus (simp (disch := first | decide | omega | (simp only [ZL, g3, g6, g60, e1, tdiv4, e5, Int.toNat_natCast, e6, e7, W4_get, tmod4, e9, e4, hi, e10, bytesC_length, List.length_append, List.length_replicate, e11, e12, put_at (outB16 x i) j i _ (outB16_length x i).symm] <;> omega) | fail) only [ZW, simprocAttr, -List.reduceReplicate, g3, g6, g60, e1, tdiv4, e5, Int.toNat_natCast, e6, e7, W4_get, tmod4, e9, e4, hi, e10, bytesC_length, List.length_append, List.length_replicate, e11, e12, put_at (outB16 x i) j i _ (outB16_length x i).symm]; exact rfl))
      | with_reducible apply gk_t
      | with_reducible apply gk_tf
      | with_reducible apply gk_ft
      | with_reducible apply gk_u
      | with_reducible apply W_t
      | with_reducible apply W_f
      | ((first | with_reducible apply gk_dt | with_reducible apply gk_df | with_reducible apply gk_bt | with_reducible apply gk_bf | with_reducible apply W_d | with_reducible apply W_b) <;> intro hg)
      | with_reducible apply W_skip
      | with_reducible apply W_ret
      | with_reducible apply W_exit
      | with_reducible apply W_un
      | with_reducible apply W_ux
      | with_reducible apply W_ur
      | intro hfx
      | with_reducible apply W_block
      | with_reducible apply W_bn
      | with_reducible apply W_br
      | with_reducible apply W_be
      | with_reducible apply W_bx rfl)
    · refine W_ln (k - 1) (by omega) ⟨i + 1, by omega, rfl, ?_⟩
      rw [show 16 - (i + 1) = j by omega]; rfl
  · obtain rfl : i = 16 := by omega
    unfold L_blend_Sum_5
    have g60 : g 60 = N64 16 := g60
    repeat' (first
      | with_reducible apply W_seq
      | with_reducible apply W_sn
      | with_reducible apply W_sr
      | with_reducible apply W_sx
      | ((first | (with_reducible apply W_reg0; focus exact rfl) | (with_reducible apply W_reg0D; focus exact rfl)); focus (simp (disch := first | decide | omega | (simp only [ZL, g3, g6, g60, Int.lt_irrefl] <;> omega) | fail) only [ZW, simprocAttr, -List.reduceReplicate, g3, g6, g60, Int.lt_irrefl]; exact rfl))
      | with_reducible apply W_D
      | with_reducible apply W_nil
      | ((first | with_reducible apply W_op | with_reducible apply W_op' | with_reducible apply W_gk | with_reducible apply W_cond | with_reducible apply W_gh); focus (simp (disch := first | decide | omega | (simp only [ZL, g3, g6, g60, Int.lt_irrefl] <;> omega) | fail) only [ZW, simprocAttr, -List.reduceReplicate, g3, g6, g60, Int.lt_irrefl]; exact rfl))
      | with_reducible apply gk_t
      | with_reducible apply gk_tf
      | with_reducible apply gk_ft
      | with_reducible apply gk_u
      | with_reducible apply W_t
      | with_reducible apply W_f
      | ((first | with_reducible apply gk_dt | with_reducible apply gk_df | with_reducible apply gk_bt | with_reducible apply gk_bf | with_reducible apply W_d | with_reducible apply W_b) <;> intro hg)
      | with_reducible apply W_skip
      | with_reducible apply W_ret
      | with_reducible apply W_exit
      | with_reducible apply W_un
      | with_reducible apply W_ux
      | with_reducible apply W_ur
      | intro hfx
      | with_reducible apply W_block
      | with_reducible apply W_bn
      | with_reducible apply W_br
      | with_reducible apply W_be
      | with_reducible apply W_bx rfl)
    exact ⟨rfl, by simp⟩

theorem run_Sum (S : Nat → Option Fn) (c1 c2 c3 : Nat) (h1 : S c1 = some (lift F_clone)) (h2 : S c2 = some (lift (fn1 G_word))) (h3 : S c3 = some (lift F_stirP)) (b : List UInt8) (hb : b.length ≤ 140737488355000) :
    ∃ n, (E_blend_Sum c1 c2 c3).run S n [.sl .any 1 (bytesD b)] [] = some (.agg (bytesC (sumL b)), []) := by
  unfold E_blend_Sum
  apply W_go0 rfl rfl
  have hb' : b.length < 140737488355328 := by omega
  repeat' (first
    | with_reducible apply W_seq
    | with_reducible apply W_sn
    | with_reducible apply W_sr
    | with_reducible apply W_sx
    | ((first | (with_reducible apply W_reg0; focus exact rfl) | (with_reducible apply W_reg0D; focus exact rfl)); focus (simp (disch := first | decide | omega | (simp only [ZL, callA1 h1, F_clone_b, outG_some, show List.replicate 4 (W32 0) = [W32 0, W32 0, W32 0, W32 0] from rfl, hb'] <;> omega) | fail) only [ZW, simprocAttr, -List.reduceReplicate, callA1 h1, F_clone_b, outG_some, show List.replicate 4 (W32 0) = [W32 0, W32 0, W32 0, W32 0] from rfl, hb']; exact rfl))
    | with_reducible apply W_D
    | with_reducible apply W_nil
    | ((first | with_reducible apply W_op | with_reducible apply W_op' | with_reducible apply W_gk | with_reducible apply W_cond | with_reducible apply W_gh); focus (simp (disch := first | decide | omega | (simp only [ZL, callA1 h1, F_clone_b, outG_some, show List.replicate 4 (W32 0) = [W32 0, W32 0, W32 0, W32 0] from rfl, hb'] <;> omega) | fail) only [ZW, simprocAttr, -List.reduceReplicate, callA1 h1, F_clone_b, outG_some, show List.replicate 4 (W32 0) = [W32 0, W32 0, W32 0, W32 0] from rfl, hb']; exact rfl))
    | with_reducible apply gk_t
    | with_reducible apply gk_tf
    | with_reducible apply gk_ft
    | with_reducible apply gk_u
    | with_reducible apply W_t
    | with_reducible apply W_f
    | ((first | with_reducible apply gk_dt | with_reducible apply gk_df | with_reducible apply gk_bt | with_reducible apply gk_bf | with_reducible apply W_d | with_reducible apply W_b) <;> intro hg)
    | with_reducible apply W_skip
    | with_reducible apply W_ret
    | with_reducible apply W_exit
    | with_reducible apply W_un
    | with_reducible apply W_ux
    | with_reducible apply W_ur
    | intro hfx
    | with_reducible apply W_block
    | with_reducible apply W_bn
    | with_reducible apply W_br
    | with_reducible apply W_be
    | with_reducible apply W_bx rfl)
  refine W_mono (Sum_pad S _ (b ++ [128]) _ (len_snoc _ _) _ (by simp; omega) rfl) ?_
  rintro x g1 B1 hf1 ⟨rfl, l1, hl1, rfl, g4⟩
  have g0 : g1 0 = .sl .any 1 (bytesD b) := hf1 0 rfl
  have g2 : g1 2 = .ptr 0 0 := hf1 2 rfl
  have g3 : g1 3 = .ptr 1 0 := hf1 3 rfl
  clear hf1
  repeat' (first
    | with_reducible apply W_seq
    | with_reducible apply W_sn
    | with_reducible apply W_sr
    | with_reducible apply W_sx
    | ((first | (with_reducible apply W_reg0; focus exact rfl) | (with_reducible apply W_reg0D; focus exact rfl)); focus (simp (disch := first | decide | omega | (simp only [ZL] <;> omega) | fail) only [ZW, simprocAttr, -List.reduceReplicate]; exact rfl))
    | with_reducible apply W_D
    | with_reducible apply W_nil
    | ((first | with_reducible apply W_op | with_reducible apply W_op' | with_reducible apply W_gk | with_reducible apply W_cond | with_reducible apply W_gh); focus (simp (disch := first | decide | omega | (simp only [ZL] <;> omega) | fail) only [ZW, simprocAttr, -List.reduceReplicate]; exact rfl))
    | with_reducible apply gk_t
    | with_reducible apply gk_tf
    | with_reducible apply gk_ft
    | with_reducible apply gk_u
    | with_reducible apply W_t
    | with_reducible apply W_f
    | ((first | with_reducible apply gk_dt | with_reducible apply gk_df | with_reducible apply gk_bt | with_reducible apply gk_bf | with_reducible apply W_d | with_reducible apply W_b) <;> intro hg)
    | with_reducible apply W_skip
    | with_reducible apply W_ret
    | with_reducible apply W_exit
    | with_reducible apply W_un
    | with_reducible apply W_ux
    | with_reducible apply W_ur
    | intro hfx
    | with_reducible apply W_block
    | with_reducible apply W_bn
    | with_reducible apply W_br
    | with_reducible apply W_be
    | with_reducible apply W_bx rfl)
  refine W_mono (Sum_len S _ b l1 _ (by omega) (by rw [hl1]; simp; omega) g0 rfl g4) ?_
  rintro x h1 B1 hf1 ⟨rfl, l2, hl2, rfl, h4⟩
  have h0 : h1 0 = .sl .any 1 (bytesD b) := (hf1 0 rfl).trans g0
  have h2' : h1 2 = .ptr 0 0 := (hf1 2 rfl).trans g2
  have h3' : h1 3 = .ptr 1 0 := (hf1 3 rfl).trans g3
  have hp : l2 = padded b := by rw [hl2, hl1, padded]; simp
  subst hp
  clear hf1 hl2 hl1 g4 g0 g2 g3
  repeat' (first
    | with_reducible apply W_seq
    | with_reducible apply W_sn
    | with_reducible apply W_sr
    | with_reducible apply W_sx
    | ((first | (with_reducible apply W_reg0; focus exact rfl) | (with_reducible apply W_reg0D; focus exact rfl)); focus (simp (disch := first | decide | omega | (simp only [ZL] <;> omega) | fail) only [ZW, simprocAttr, -List.reduceReplicate]; exact rfl))
    | with_reducible apply W_D
    | with_reducible apply W_nil
    | ((first | with_reducible apply W_op | with_reducible apply W_op' | with_reducible apply W_gk | with_reducible apply W_cond | with_reducible apply W_gh); focus (simp (disch := first | decide | omega | (simp only [ZL] <;> omega) | fail) only [ZW, simprocAttr, -List.reduceReplicate]; exact rfl))
    | with_reducible apply gk_t
    | with_reducible apply gk_tf
    | with_reducible apply gk_ft
    | with_reducible apply gk_u
    | with_reducible apply W_t
    | with_reducible apply W_f
    | ((first | with_reducible apply gk_dt | with_reducible apply gk_df | with_reducible apply gk_bt | with_reducible apply gk_bf | with_reducible apply W_d | with_reducible apply W_b) <;> intro hg)
    | with_reducible apply W_skip
    | with_reducible apply W_ret
    | with_reducible apply W_exit
    | with_reducible apply W_un
    | with_reducible apply W_ux
    | with_reducible apply W_ur
    | intro hfx
    | with_reducible apply W_block
    | with_reducible apply W_bn
    | with_reducible apply W_br
    | with_reducible apply W_be
    | with_reducible apply W_bx rfl)
  refine W_mono (Sum_abs S c2 c3 h2 h3 _ x0 _ (padded b) _ _ (padded_length b) h3' h4 (by simp only [AV])) ?_
  rintro x g1 B1 hf1 ⟨rfl, rfl⟩
  have g2 : g1 2 = .ptr 0 0 := (hf1 2 rfl).trans h2'
  have g3 : g1 3 = .ptr 1 0 := (hf1 3 rfl).trans h3'
  clear hf1 h0 h2' h3' h4
  repeat' (first
    | with_reducible apply W_seq
    | with_reducible apply W_sn
    | with_reducible apply W_sr
    | with_reducible apply W_sx
    | ((first | (with_reducible apply W_reg0; focus exact rfl) | (with_reducible apply W_reg0D; focus exact rfl)); focus (simp (disch := first | decide | omega | (simp only [ZL] <;> omega) | fail) only [ZW, simprocAttr, -List.reduceReplicate]; exact rfl))
    | with_reducible apply W_D
    | with_reducible apply W_nil
    | ((first | with_reducible apply W_op | with_reducible apply W_op' | with_reducible apply W_gk | with_reducible apply W_cond | with_reducible apply W_gh); focus (simp (disch := first | decide | omega | (simp only [ZL] <;> omega) | fail) only [ZW, simprocAttr, -List.reduceReplicate]; exact rfl))
    | with_reducible apply gk_t
    | with_reducible apply gk_tf
    | with_reducible apply gk_ft
    | with_reducible apply gk_u
    | with_reducible apply W_t
    | with_reducible apply W_f
    | ((first | with_reducible apply gk_dt | with_reducible apply gk_df | with_reducible apply gk_bt | with_reducible apply gk_bf | with_reducible apply W_d | with_reducible apply W_b) <;> intro hg)
    | with_reducible apply W_skip
    | with_reducible apply W_ret
    | with_reducible apply W_exit
    | with_reducible apply W_un
    | with_reducible apply W_ux
    | with_reducible apply W_ur
    | intro hfx
    | with_reducible apply W_block
    | with_reducible apply W_bn
    | with_reducible apply W_br
    | with_reducible apply W_be
    | with_reducible apply W_bx rfl)
  refine W_mono (Sum_stir8 S c3 h3 _ _ _ _ ((pt_ne rfl).trans g3) rfl) ?_
  rintro x h1 B1 hf1 ⟨rfl, rfl⟩
  have h2' : h1 2 = .ptr 0 0 := (hf1 2 rfl).trans g2
  have h3' : h1 3 = .ptr 1 0 := (hf1 3 rfl).trans g3
  clear hf1 g2 g3
  repeat' (first
    | with_reducible apply W_seq
    | with_reducible apply W_sn
    | with_reducible apply W_sr
    | with_reducible apply W_sx
    | ((first | (with_reducible apply W_reg0; focus exact rfl) | (with_reducible apply W_reg0D; focus exact rfl)); focus (simp (disch := first | decide | omega | (simp only [ZL] <;> omega) | fail) only [ZW, simprocAttr, -List.reduceReplicate]; exact rfl))
    | with_reducible apply W_D
    | with_reducible apply W_nil
    | ((first | with_reducible apply W_op | with_reducible apply W_op' | with_reducible apply W_gk | with_reducible apply W_cond | with_reducible apply W_gh); focus (simp (disch := first | decide | omega | (simp only [ZL] <;> omega) | fail) only [ZW, simprocAttr, -List.reduceReplicate]; exact rfl))
    | with_reducible apply gk_t
    | with_reducible apply gk_tf
    | with_reducible apply gk_ft
    | with_reducible apply gk_u
    | with_reducible apply W_t
    | with_reducible apply W_f
    | ((first | with_reducible apply gk_dt | with_reducible apply gk_df | with_reducible apply gk_bt | with_reducible apply gk_bf | with_reducible apply W_d | with_reducible apply W_b) <;> intro hg)
    | with_reducible apply W_skip
    | with_reducible apply W_ret
    | with_reducible apply W_exit
    | with_reducible apply W_un
    | with_reducible apply W_ux
    | with_reducible apply W_ur
    | intro hfx
    | with_reducible apply W_block
    | with_reducible apply W_bn
    | with_reducible apply W_br
    | with_reducible apply W_be
    | with_reducible apply W_bx rfl)
  refine W_mono (Sum_out S _ _ _ _ ?_ rfl rfl) ?_
  · exact h3'
  rintro x g1 B1 hf1 ⟨rfl, rfl⟩
  have g2 : g1 2 = .ptr 0 0 := (hf1 2 rfl).trans h2'
  have g6 : g1 6 = .ptr 2 0 := hf1 6 rfl
  clear hf1
  have hL := outB16_length (stirN 8 (absorb x0 (padded b))) 16
  repeat' (first
    | with_reducible apply W_seq
    | with_reducible apply W_sn
    | with_reducible apply W_sr
    | with_reducible apply W_sx
    | ((first | (with_reducible apply W_reg0; focus exact rfl) | (with_reducible apply W_reg0D; focus exact rfl)); focus (simp (disch := first | decide | omega | (simp only [ZL, g2, g6, hL] <;> omega) | fail) only [ZW, simprocAttr, -List.reduceReplicate, g2, g6, hL]; exact rfl))
    | with_reducible apply W_D
    | with_reducible apply W_nil
    | ((first | with_reducible apply W_op | with_reducible apply W_op' | with_reducible apply W_gk | with_reducible apply W_cond | with_reducible apply W_gh); focus (simp (disch := first | decide | omega | (simp only [ZL, g2, g6, hL] <;> omega) | fail) only [ZW, simprocAttr, -List.reduceReplicate, g2, g6, hL]; exact rfl))
    | with_reducible apply gk_t
    | with_reducible apply gk_tf
    | with_reducible apply gk_ft
    | with_reducible apply gk_u
    | with_reducible apply W_t
    | with_reducible apply W_f
    | ((first | with_reducible apply gk_dt | with_reducible apply gk_df | with_reducible apply gk_bt | with_reducible apply gk_bf | with_reducible apply W_d | with_reducible apply W_b) <;> intro hg)
    | with_reducible apply W_skip
    | with_reducible apply W_ret
    | with_reducible apply W_exit
    | with_reducible apply W_un
    | with_reducible apply W_ux
    | with_reducible apply W_ur
    | intro hfx
    | with_reducible apply W_block
    | with_reducible apply W_bn
    | with_reducible apply W_br
    | with_reducible apply W_be
    | with_reducible apply W_bx rfl)
  with_reducible apply fQ_end
  · first | exact Or.inl rfl | exact Or.inr rfl
  · simp (disch := first | decide | omega | (simp only [ZL, g2, hL] <;> omega) | fail) only [ZW, ZR, simprocAttr, -List.reduceReplicate, g2, hL]
    exact rfl
  · exact Nat.le_of_ble_eq_true rfl
  · first | exact rfl | (simp (disch := first | decide | omega | (simp only [ZL, g2, hL] <;> omega) | fail) only [ZW, ZR, simprocAttr, -List.reduceReplicate, g2, hL]; exact rfl)
  rfl

end Ev

namespace Ev
open Go

theorem lift_stirS (x : W4) : lift F_stirS [.loc 0 0 1 4] [.mem false x.cells] = some (.tup [], [.mem false (stir x).cells]) := by
  have h : (x.cells.map D.nm) = x.cells := rfl
  simp only [lift, List.map_cons, List.map_nil, DV, h, F_stirS, unW4_cells, Option.map_some]

theorem call_stirS {S : Nat → Option Fn} {c : Nat} (hc : S c = some (lift F_stirS)) (b0 : Blk) (x : W4) (R : List Blk) (T : List Nat) :
    callD S ⟨b0 :: .mem false x.cells :: R, T⟩ c [.loc 1 0 1 4] [0] .any = some (.tup [], ⟨b0 :: .mem false (stir x).cells :: R, T⟩) :=
  callP hc (js := [1]) (Bs := [.mem false x.cells]) (xs := [.loc 0 0 1 4]) rfl rfl rfl (by decide) rfl (lift_stirS x) rfl

def W4.put (x : W4) : Nat → BitVec 32 → W4
  | 0, v => ⟨v, x.b, x.c, x.d⟩
  | 1, v => ⟨x.a, v, x.c, x.d⟩
  | 2, v => ⟨x.a, x.b, v, x.d⟩
  | _, v => ⟨x.a, x.b, x.c, v⟩

theorem W4_put (x : W4) (i : Nat) (v : BitVec 32) (h : i < 4) : x.cells.take i ++ [W32 v] ++ x.cells.drop (i + 1) = (x.put i v).cells := by
  match i, h with
  | 0, _ => rfl
  | 1, _ => rfl
  | 2, _ => rfl
  | 3, _ => rfl
theorem get_put (x : W4) (i : Nat) (v : BitVec 32) (h : i < 4) : (x.put i v).get i = v := by
  match i, h with
  | 0, _ => rfl
  | 1, _ => rfl
  | 2, _ => rfl
  | 3, _ => rfl
theorem get_put_ne (x : W4) (i j : Nat) (v : BitVec 32) (h : i < 4) (hj : j < 4) (hn : i ≠ j) : (x.put i v).get j = x.get j := by
  match i, j, h, hj, hn with
  | 0, 0, _, _, h => exact absurd rfl h
  | 1, 1, _, _, h => exact absurd rfl h
  | 2, 2, _, _, h => exact absurd rfl h
  | 3, 3, _, _, h => exact absurd rfl h
  | 0, 1, _, _, _ => rfl
  | 0, 2, _, _, _ => rfl
  | 0, 3, _, _, _ => rfl
  | 1, 0, _, _, _ => rfl
  | 1, 2, _, _, _ => rfl
  | 1, 3, _, _, _ => rfl
  | 2, 0, _, _, _ => rfl
  | 2, 1, _, _, _ => rfl
  | 2, 3, _, _, _ => rfl
  | 3, 0, _, _, _ => rfl
  | 3, 1, _, _, _ => rfl
  | 3, 2, _, _, _ => rfl

theorem shr_256 (x : BitVec 32) (k : Nat) : BitVec.ofNat 32 ((x >>> k).toNat / 256) = x >>> (k + 8) := by
  apply BitVec.eq_of_toNat_eq
  have h1 : (x >>> k).toNat / 256 = x.toNat >>> (k + 8) := by
    rw [BitVec.toNat_ushiftRight, Nat.shiftRight_add, Nat.shiftRight_eq_div_pow _ 8]
  have h2 : (x >>> (k + 8)).toNat = x.toNat >>> (k + 8) := by rw [BitVec.toNat_ushiftRight]
  rw [h2, ← h1, BitVec.toNat_ofNat, Nat.mod_eq_of_lt]
  have := (x >>> k).isLt
  omega

-- writes 4 17 18 19 20 21 22 23 of 104
def L_ref2_Sum_0 : ECode :=
  (.seq (.seq (.reg [⟨some 17, .mov (.t 4), none⟩,
    ⟨some 18, .len (.t 17), none⟩,
    ⟨some 19, .bin .rem (.t 18) (.d (N64 8)), none⟩,
    ⟨some 20, .bin .neq (.t 19) (.d (N64 0)), none⟩])
  (.cond (.t 20) .skip
  (.exit 0)))
  (.block 1 (.reg [⟨some 21, .mov (.t 4), none⟩,
    ⟨some 22, .bsl .any 1 [B8 0] 1 [(0, (.d (B8 0)))], none⟩,
    ⟨some 23, .app false .tok 1 1 (.t 21) (.t 22), none⟩,
    ⟨some 4, .mov (.t 23), none⟩])))

-- writes 4 5 6 27 28 29 30 31 32 33 34 35 36 37 of 104
def L_ref2_Sum_1 : ECode :=
  (.seq (.seq (.reg [⟨some 27, .mov (.t 6), none⟩,
    ⟨some 28, .bin .lss (.t 27) (.d (N64 8)), none⟩])
  (.cond (.t 28) .skip
  (.exit 2)))
  (.seq (.block 3 (.seq (.reg [⟨some 31, .mov (.t 4), none⟩,
    ⟨some 32, .mov (.t 5), none⟩,
    ⟨some 33, .cv .any (.toInt .u8) (.t 32), none⟩,
    ⟨some 34, .bsl .any 1 [B8 0] 1 [(0, (.t 33))], none⟩,
    ⟨some 35, .app false .tok 1 1 (.t 31) (.t 34), none⟩,
    ⟨some 4, .mov (.t 35), none⟩])
  (.reg [⟨some 36, .mov (.t 5), none⟩,
    ⟨some 37, .bin .quo (.t 36) (.d (W64 256)), none⟩,
    ⟨some 5, .mov (.t 37), none⟩])))
  (.reg [⟨some 29, .mov (.t 6), none⟩,
    ⟨some 30, .bin .add (.t 29) (.d (N64 1)), none⟩,
    ⟨some 6, .mov (.t 30), none⟩])))

-- writes 7 38 39 40 41 42 43 44 45 46 47 48 49 50 51 52 53 54 55 56 57 58 59 60 61 62 63 64 65 66 67 68 69 70 71 72 73 74 of 104
def L_ref2_Sum_2 (c_ref2_word : Nat) (c_ref2_stir : Nat) : ECode :=
  (.seq (.seq (.reg [⟨some 38, .mov (.t 7), none⟩,
    ⟨some 39, .mov (.t 4), none⟩,
    ⟨some 40, .len (.t 39), none⟩,
    ⟨some 41, .bin .lss (.t 38) (.t 40), none⟩])
  (.cond (.t 41) .skip
  (.exit 4)))
  (.seq (.block 5 (.seq (.regD [⟨some 44, .mov (.t 3), none⟩,
    ⟨some 45, .mov (.t 3), none⟩,
    ⟨some 46, .iadrS 1 (.t 45) (.d (N64 0)), none⟩,
    ⟨some 47, .load 1 false (.t 46), none⟩,
    ⟨some 48, .mov (.t 4), none⟩,
    ⟨some 49, .mov (.t 7), none⟩,
    ⟨some 50, .mov (.t 7), none⟩,
    ⟨some 51, .bin .add (.t 50) (.d (N64 4)), none⟩,
    ⟨some 52, .slS 1 (.t 48) (some (.t 49)) (some (.t 51)), none⟩,
    ⟨some 53, .call c_ref2_word [(.t 52)] [] .any, none⟩,
    ⟨some 54, .bin .xor (.t 47) (.t 53), none⟩,
    ⟨some 55, .iadrS 1 (.t 44) (.d (N64 0)), none⟩,
    ⟨none, .store 1 (.t 55) (.t 54), none⟩] [])
  (.seq (.regD [⟨some 56, .mov (.t 3), none⟩,
    ⟨some 57, .mov (.t 3), none⟩,
    ⟨some 58, .iadrS 1 (.t 57) (.d (N64 3)), none⟩,
    ⟨some 59, .load 1 false (.t 58), none⟩,
    ⟨some 60, .mov (.t 4), none⟩,
    ⟨some 61, .mov (.t 7), none⟩,
    ⟨some 62, .bin .add (.t 61) (.d (N64 4)), none⟩,
    ⟨some 63, .mov (.t 7), none⟩,
    ⟨some 64, .bin .add (.t 63) (.d (N64 8)), none⟩,
    ⟨some 65, .slS 1 (.t 60) (some (.t 62)) (some (.t 64)), none⟩,
    ⟨some 66, .call c_ref2_word [(.t 65)] [] .any, none⟩,
    ⟨some 67, .bin .xor (.t 59) (.t 66), none⟩,
    ⟨some 68, .iadrS 1 (.t 56) (.d (N64 3)), none⟩,
    ⟨none, .store 1 (.t 68) (.t 67), none⟩] [])
  (.seq (.reg [⟨some 69, .mov (.t 3), none⟩,
    ⟨some 70, .call c_ref2_stir [(.t 69)] [0] .any, none⟩])
  (.seq (.reg [⟨some 71, .mov (.t 3), none⟩,
    ⟨some 72, .call c_ref2_stir [(.t 71)] [0] .any, none⟩])
  (.reg [⟨some 73, .mov (.t 3), none⟩,
    ⟨some 74, .call c_ref2_stir [(.t 73)] [0] .any, none⟩]))))))
  (.reg [⟨some 42, .mov (.t 7), none⟩,
    ⟨some 43, .bin .add (.t 42) (.d (N64 8)), none⟩,
    ⟨some 7, .mov (.t 43), none⟩])))

-- writes 8 75 76 77 78 79 80 of 104
def L_ref2_Sum_3 (c_ref2_stir : Nat) : ECode :=
  (.seq (.seq (.reg [⟨some 75, .mov (.t 8), none⟩,
    ⟨some 76, .bin .lss (.t 75) (.d (N64 8)), none⟩])
  (.cond (.t 76) .skip
  (.exit 6)))
  (.seq (.block 7 (.reg [⟨some 79, .mov (.t 3), none⟩,
    ⟨some 80, .call c_ref2_stir [(.t 79)] [0] .any, none⟩]))
  (.reg [⟨some 77, .mov (.t 8), none⟩,
    ⟨some 78, .bin .add (.t 77) (.d (N64 1)), none⟩,
    ⟨some 8, .mov (.t 78), none⟩])))

-- writes 10 81 82 83 84 85 86 87 88 89 90 91 92 93 94 95 96 97 98 99 100 101 102 of 104
def L_ref2_Sum_4 : ECode :=
  (.seq (.seq (.reg [⟨some 81, .mov (.t 10), none⟩,
    ⟨some 82, .bin .lss (.t 81) (.d (N64 16)), none⟩])
  (.cond (.t 82) .skip
  (.exit 8)))
  (.seq (.block 9 (.seq (.reg [⟨some 85, .mov (.t 10), none⟩,
    ⟨some 86, .mov (.t 3), none⟩,
    ⟨some 87, .mov (.t 10), none⟩,
    ⟨some 88, .bin .quo (.t 87) (.d (N64 4)), none⟩,
    ⟨some 89, .iadrS 1 (.t 86) (.t 88), none⟩,
    ⟨some 90, .load 1 false (.t 89), none⟩,
    ⟨some 91, .cv .any (.toInt .u8) (.t 90), none⟩,
    ⟨some 92, .iadrA 1 16 (.t 9) (.t 85), none⟩,
    ⟨none, .store 1 (.t 92) (.t 91), none⟩])
  (.reg [⟨some 93, .mov (.t 3), none⟩,
    ⟨some 94, .mov (.t 10), none⟩,
    ⟨some 95, .bin .quo (.t 94) (.d (N64 4)), none⟩,
    ⟨some 96, .mov (.t 3), none⟩,
    ⟨some 97, .mov (.t 10), none⟩,
    ⟨some 98, .bin .quo (.t 97) (.d (N64 4)), none⟩,
    ⟨some 99, .iadrS 1 (.t 96) (.t 98), none⟩,
    ⟨some 100, .load 1 false (.t 99), none⟩,
    ⟨some 101, .bin .quo (.t 100) (.d (W32 256)), none⟩,
    ⟨some 102, .iadrS 1 (.t 93) (.t 95), none⟩,
    ⟨none, .store 1 (.t 102) (.t 101), none⟩])))
  (.reg [⟨some 83, .mov (.t 10), none⟩,
    ⟨some 84, .bin .add (.t 83) (.d (N64 1)), none⟩,
    ⟨some 10, .mov (.t 84), none⟩])))

/-- claviger/clavigerref2.Sum -/
def E_ref2_Sum (c_ref2_word : Nat) (c_ref2_stir : Nat) : EFn := ⟨104, [.cell 2 16 true],
  (.seq (.reg [⟨some 2, .alloc (List.replicate 16 (B8 0)), none⟩])
  (.seq (.reg [⟨some 11, .bsl .trk 1 [W32 0] 4 [(0, (.d (W32 1668047222))), (1, (.d (W32 1768383858))), (2, (.d (W32 1801807216))), (3, (.d (W32 1935763045)))], none⟩,
    ⟨some 3, .mov (.t 11), none⟩])
  (.seq (.reg [⟨some 12, .bsl .tok 1 [B8 0] 0 [], none⟩,
    ⟨some 13, .mov (.t 0), none⟩,
    ⟨some 14, .app false .tok 1 1 (.t 12) (.t 13), none⟩,
    ⟨some 15, .bsl .any 1 [B8 0] 1 [(0, (.d (B8 128)))], none⟩,
    ⟨some 16, .app false .tok 1 1 (.t 14) (.t 15), none⟩,
    ⟨some 4, .mov (.t 16), none⟩])
  (.seq (.block 0 (.loop (L_ref2_Sum_0)))
  (.seq (.reg [⟨some 24, .mov (.t 0), none⟩,
    ⟨some 25, .len (.t 24), none⟩,
    ⟨some 26, .cv .any (.toInt .u64) (.t 25), none⟩,
    ⟨some 5, .mov (.t 26), none⟩])
  (.seq (.seq (.reg [⟨some 6, .mov (.d (N64 0)), none⟩])
  (.block 2 (.loop (L_ref2_Sum_1))))
  (.seq (.seq (.reg [⟨some 7, .mov (.d (N64 0)), none⟩])
  (.block 4 (.loop (L_ref2_Sum_2 c_ref2_word c_ref2_stir))))
  (.seq (.seq (.reg [⟨some 8, .mov (.d (N64 0)), none⟩])
  (.block 6 (.loop (L_ref2_Sum_3 c_ref2_stir))))
  (.seq (.reg [⟨some 9, .alloc (List.replicate 16 (B8 0)), none⟩])
  (.seq (.seq (.reg [⟨some 10, .mov (.d (N64 0)), none⟩])
  (.block 8 (.loop (L_ref2_Sum_4))))
  (.seq (.reg [⟨some 103, .load 16 true (.t 9), none⟩,
    ⟨none, .store 16 (.t 2) (.t 103), none⟩])
  .ret)))))))))))⟩

theorem rSum_pad (S : Nat → Option Fn) (Bk : List Blk) (l : List UInt8) (n : Nat) (hln : l.length = n) (f : SF) (hl : l.length ≤ 140737488355100) (h4 : f 4 = .sl (.tok 0 n) 1 (bytesD l)) :
    W S (.loop L_ref2_Sum_0) f ⟨Bk, [n]⟩ (fun x g B => x = .exit 0 ∧ ∃ l', l' = l ++ List.replicate ((8 - l.length % 8) % 8) 0 ∧ B = ⟨Bk, [l'.length]⟩ ∧ g 4 = .sl (.tok 0 l'.length) 1 (bytesD l')) := by
  subst hln
  refine W_loop (I := fun k g B => ∃ l', k = (8 - l'.length % 8) % 8 ∧ l' ++ List.replicate k 0 = l ++ List.replicate ((8 - l.length % 8) % 8) 0 ∧ l'.length + k ≤ 140737488355200 ∧ B = ⟨Bk, [l'.length]⟩ ∧ g 4 = .sl (.tok 0 l'.length) 1 (bytesD l')) _ ⟨l, rfl, rfl, by omega, rfl, h4⟩ ?_
  rintro k g B - ⟨l', hk, he, hn, rfl, g4⟩
  unfold L_ref2_Sum_0
  have hn' : l'.length < 140737488355328 := by omega
  repeat' (first
    | with_reducible apply W_seq
    | with_reducible apply W_sn
    | with_reducible apply W_sr
    | with_reducible apply W_sx
    | ((first | (with_reducible apply W_reg0; focus exact rfl) | (with_reducible apply W_reg0D; focus exact rfl)); focus (simp (disch := first | decide | omega | (simp only [ZL, g4, bytesD_length, tm8, hn'] <;> omega) | fail) only [ZW, simprocAttr, -List.reduceReplicate, g4, bytesD_length, tm8, hn']; exact rfl))
    | with_reducible apply W_D
    | with_reducible apply W_nil
    | ((first | with_reducible apply W_op | with_reducible apply W_op' | with_reducible apply W_gk | with_reducible apply W_cond | with_reducible apply W_gh); focus (simp (disch := first | decide | omega | (simp only [ZL, g4, bytesD_length, tm8, hn'] <;> omega) | fail) only [ZW, simprocAttr, -List.reduceReplicate, g4, bytesD_length, tm8, hn']; exact rfl))
    | with_reducible apply gk_t
    | with_reducible apply gk_tf
    | with_reducible apply gk_ft
    | with_reducible apply gk_u
    | with_reducible apply W_t
    | with_reducible apply W_f
    | ((first | with_reducible apply gk_dt | with_reducible apply gk_df | with_reducible apply gk_bt | with_reducible apply gk_bf | with_reducible apply W_d | with_reducible apply W_b) <;> intro hg)
    | with_reducible apply W_skip
    | with_reducible apply W_ret
    | with_reducible apply W_exit
    | with_reducible apply W_un
    | with_reducible apply W_ux
    | with_reducible apply W_ur
    | intro hfx
    | with_reducible apply W_block
    | with_reducible apply W_bn
    | with_reducible apply W_br
    | with_reducible apply W_be
    | with_reducible apply W_bx rfl)
  · refine W_ln (k - 1) (by simp at hg; omega) ⟨l' ++ [0], ?_, ?_, ?_, by rw [len_snoc], by rw [len_snoc]; rfl⟩
    · simp at hg ⊢; omega
    · rw [← he]
      obtain ⟨k, rfl⟩ : ∃ j, k = j + 1 := ⟨k - 1, by simp at hg; omega⟩
      rw [Nat.add_sub_cancel, List.replicate_succ, List.append_assoc]; rfl
    · simp at hg ⊢; omega
  · refine ⟨rfl, l', ?_, rfl, g4⟩
    rw [← he, show k = 0 by simp at hg; omega]; simp

theorem rSum_len (S : Nat → Option Fn) (Bk : List Blk) (n : Nat) (l : List UInt8) (f : SF) (hb : n ≤ 140737488355100) (hl : l.length ≤ 140737488355200) (h5 : f 5 = W64 (BitVec.ofNat 64 n)) (h6 : f 6 = N64 0) (h4 : f 4 = .sl (.tok 0 l.length) 1 (bytesD l)) :
    W S (.loop L_ref2_Sum_1) f ⟨Bk, [l.length]⟩ (fun x g B => x = .exit 2 ∧ ∃ l', l' = l ++ le64 n 8 ∧ B = ⟨Bk, [l'.length]⟩ ∧ g 4 = .sl (.tok 0 l'.length) 1 (bytesD l')) := by
  refine W_loop (I := fun k g B => ∃ i l', k + i = 8 ∧ l' = l ++ le64 n i ∧ g 6 = N64 i ∧ g 5 = W64 (BitVec.ofNat 64 (n / 2 ^ (8 * i))) ∧ B = ⟨Bk, [l'.length]⟩ ∧ g 4 = .sl (.tok 0 l'.length) 1 (bytesD l')) 8 ⟨0, l, rfl, by simp [le64], h6, by rw [h5]; simp, rfl, h4⟩ ?_
  rintro k g B hfr ⟨i, l', hk, he, g6, g5, rfl, g4⟩
  have hl' : l'.length = l.length + i := by rw [he, List.length_append, le64_length]
  have hn' : l'.length < 140737488355328 := by omega
  have hq : n / 2 ^ (8 * i) ≤ n := Nat.div_le_self _ _
  have e5 : UInt8.ofNat (BitVec.ofNat 64 (n / 2 ^ (8 * i))).toNat = UInt8.ofNat (n / 2 ^ (8 * i)) := by
    rw [BitVec.toNat_ofNat, Nat.mod_eq_of_lt (by omega)]
  have e6 : BitVec.ofNat 64 ((BitVec.ofNat 64 (n / 2 ^ (8 * i))).toNat / 256) = BitVec.ofNat 64 (n / 2 ^ (8 * (i + 1))) := by
    rw [BitVec.toNat_ofNat, Nat.mod_eq_of_lt (by omega), show (256 : Nat) = 2 ^ 8 from rfl, Nat.div_div_eq_div_mul, ← Nat.pow_add]; rfl
  unfold L_ref2_Sum_1
  repeat' (first
    | with_reducible apply W_seq
    | with_reducible apply W_sn
    | with_reducible apply W_sr
    | with_reducible apply W_sx
    | ((first | (with_reducible apply W_reg0; focus exact rfl) | (with_reducible apply W_reg0D; focus exact rfl)); focus (simp (disch := first | decide | omega | (simp only [ZL, g4, g5, g6, bytesD_length, e5, e6, hn'] <;> omega) | fail) only [ZW, simprocAttr, -List.reduceReplicate, g4, g5, g6, bytesD_length, e5, e6, hn']; exact rfl))
    | with_reducible apply W_D
    | with_reducible apply W_nil
    | ((first | with_reducible apply W_op | with_reducible apply W_op' | with_reducible apply W_gk | with_reducible apply W_cond | with_reducible apply W_gh); focus (simp (disch := first | decide | omega | (simp only [ZL, g4, g5, g6, bytesD_length, e5, e6, hn'] <;> omega) | fail) only [ZW, simprocAttr, -List.reduceReplicate, g4, g5, g6, bytesD_length, e5, e6, hn']; exact rfl))
    | with_reducible apply gk_t
    | with_reducible apply gk_tf
    | with_reducible apply gk_ft
    | with_reducible apply gk_u
    | with_reducible apply W_t
    | with_reducible apply W_f
    | ((first | with_reducible apply gk_dt | with_reducible apply gk_df | with_reducible apply gk_bt | with_reducible apply gk_bf | with_reducible apply W_d | with_reducible apply W_b) <;> intro hg)
    | with_reducible apply W_skip
    | with_reducible apply W_ret
    | with_reducible apply W_exit
    | with_reducible apply W_un
    | with_reducible apply W_ux
    | with_reducible apply W_ur
    | intro hfx
    | with_reducible apply W_block
    | with_reducible apply W_bn
    | with_reducible apply W_br
    | with_reducible apply W_be
    | with_reducible apply W_bx rfl)
  · refine W_ln (k - 1) (by omega) ⟨i + 1, l' ++ [UInt8.ofNat (n / 2 ^ (8 * i))], by omega, ?_, rfl, rfl, by rw [len_snoc], by rw [len_snoc]; rfl⟩
    rw [he, le64_succ, List.append_assoc]
  · refine ⟨rfl, l', ?_, rfl, g4⟩
    rw [he, show i = 8 by omega]

theorem rSum_abs (S : Nat → Option Fn) (c2 c3 : Nat) (h2 : S c2 = some (lift (fn1 G_word))) (h3 : S c3 = some (lift F_stirS)) (b0 : Blk) (x : W4) (T : List Nat) (l : List UInt8) (f : SF) (hl : l.length % 8 = 0) (hn : l.length ≤ 140737488355300) (f3 : f 3 = .loc 1 0 1 4)
    (f4 : f 4 = .sl (.tok 0 l.length) 1 (bytesD l)) (f7 : f 7 = N64 0) :
    W S (.loop (L_ref2_Sum_2 c2 c3)) f ⟨[b0, .mem false x.cells], T⟩ (fun e g B => e = .exit 4 ∧ B = ⟨[b0, .mem false (absorb x l).cells], T⟩) := by
  refine W_loop (I := fun k g B => ∃ i x', k + i = l.length ∧ i % 8 = 0 ∧ absorb x' (l.drop i) = absorb x l ∧ g 7 = N64 i ∧ B = ⟨[b0, .mem false x'.cells], T⟩) _ ⟨0, x, rfl, rfl, rfl, f7, rfl⟩ ?_
  rintro k g B hfr ⟨i, x', hk, hm, ha, g7, rfl⟩
  have g3 := (hfr 3 rfl).trans f3
  have g4 := (hfr 4 rfl).trans f4
  clear hfr
  rcases Nat.eq_zero_or_pos k with h0 | h0
  · have e0 : ¬ (i : Int) < l.length := by omega
    unfold L_ref2_Sum_2
    repeat' (first
      | with_reducible apply W_seq
      | with_reducible apply W_sn
      | with_reducible apply W_sr
      | with_reducible apply W_sx
      | ((first | (with_reducible apply W_reg0; focus exact rfl) | (with_reducible apply W_reg0D; focus exact rfl)); focus (simp (disch := first | decide | omega | (simp only [ZL, g4, g3, g7, bytesD_length, e0] <;> omega) | fail) only [ZW, simprocAttr, -List.reduceReplicate, g4, g3, g7, bytesD_length, e0]; exact rfl))
      | with_reducible apply W_D
      | with_reducible apply W_nil
      | ((first | with_reducible apply W_op | with_reducible apply W_op' | with_reducible apply W_gk | with_reducible apply W_cond | with_reducible apply W_gh); focus (simp (disch := first | decide | omega | (simp only [ZL, g4, g3, g7, bytesD_length, e0] <;> omega) | fail) only [ZW, simprocAttr, -List.reduceReplicate, g4, g3, g7, bytesD_length, e0]; exact rfl))
      | with_reducible apply gk_t
      | with_reducible apply gk_tf
      | with_reducible apply gk_ft
      | with_reducible apply gk_u
      | with_reducible apply W_t
      | with_reducible apply W_f
      | ((first | with_reducible apply gk_dt | with_reducible apply gk_df | with_reducible apply gk_bt | with_reducible apply gk_bf | with_reducible apply W_d | with_reducible apply W_b) <;> intro hg)
      | with_reducible apply W_skip
      | with_reducible apply W_ret
      | with_reducible apply W_exit
      | with_reducible apply W_un
      | with_reducible apply W_ux
      | with_reducible apply W_ur
      | intro hfx
      | with_reducible apply W_block
      | with_reducible apply W_bn
      | with_reducible apply W_br
      | with_reducible apply W_be
      | with_reducible apply W_bx rfl)
    refine ⟨rfl, ?_⟩
    rw [← ha, show i = l.length by omega, List.drop_length]
    rfl
  · obtain ⟨b0, b1, b2, b3, b4, b5, b6, b7, r, hd, hr⟩ := eight (l := l.drop i) (by rw [List.length_drop]; omega) (by rw [List.length_drop]; omega)
    have hlen : l.length - i = r.length + 8 := by
      have := congrArg List.length hd
      rw [List.length_drop] at this; exact this
    have e0 : (i : Int) < l.length := by omega
    have e1 : (l.take (i + 4)).drop i = [b0, b1, b2, b3] := by rw [List.drop_take, hd, show i + 4 - i = 4 by omega]; rfl
    have e2 : (l.take (i + 8)).drop (i + 4) = [b4, b5, b6, b7] := by rw [List.drop_take, ← List.drop_drop, hd, show i + 8 - (i + 4) = 4 by omega]; rfl
    have e3 : ((i : Int) + 4).toNat = i + 4 := by omega
    have e4 : ((i : Int) + 8).toNat = i + 8 := by omega
    have e5 : (0 : Int) ≤ i ∧ (i : Int) ≤ (i : Int) + 4 ∧ (i : Int) + 4 ≤ l.length := by omega
    have e6 : (0 : Int) ≤ (i : Int) + 4 ∧ (i : Int) + 4 ≤ (i : Int) + 8 ∧ (i : Int) + 8 ≤ l.length := by omega
    unfold L_ref2_Sum_2
    repeat' (first
      | with_reducible apply W_seq
      | with_reducible apply W_sn
      | with_reducible apply W_sr
      | with_reducible apply W_sx
      | ((first | (with_reducible apply W_reg0; focus exact rfl) | (with_reducible apply W_reg0D; focus exact rfl)); focus (simp (disch := first | decide | omega | (simp only [ZL, g4, g3, g7, bytesD_length, e0, W4c, call1 h2, G_word_eq, sliceB_lohi, e5, e6, e3, e4, Int.toNat_natCast, e1, e2, argN_slc, call_stirS h3] <;> omega) | fail) only [ZW, simprocAttr, -List.reduceReplicate, g4, g3, g7, bytesD_length, e0, W4c, call1 h2, G_word_eq, sliceB_lohi, e5, e6, e3, e4, Int.toNat_natCast, e1, e2, argN_slc, call_stirS h3]; exact rfl))
      | with_reducible apply W_D
      | with_reducible apply W_nil
      | ((first | with_reducible apply W_op | with_reducible apply W_op' | with_reducible apply W_gk | with_reducible apply W_cond | with_reducible apply W_gh); focus (simp (disch := first | decide | omega | (simp only [ZL, g4, g3, g7, bytesD_length, e0, W4c, call1 h2, G_word_eq, sliceB_lohi, e5, e6, e3, e4, Int.toNat_natCast, e1, e2, argN_slc, call_stirS h3] <;> omega) | fail) only [ZW, simprocAttr, -List.reduceReplicate, g4, g3, g7, bytesD_length, e0, W4c, call1 h2, G_word_eq, sliceB_lohi, e5, e6, e3, e4, Int.toNat_natCast, e1, e2, argN_slc, call_stirS h3]; exact rfl))
      | with_reducible apply gk_t
      | with_reducible apply gk_tf
      | with_reducible apply gk_ft
      | with_reducible apply gk_u
      | with_reducible apply W_t
      | with_reducible apply W_f
      | ((first | with_reducible apply gk_dt | with_reducible apply gk_df | with_reducible apply gk_bt | with_reducible apply gk_bf | with_reducible apply W_d | with_reducible apply W_b) <;> intro hg)
      | with_reducible apply W_skip
      | with_reducible apply W_ret
      | with_reducible apply W_exit
      | with_reducible apply W_un
      | with_reducible apply W_ux
      | with_reducible apply W_ur
      | intro hfx
      | with_reducible apply W_block
      | with_reducible apply W_bn
      | with_reducible apply W_br
      | with_reducible apply W_be
      | with_reducible apply W_bx rfl)
    refine W_ln (k - 8) (by omega) ⟨i + 8, _, by omega, by omega, ?_, rfl, rfl⟩
    rw [← ha, hd, ← List.drop_drop, hd]
    rfl

theorem rSum_stir8 (S : Nat → Option Fn) (c : Nat) (hc : S c = some (lift F_stirS)) (b0 : Blk) (x : W4) (T : List Nat) (f : SF) (h3 : f 3 = .loc 1 0 1 4) (h8 : f 8 = N64 0) :
    W S (.loop (L_ref2_Sum_3 c)) f ⟨[b0, .mem false x.cells], T⟩ (fun e g B => e = .exit 6 ∧ B = ⟨[b0, .mem false (stirN 8 x).cells], T⟩) := by
  refine W_loop (I := fun k g B => ∃ i, k + i = 8 ∧ g 8 = N64 i ∧ B = ⟨[b0, .mem false (stirN i x).cells], T⟩) 8 ⟨0, rfl, h8, rfl⟩ ?_
  rintro k g B hfr ⟨i, hk, g8, rfl⟩
  have g3 := (hfr 3 rfl).trans h3
  unfold L_ref2_Sum_3
  repeat' (first
    | with_reducible apply W_seq
    | with_reducible apply W_sn
    | with_reducible apply W_sr
    | with_reducible apply W_sx
    | ((first | (with_reducible apply W_reg0; focus exact rfl) | (with_reducible apply W_reg0D; focus exact rfl)); focus (simp (disch := first | decide | omega | (simp only [ZL, g3, g8, call_stirS hc] <;> omega) | fail) only [ZW, simprocAttr, -List.reduceReplicate, g3, g8, call_stirS hc]; exact rfl))
    | with_reducible apply W_D
    | with_reducible apply W_nil
    | ((first | with_reducible apply W_op | with_reducible apply W_op' | with_reducible apply W_gk | with_reducible apply W_cond | with_reducible apply W_gh); focus (simp (disch := first | decide | omega | (simp only [ZL, g3, g8, call_stirS hc] <;> omega) | fail) only [ZW, simprocAttr, -List.reduceReplicate, g3, g8, call_stirS hc]; exact rfl))
    | with_reducible apply gk_t
    | with_reducible apply gk_tf
    | with_reducible apply gk_ft
    | with_reducible apply gk_u
    | with_reducible apply W_t
    | with_reducible apply W_f
    | ((first | with_reducible apply gk_dt | with_reducible apply gk_df | with_reducible apply gk_bt | with_reducible apply gk_bf | with_reducible apply W_d | with_reducible apply W_b) <;> intro hg)
    | with_reducible apply W_skip
    | with_reducible apply W_ret
    | with_reducible apply W_exit
    | with_reducible apply W_un
    | with_reducible apply W_ux
    | with_reducible apply W_ur
    | intro hfx
    | with_reducible apply W_block
    | with_reducible apply W_bn
    | with_reducible apply W_br
    | with_reducible apply W_be
    | with_reducible apply W_bx rfl)
  · exact W_ln (k - 1) (by omega) ⟨i + 1, by omega, rfl, by rw [stirN_succ]⟩
  · exact ⟨rfl, by rw [show i = 8 by omega]⟩

theorem rSum_out (S : Nat → Option Fn) (b0 : Blk) (x : W4) (T : List Nat) (f : SF) (f3 : f 3 = .loc 1 0 1 4) (f9 : f 9 = .ptr 2 0) (f10 : f 10 = N64 0) :
    W S (.loop L_ref2_Sum_4) f ⟨[b0, .mem false x.cells, .mem false (bytesC (List.replicate 16 0))], T⟩ (fun e g B => e = .exit 8 ∧ ∃ b1, B = ⟨[b0, b1, .mem false (bytesC (outB16 x 16))], T⟩) := by
  refine W_loop (I := fun k g B => ∃ i x', k + i = 16 ∧ g 10 = N64 i ∧ (i < 16 → x'.get (i / 4) = x.get (i / 4) >>> (8 * (i % 4))) ∧ (∀ j, i / 4 < j → j < 4 → x'.get j = x.get j) ∧ B = ⟨[b0, .mem false x'.cells, .mem false (bytesC (outB16 x i ++ List.replicate (16 - i) 0))], T⟩) 16 ⟨0, x, rfl, f10, fun _ => rfl, fun _ _ _ => rfl, rfl⟩ ?_
  rintro k g B hfr ⟨i, x', hk, g10, hx, hx', rfl⟩
  have g3 := (hfr 3 rfl).trans f3
  have g9 := (hfr 9 rfl).trans f9
  rcases Nat.lt_or_ge i 16 with hi | hi
  · obtain ⟨j, hj⟩ : ∃ j, 16 - i = j + 1 := ⟨15 - i, by omega⟩
    have hx := hx hi
    have e1 : (i : Int) < 16 := by omega
    have e6 : (0 : Int) ≤ ((i / 4 : Nat) : Int) := by omega
    have e7 : i / 4 < 4 := by omega
    have e10 : (0 : Int) ≤ (i : Int) := by omega
    have e11 : (outB16 x i).length + (j + 1) = 16 := by rw [outB16_length]; omega
    have e12 : i + 1 ≤ 16 := by omega
    have e13 : i / 4 + 1 ≤ 4 := by omega
    have ep : ∀ v : UInt8, (bytesC (outB16 x i ++ List.replicate (j + 1) 0)).take i ++ [B8 v] ++ (bytesC (outB16 x i ++ List.replicate (j + 1) 0)).drop (i + 1) = bytesC ((outB16 x i ++ [v]) ++ List.replicate j 0) := fun v => put_at _ _ _ _ (outB16_length x i).symm
    rw [hj]
    unfold L_ref2_Sum_4
    repeat' (first
      | with_reducible apply W_seq
      | with_reducible apply W_sn
      | with_reducible apply W_sr
      | with_reducible apply W_sx
      | ((first | (with_reducible apply W_reg0; focus exact rfl) | (with_reducible apply W_reg0D; focus exact rfl)); focus (simp (disch := first | decide | omega | (simp only [ZL, g3, g9, g10, e1, tdiv4, Int.toNat_natCast, e6, e7, e13, W4_get, W4_put, W4c, hi, e10, List.length_append, e11, e12, ep] <;> omega) | fail) only [ZW, simprocAttr, -List.reduceReplicate, g3, g9, g10, e1, tdiv4, Int.toNat_natCast, e6, e7, e13, W4_get, W4_put, W4c, hi, e10, List.length_append, e11, e12, ep]; exact rfl))
      | with_reducible apply W_D
      | with_reducible apply W_nil
      | ((first | with_reducible apply W_op | with_reducible apply W_op' | with_reducible apply W_gk | with_reducible apply W_cond | with_reducible apply W_gh); focus (simp (disch := first | decide | omega | (simp only [ZL, g3, g9, g10, e1, tdiv4, Int.toNat_natCast, e6, e7, e13, W4_get, W4_put, W4c, hi, e10, List.length_append, e11, e12, ep] <;> omega) | fail) only [ZW, simprocAttr, -List.reduceReplicate, g3, g9, g10, e1, tdiv4, Int.toNat_natCast, e6, e7, e13, W4_get, W4_put, W4c, hi, e10, List.length_append, e11, e12, ep]; exact rfl))
      | with_reducible apply gk_t
      | with_reducible apply gk_tf
      | with_reducible apply gk_ft
      | with_reducible apply gk_u
      | with_reducible apply W_t
      | with_reducible apply W_f
      | ((first | with_reducible apply gk_dt | with_reducible apply gk_df | with_reducible apply gk_bt | with_reducible apply gk_bf | with_reducible apply W_d | with_reducible apply W_b) <;> intro hg)
      | with_reducible apply W_skip
      | with_reducible apply W_ret
      | with_reducible apply W_exit
      | with_reducible apply W_un
      | with_reducible apply W_ux
      | with_reducible apply W_ur
      | intro hfx
      | with_reducible apply W_block
      | with_reducible apply W_bn
      | with_reducible apply W_br
      | with_reducible apply W_be
      | with_reducible apply W_bx rfl)
    · refine W_ln (k - 1) (by omega) ⟨i + 1, x'.put (i / 4) (BitVec.ofNat 32 ((x'.get (i / 4)).toNat / 256)), by omega, rfl, ?_, ?_, ?_⟩
      · intro hi'
        rw [hx]
        by_cases hq : (i + 1) % 4 = 0
        · rw [show (i + 1) / 4 = i / 4 + 1 by omega, hq, get_put_ne _ _ _ _ (by omega) (by omega) (by omega), hx' _ (by omega) (by omega)]; rfl
        · rw [show (i + 1) / 4 = i / 4 by omega, get_put _ _ _ (by omega), shr_256, show 8 * (i % 4) + 8 = 8 * ((i + 1) % 4) by omega]
      · intro q hq1 hq2
        rw [get_put_ne _ _ _ _ (by omega) (by omega) (by omega), hx' _ (by omega) (by omega)]
      · rw [show 16 - (i + 1) = j by omega, outB16, hx]
  · obtain rfl : i = 16 := by omega
    have g10 : g 10 = N64 16 := g10
    unfold L_ref2_Sum_4
    repeat' (first
      | with_reducible apply W_seq
      | with_reducible apply W_sn
      | with_reducible apply W_sr
      | with_reducible apply W_sx
      | ((first | (with_reducible apply W_reg0; focus exact rfl) | (with_reducible apply W_reg0D; focus exact rfl)); focus (simp (disch := first | decide | omega | (simp only [ZL, g3, g10, Int.lt_irrefl] <;> omega) | fail) only [ZW, simprocAttr, -List.reduceReplicate, g3, g10, Int.lt_irrefl]; exact rfl))
      | with_reducible apply W_D
      | with_reducible apply W_nil
      | ((first | with_reducible apply W_op | with_reducible apply W_op' | with_reducible apply W_gk | with_reducible apply W_cond | with_reducible apply W_gh); focus (simp (disch := first | decide | omega | (simp only [ZL, g3, g10, Int.lt_irrefl] <;> omega) | fail) only [ZW, simprocAttr, -List.reduceReplicate, g3, g10, Int.lt_irrefl]; exact rfl))
      | with_reducible apply gk_t
      | with_reducible apply gk_tf
      | with_reducible apply gk_ft
      | with_reducible apply gk_u
      | with_reducible apply W_t
      | with_reducible apply W_f
      | ((first | with_reducible apply gk_dt | with_reducible apply gk_df | with_reducible apply gk_bt | with_reducible apply gk_bf | with_reducible apply W_d | with_reducible apply W_b) <;> intro hg)
      | with_reducible apply W_skip
      | with_reducible apply W_ret
      | with_reducible apply W_exit
      | with_reducible apply W_un
      | with_reducible apply W_ux
      | with_reducible apply W_ur
      | intro hfx
      | with_reducible apply W_block
      | with_reducible apply W_bn
      | with_reducible apply W_br
      | with_reducible apply W_be
      | with_reducible apply W_bx rfl)
    exact ⟨rfl, .mem false x'.cells, by simp only [Nat.sub_self, List.replicate_zero, List.append_nil]⟩

theorem app0 {B : List Blk} {b : List UInt8} {o : Own} (h : b.length ≤ 140737488355328) : appD ⟨B, [0]⟩ false .tok 1 1 (.sl (.tok 0 0) 1 []) (.sl o 1 (bytesD b)) = some (.sl (.tok 0 b.length) 1 (bytesD b), ⟨B, [b.length]⟩) := by
  have := appB ⟨B, [0]⟩ 0 0 o [] b rfl (by simp; omega)
  rwa [Nat.zero_add] at this

theorem run_rSum (S : Nat → Option Fn) (c2 c3 : Nat) (h2 : S c2 = some (lift (fn1 G_word))) (h3 : S c3 = some (lift F_stirS)) (b : List UInt8) (hb : b.length ≤ 140737488355000) :
    ∃ n, (E_ref2_Sum c2 c3).run S n [.sl .any 1 (bytesD b)] [] = some (.agg (bytesC (sumL b)), []) := by
  unfold E_ref2_Sum
  apply W_go0 rfl rfl
  have hb' : b.length < 140737488355328 := by omega
  repeat' (first
    | with_reducible apply W_seq
    | with_reducible apply W_sn
    | with_reducible apply W_sr
    | with_reducible apply W_sx
    | ((first | (with_reducible apply W_reg0; focus exact rfl) | (with_reducible apply W_reg0D; focus exact rfl)); focus (simp (disch := first | decide | omega | (simp only [ZL, show List.replicate 4 [W32 0] = [[W32 0], [W32 0], [W32 0], [W32 0]] from rfl, List.replicate_zero, bytesD_length, chunk4, List.flatten_cons, List.flatten_nil, appK0, hb'] <;> omega) | fail) only [ZW, simprocAttr, -List.reduceReplicate, show List.replicate 4 [W32 0] = [[W32 0], [W32 0], [W32 0], [W32 0]] from rfl, List.replicate_zero, bytesD_length, chunk4, List.flatten_cons, List.flatten_nil, appK0, hb']; exact rfl))
    | with_reducible apply W_D
    | with_reducible apply W_nil
    | ((first | with_reducible apply W_op | with_reducible apply W_op' | with_reducible apply W_gk | with_reducible apply W_cond | with_reducible apply W_gh); focus (simp (disch := first | decide | omega | (simp only [ZL, show List.replicate 4 [W32 0] = [[W32 0], [W32 0], [W32 0], [W32 0]] from rfl, List.replicate_zero, bytesD_length, chunk4, List.flatten_cons, List.flatten_nil, appK0, hb'] <;> omega) | fail) only [ZW, simprocAttr, -List.reduceReplicate, show List.replicate 4 [W32 0] = [[W32 0], [W32 0], [W32 0], [W32 0]] from rfl, List.replicate_zero, bytesD_length, chunk4, List.flatten_cons, List.flatten_nil, appK0, hb']; exact rfl))
    | with_reducible apply gk_t
    | with_reducible apply gk_tf
    | with_reducible apply gk_ft
    | with_reducible apply gk_u
    | with_reducible apply W_t
    | with_reducible apply W_f
    | ((first | with_reducible apply gk_dt | with_reducible apply gk_df | with_reducible apply gk_bt | with_reducible apply gk_bf | with_reducible apply W_d | with_reducible apply W_b) <;> intro hg)
    | with_reducible apply W_skip
    | with_reducible apply W_ret
    | with_reducible apply W_exit
    | with_reducible apply W_un
    | with_reducible apply W_ux
    | with_reducible apply W_ur
    | intro hfx
    | with_reducible apply W_block
    | with_reducible apply W_bn
    | with_reducible apply W_br
    | with_reducible apply W_be
    | with_reducible apply W_bx rfl)
  refine W_mono (rSum_pad S _ (b ++ [128]) _ (len_snoc _ _) _ (by simp; omega) rfl) ?_
  rintro x g1 B1 hf1 ⟨rfl, l1, hl1, rfl, g4⟩
  have g0 : g1 0 = .sl .any 1 (bytesD b) := hf1 0 rfl
  have g2 : g1 2 = .ptr 0 0 := hf1 2 rfl
  have g3 : g1 3 = .loc 1 0 1 4 := hf1 3 rfl
  clear hf1
  have e1 : BitVec.ofNat 64 ((b.length : Int) % 18446744073709551616).toNat = BitVec.ofNat 64 b.length := by congr 1; omega
  repeat' (first
    | with_reducible apply W_seq
    | with_reducible apply W_sn
    | with_reducible apply W_sr
    | with_reducible apply W_sx
    | ((first | (with_reducible apply W_reg0; focus exact rfl) | (with_reducible apply W_reg0D; focus exact rfl)); focus (simp (disch := first | decide | omega | (simp only [ZL, g0, bytesD_length, e1] <;> omega) | fail) only [ZW, simprocAttr, -List.reduceReplicate, g0, bytesD_length, e1]; exact rfl))
    | with_reducible apply W_D
    | with_reducible apply W_nil
    | ((first | with_reducible apply W_op | with_reducible apply W_op' | with_reducible apply W_gk | with_reducible apply W_cond | with_reducible apply W_gh); focus (simp (disch := first | decide | omega | (simp only [ZL, g0, bytesD_length, e1] <;> omega) | fail) only [ZW, simprocAttr, -List.reduceReplicate, g0, bytesD_length, e1]; exact rfl))
    | with_reducible apply gk_t
    | with_reducible apply gk_tf
    | with_reducible apply gk_ft
    | with_reducible apply gk_u
    | with_reducible apply W_t
    | with_reducible apply W_f
    | ((first | with_reducible apply gk_dt | with_reducible apply gk_df | with_reducible apply gk_bt | with_reducible apply gk_bf | with_reducible apply W_d | with_reducible apply W_b) <;> intro hg)
    | with_reducible apply W_skip
    | with_reducible apply W_ret
    | with_reducible apply W_exit
    | with_reducible apply W_un
    | with_reducible apply W_ux
    | with_reducible apply W_ur
    | intro hfx
    | with_reducible apply W_block
    | with_reducible apply W_bn
    | with_reducible apply W_br
    | with_reducible apply W_be
    | with_reducible apply W_bx rfl)
  refine W_mono (rSum_len S _ b.length l1 _ (by omega) (by rw [hl1]; simp; omega) rfl rfl g4) ?_
  rintro x h1 B1 hf1 ⟨rfl, l2, hl2, rfl, h4⟩
  have h2' : h1 2 = .ptr 0 0 := (hf1 2 rfl).trans g2
  have h3' : h1 3 = .loc 1 0 1 4 := (hf1 3 rfl).trans g3
  have hp : l2 = padded b := by rw [hl2, hl1, padded]; simp
  subst hp
  have hlen : (padded b).length ≤ 140737488355300 := by rw [hl2, hl1]; simp [le64_length]; omega
  clear hf1 hl2 hl1 g4 g0 g2 g3
  repeat' (first
    | with_reducible apply W_seq
    | with_reducible apply W_sn
    | with_reducible apply W_sr
    | with_reducible apply W_sx
    | ((first | (with_reducible apply W_reg0; focus exact rfl) | (with_reducible apply W_reg0D; focus exact rfl)); focus (simp (disch := first | decide | omega | (simp only [ZL] <;> omega) | fail) only [ZW, simprocAttr, -List.reduceReplicate]; exact rfl))
    | with_reducible apply W_D
    | with_reducible apply W_nil
    | ((first | with_reducible apply W_op | with_reducible apply W_op' | with_reducible apply W_gk | with_reducible apply W_cond | with_reducible apply W_gh); focus (simp (disch := first | decide | omega | (simp only [ZL] <;> omega) | fail) only [ZW, simprocAttr, -List.reduceReplicate]; exact rfl))
    | with_reducible apply gk_t
    | with_reducible apply gk_tf
    | with_reducible apply gk_ft
    | with_reducible apply gk_u
    | with_reducible apply W_t
    | with_reducible apply W_f
    | ((first | with_reducible apply gk_dt | with_reducible apply gk_df | with_reducible apply gk_bt | with_reducible apply gk_bf | with_reducible apply W_d | with_reducible apply W_b) <;> intro hg)
    | with_reducible apply W_skip
    | with_reducible apply W_ret
    | with_reducible apply W_exit
    | with_reducible apply W_un
    | with_reducible apply W_ux
    | with_reducible apply W_ur
    | intro hfx
    | with_reducible apply W_block
    | with_reducible apply W_bn
    | with_reducible apply W_br
    | with_reducible apply W_be
    | with_reducible apply W_bx rfl)
  refine W_mono (rSum_abs S c2 c3 h2 h3 _ x0 _ (padded b) _ (padded_length b) hlen h3' h4 rfl) ?_
  rintro x g1 B1 hf1 ⟨rfl, rfl⟩
  have g2 : g1 2 = .ptr 0 0 := (hf1 2 rfl).trans h2'
  have g3 : g1 3 = .loc 1 0 1 4 := (hf1 3 rfl).trans h3'
  clear hf1 h2' h3' h4
  repeat' (first
    | with_reducible apply W_seq
    | with_reducible apply W_sn
    | with_reducible apply W_sr
    | with_reducible apply W_sx
    | ((first | (with_reducible apply W_reg0; focus exact rfl) | (with_reducible apply W_reg0D; focus exact rfl)); focus (simp (disch := first | decide | omega | (simp only [ZL] <;> omega) | fail) only [ZW, simprocAttr, -List.reduceReplicate]; exact rfl))
    | with_reducible apply W_D
    | with_reducible apply W_nil
    | ((first | with_reducible apply W_op | with_reducible apply W_op' | with_reducible apply W_gk | with_reducible apply W_cond | with_reducible apply W_gh); focus (simp (disch := first | decide | omega | (simp only [ZL] <;> omega) | fail) only [ZW, simprocAttr, -List.reduceReplicate]; exact rfl))
    | with_reducible apply gk_t
    | with_reducible apply gk_tf
    | with_reducible apply gk_ft
    | with_reducible apply gk_u
    | with_reducible apply W_t
    | with_reducible apply W_f
    | ((first | with_reducible apply gk_dt | with_reducible apply gk_df | with_reducible apply gk_bt | with_reducible apply gk_bf | with_reducible apply W_d | with_reducible apply W_b) <;> intro hg)
    | with_reducible apply W_skip
    | with_reducible apply W_ret
    | with_reducible apply W_exit
    | with_reducible apply W_un
    | with_reducible apply W_ux
    | with_reducible apply W_ur
    | intro hfx
    | with_reducible apply W_block
    | with_reducible apply W_bn
    | with_reducible apply W_br
    | with_reducible apply W_be
    | with_reducible apply W_bx rfl)
  refine W_mono (rSum_stir8 S c3 h3 _ _ _ _ g3 rfl) ?_
  rintro x h1 B1 hf1 ⟨rfl, rfl⟩
  have h2' : h1 2 = .ptr 0 0 := (hf1 2 rfl).trans g2
  have h3' : h1 3 = .loc 1 0 1 4 := (hf1 3 rfl).trans g3
  clear hf1 g2 g3
  repeat' (first
    | with_reducible apply W_seq
    | with_reducible apply W_sn
    | with_reducible apply W_sr
    | with_reducible apply W_sx
    | ((first | (with_reducible apply W_reg0; focus exact rfl) | (with_reducible apply W_reg0D; focus exact rfl)); focus (simp (disch := first | decide | omega | (simp only [ZL] <;> omega) | fail) only [ZW, simprocAttr, -List.reduceReplicate]; exact rfl))
    | with_reducible apply W_D
    | with_reducible apply W_nil
    | ((first | with_reducible apply W_op | with_reducible apply W_op' | with_reducible apply W_gk | with_reducible apply W_cond | with_reducible apply W_gh); focus (simp (disch := first | decide | omega | (simp only [ZL] <;> omega) | fail) only [ZW, simprocAttr, -List.reduceReplicate]; exact rfl))
    | with_reducible apply gk_t
    | with_reducible apply gk_tf
    | with_reducible apply gk_ft
    | with_reducible apply gk_u
    | with_reducible apply W_t
    | with_reducible apply W_f
    | ((first | with_reducible apply gk_dt | with_reducible apply gk_df | with_reducible apply gk_bt | with_reducible apply gk_bf | with_reducible apply W_d | with_reducible apply W_b) <;> intro hg)
    | with_reducible apply W_skip
    | with_reducible apply W_ret
    | with_reducible apply W_exit
    | with_reducible apply W_un
    | with_reducible apply W_ux
    | with_reducible apply W_ur
    | intro hfx
    | with_reducible apply W_block
    | with_reducible apply W_bn
    | with_reducible apply W_br
    | with_reducible apply W_be
    | with_reducible apply W_bx rfl)
  refine W_mono (rSum_out S _ _ _ _ h3' rfl rfl) ?_
  rintro x g1 B1 hf1 ⟨rfl, b1, rfl⟩
  have g2 : g1 2 = .ptr 0 0 := (hf1 2 rfl).trans h2'
  have g9 : g1 9 = .ptr 2 0 := hf1 9 rfl
  clear hf1
  have hL := outB16_length (stirN 8 (absorb x0 (padded b))) 16
  repeat' (first
    | with_reducible apply W_seq
    | with_reducible apply W_sn
    | with_reducible apply W_sr
    | with_reducible apply W_sx
    | ((first | (with_reducible apply W_reg0; focus exact rfl) | (with_reducible apply W_reg0D; focus exact rfl)); focus (simp (disch := first | decide | omega | (simp only [ZL, g2, g9, hL] <;> omega) | fail) only [ZW, simprocAttr, -List.reduceReplicate, g2, g9, hL]; exact rfl))
    | with_reducible apply W_D
    | with_reducible apply W_nil
    | ((first | with_reducible apply W_op | with_reducible apply W_op' | with_reducible apply W_gk | with_reducible apply W_cond | with_reducible apply W_gh); focus (simp (disch := first | decide | omega | (simp only [ZL, g2, g9, hL] <;> omega) | fail) only [ZW, simprocAttr, -List.reduceReplicate, g2, g9, hL]; exact rfl))
    | with_reducible apply gk_t
    | with_reducible apply gk_tf
    | with_reducible apply gk_ft
    | with_reducible apply gk_u
    | with_reducible apply W_t
    | with_reducible apply W_f
    | ((first | with_reducible apply gk_dt | with_reducible apply gk_df | with_reducible apply gk_bt | with_reducible apply gk_bf | with_reducible apply W_d | with_reducible apply W_b) <;> intro hg)
    | with_reducible apply W_skip
    | with_reducible apply W_ret
    | with_reducible apply W_exit
    | with_reducible apply W_un
    | with_reducible apply W_ux
    | with_reducible apply W_ur
    | intro hfx
    | with_reducible apply W_block
    | with_reducible apply W_bn
    | with_reducible apply W_br
    | with_reducible apply W_be
    | with_reducible apply W_bx rfl)
  with_reducible apply fQ_end
  · first | exact Or.inl rfl | exact Or.inr rfl
  · simp (disch := first | decide | omega | (simp only [ZL, g2, hL] <;> omega) | fail) only [ZW, ZR, simprocAttr, -List.reduceReplicate, g2, hL]
    exact rfl
  · exact Nat.le_of_ble_eq_true rfl
  · first | exact rfl | (simp (disch := first | decide | omega | (simp only [ZL, g2, hL] <;> omega) | fail) only [ZW, ZR, simprocAttr, -List.reduceReplicate, g2, hL]; exact rfl)
  rfl

end Ev

namespace Ev
open Go

def keyedL (k b : List UInt8) : List UInt8 := sumL (k ++ b)
def twoL (a b : List UInt8) : List UInt8 := keyedL a b
def iterL (salt : List UInt8) : Nat → List UInt8 → List UInt8
  | 0, x => x
  | n + 1, x => twoL (iterL salt n x) salt
def clampR (n : Int) : Nat := if n ≤ 0 then 0 else if 1024 ≤ n then 1024 else n.toNat
def digitsL (d salt : List UInt8) (n : Int) : List UInt8 := iterL salt (clampR n) (keyedL salt d)
def withinZ (n lo hi : Int) : Int := if lo ≤ n ∧ n ≤ hi then n else lo + n % (hi - lo + 1)

theorem keyedL_length (k b : List UInt8) : (keyedL k b).length = 16 := sumL_length _
theorem twoL_length (k b : List UInt8) : (twoL k b).length = 16 := sumL_length _
theorem iterL_length (s : List UInt8) (n : Nat) (x : List UInt8) (h : x.length = 16) : (iterL s n x).length = 16 := by
  cases n with
  | zero => exact h
  | succ n => exact twoL_length _ _
theorem digitsL_length (d s : List UInt8) (n : Int) : (digitsL d s n).length = 16 := iterL_length _ _ _ (keyedL_length _ _)
theorem withinZ_in (n lo hi : Int) (h : lo ≤ hi) : lo ≤ withinZ n lo hi ∧ withinZ n lo hi ≤ hi := by
  unfold withinZ
  split
  · assumption
  · have := Int.emod_nonneg n (b := hi - lo + 1) (by omega)
    have := Int.emod_lt_of_pos n (b := hi - lo + 1) (by omega)
    omega

def G_sum (b : Bs) : Option D := if b.b.length ≤ 140737488355000 then some (.agg (bytesC (sumL b.b))) else none
def G_keyed (k : Ar) (b : Bs) : Option D := if k.b.length = 16 ∧ b.b.length ≤ 140737488354000 then some (.agg (bytesC (keyedL k.b b.b))) else none
def G_two (a b : Ar) : Option D := if a.b.length = 16 ∧ b.b.length = 16 then some (.agg (bytesC (twoL a.b b.b))) else none
def G_salt (a : Ar) : Option D := if a.b.length = 4 then some (.agg (bytesC (sumL a.b))) else none
def G_digits (d : Str) (s : Ar) (n : Int) : Option D := if s.b.length = 16 ∧ d.s.length ≤ 1000000 then some (.agg (bytesC (digitsL d.s s.b n))) else none
def G_within (n lo hi : Int) : Option D := if (-9223372036854775808 ≤ n ∧ n < 9223372036854775808) ∧ -1000000000000 ≤ lo ∧ lo ≤ hi ∧ hi ≤ 1000000000000 then some (N64 (withinZ n lo hi)) else none

theorem G_sum_eq (b : List UInt8) (h : b.length ≤ 140737488355000) : G_sum ⟨b⟩ = some (.agg (bytesC (sumL b))) := if_pos h
theorem G_keyed_eq (k b : List UInt8) (h : k.length = 16) (h2 : b.length ≤ 140737488354000) : G_keyed ⟨k⟩ ⟨b⟩ = some (.agg (bytesC (keyedL k b))) := if_pos ⟨h, h2⟩
theorem G_two_eq (k b : List UInt8) (h : k.length = 16) (h2 : b.length = 16) : G_two ⟨k⟩ ⟨b⟩ = some (.agg (bytesC (twoL k b))) := if_pos ⟨h, h2⟩
theorem G_salt_eq (b : List UInt8) (h : b.length = 4) : G_salt ⟨b⟩ = some (.agg (bytesC (sumL b))) := if_pos h
theorem G_digits_eq (d s : List UInt8) (n : Int) (h : s.length = 16) (h2 : d.length ≤ 1000000) : G_digits ⟨d⟩ ⟨s⟩ n = some (.agg (bytesC (digitsL d s n))) := if_pos ⟨h, h2⟩
theorem G_within_eq (n lo hi : Int) (h : -9223372036854775808 ≤ n ∧ n < 9223372036854775808) (h2 : -1000000000000 ≤ lo ∧ lo ≤ hi ∧ hi ≤ 1000000000000) : G_within n lo hi = some (N64 (withinZ n lo hi)) := if_pos ⟨h, h2⟩

/-- claviger/blend.Keyed -/
def E_blend_Keyed (c_bytes_Clone : Nat) (c_blend_Sum : Nat) : EFn := ⟨10, [.cell 4 16 true],
  (.seq (.reg [⟨some 2, .box (.t 0), none⟩,
    ⟨some 4, .alloc (List.replicate 16 (B8 0)), none⟩])
  (.gh (.frz 2) (.seq (.reg [⟨some 5, .slA 1 16 (.t 2) none none, none⟩,
    ⟨some 6, .call c_bytes_Clone [(.t 5)] [] .tok, none⟩,
    ⟨some 7, .mov (.t 1), none⟩,
    ⟨some 8, .app false .tok 1 1 (.t 6) (.t 7), none⟩,
    ⟨some 9, .call c_blend_Sum [(.t 8)] [] .any, none⟩,
    ⟨none, .store 16 (.t 4) (.t 9), none⟩])
  .ret)))⟩
/-- claviger/clavigerref2.Keyed -/
def E_ref2_Keyed (c_ref2_Sum : Nat) : EFn := ⟨11, [.cell 4 16 true],
  (.seq (.reg [⟨some 2, .box (.t 0), none⟩,
    ⟨some 4, .alloc (List.replicate 16 (B8 0)), none⟩])
  (.gh (.frz 2) (.seq (.reg [⟨some 5, .bsl .tok 1 [B8 0] 0 [], none⟩,
    ⟨some 6, .slA 1 16 (.t 2) none none, none⟩,
    ⟨some 7, .app false .tok 1 1 (.t 5) (.t 6), none⟩,
    ⟨some 8, .mov (.t 1), none⟩,
    ⟨some 9, .app false .tok 1 1 (.t 7) (.t 8), none⟩,
    ⟨some 10, .call c_ref2_Sum [(.t 9)] [] .any, none⟩,
    ⟨none, .store 16 (.t 4) (.t 10), none⟩])
  .ret)))⟩
/-- claviger/blend.Two -/
def E_blend_Two (c_blend_Keyed : Nat) : EFn := ⟨8, [.cell 4 16 true],
  (.seq (.reg [⟨some 2, .box (.t 0), none⟩,
    ⟨some 3, .box (.t 1), none⟩,
    ⟨some 4, .alloc (List.replicate 16 (B8 0)), none⟩])
  (.gh (.frz 3) (.seq (.regD [⟨some 5, .load 16 true (.t 2), none⟩,
    ⟨some 6, .slA 1 16 (.t 3) none none, none⟩,
    ⟨some 7, .call c_blend_Keyed [(.t 5), (.t 6)] [] .any, none⟩,
    ⟨none, .store 16 (.t 4) (.t 7), none⟩] [])
  .ret)))⟩
/-- claviger/clavigerref2.Two -/
def E_ref2_Two (c_ref2_Keyed : Nat) : EFn := ⟨8, [.cell 4 16 true],
  (.seq (.reg [⟨some 2, .box (.t 0), none⟩,
    ⟨some 3, .box (.t 1), none⟩,
    ⟨some 4, .alloc (List.replicate 16 (B8 0)), none⟩])
  (.gh (.frz 3) (.seq (.regD [⟨some 5, .load 16 true (.t 2), none⟩,
    ⟨some 6, .slA 1 16 (.t 3) none none, none⟩,
    ⟨some 7, .call c_ref2_Keyed [(.t 5), (.t 6)] [] .any, none⟩,
    ⟨none, .store 16 (.t 4) (.t 7), none⟩] [])
  .ret)))⟩
/-- claviger/stretch.Salt -/
def E_stretch_Salt (c_blend_Sum : Nat) : EFn := ⟨5, [.cell 2 16 true],
  (.seq (.reg [⟨some 1, .box (.t 0), none⟩,
    ⟨some 2, .alloc (List.replicate 16 (B8 0)), none⟩])
  (.gh (.frz 1) (.seq (.reg [⟨some 3, .slA 1 4 (.t 1) none none, none⟩,
    ⟨some 4, .call c_blend_Sum [(.t 3)] [] .any, none⟩,
    ⟨none, .store 16 (.t 2) (.t 4), none⟩])
  .ret)))⟩
/-- claviger/clavigerref2.Salt -/
def E_ref2_Salt (c_ref2_Sum : Nat) : EFn := ⟨5, [.cell 2 16 true],
  (.seq (.reg [⟨some 1, .box (.t 0), none⟩,
    ⟨some 2, .alloc (List.replicate 16 (B8 0)), none⟩])
  (.gh (.frz 1) (.seq (.reg [⟨some 3, .slA 1 4 (.t 1) none none, none⟩,
    ⟨some 4, .call c_ref2_Sum [(.t 3)] [] .any, none⟩,
    ⟨none, .store 16 (.t 2) (.t 4), none⟩])
  .ret)))⟩
-- writes 15 16 17 18 19 20 of 22
def L_stretch_Digits_0 (c_blend_Two : Nat) : ECode :=
  (.seq (.reg [⟨some 16, .bin .lss (.t 15) (.t 14), none⟩])
  (.seq (.cond (.t 16) .skip
  (.exit 0))
  (.seq (.block 1 (.reg [⟨some 17, .load 16 true (.t 7), none⟩,
    ⟨some 18, .load 16 true (.t 4), none⟩,
    ⟨some 19, .call c_blend_Two [(.t 17), (.t 18)] [] .any, none⟩,
    ⟨none, .store 16 (.t 7) (.t 19), none⟩]))
  (.reg [⟨some 20, .bin .add (.t 15) (.d (N64 1)), none⟩,
    ⟨some 15, .mov (.t 20), none⟩]))))

/-- claviger/stretch.Digits -/
def E_stretch_Digits (c_blend_Keyed : Nat) (c_blend_Two : Nat) : EFn := ⟨22, [.cell 6 16 true],
  (.seq (.reg [⟨some 4, .box (.t 1), none⟩,
    ⟨some 6, .alloc (List.replicate 16 (B8 0)), none⟩])
  (.seq (.reg [⟨some 8, .load 16 true (.t 4), none⟩,
    ⟨some 9, .mov (.t 0), none⟩,
    ⟨some 10, .cv .any .bytes (.t 9), none⟩,
    ⟨some 11, .call c_blend_Keyed [(.t 8), (.t 10)] [] .any, none⟩,
    ⟨some 7, .alloc (List.replicate 16 (B8 0)), none⟩,
    ⟨none, .store 16 (.t 7) (.t 11), none⟩])
  (.seq (.seq (.reg [⟨some 12, .mov (.t 2), none⟩,
    ⟨some 13, .mm false [(.t 12), (.d (N64 1024))], none⟩,
    ⟨some 14, .mm true [(.d (N64 0)), (.t 13)], none⟩,
    ⟨some 15, .mov (.d (N64 0)), none⟩])
  (.block 0 (.loop (L_stretch_Digits_0 c_blend_Two))))
  (.seq (.reg [⟨some 21, .load 16 true (.t 7), none⟩,
    ⟨none, .store 16 (.t 6) (.t 21), none⟩])
  .ret))))⟩
-- writes 8 16 17 18 19 20 21 22 of 24
def L_ref2_Digits_0 (c_ref2_Two : Nat) : ECode :=
  (.seq (.seq (.reg [⟨some 16, .mov (.t 8), none⟩,
    ⟨some 17, .bin .gtr (.t 16) (.d (N64 0)), none⟩])
  (.cond (.t 17) .skip
  (.exit 0)))
  (.seq (.block 1 (.reg [⟨some 20, .load 16 true (.t 7), none⟩,
    ⟨some 21, .load 16 true (.t 4), none⟩,
    ⟨some 22, .call c_ref2_Two [(.t 20), (.t 21)] [] .any, none⟩,
    ⟨none, .store 16 (.t 7) (.t 22), none⟩]))
  (.reg [⟨some 18, .mov (.t 8), none⟩,
    ⟨some 19, .bin .sub (.t 18) (.d (N64 1)), none⟩,
    ⟨some 8, .mov (.t 19), none⟩])))

/-- claviger/clavigerref2.Digits -/
def E_ref2_Digits (c_ref2_Keyed : Nat) (c_ref2_Two : Nat) : EFn := ⟨24, [.cell 6 16 true],
  (.seq (.reg [⟨some 4, .box (.t 1), none⟩,
    ⟨some 6, .alloc (List.replicate 16 (B8 0)), none⟩])
  (.seq (.reg [⟨some 9, .load 16 true (.t 4), none⟩,
    ⟨some 10, .mov (.t 0), none⟩,
    ⟨some 11, .cv .any .bytes (.t 10), none⟩,
    ⟨some 12, .call c_ref2_Keyed [(.t 9), (.t 11)] [] .any, none⟩,
    ⟨some 7, .alloc (List.replicate 16 (B8 0)), none⟩,
    ⟨none, .store 16 (.t 7) (.t 12), none⟩])
  (.seq (.seq (.reg [⟨some 13, .mov (.t 2), none⟩,
    ⟨some 14, .mm false [(.t 13), (.d (N64 1024))], none⟩,
    ⟨some 15, .mm true [(.t 14), (.d (N64 0))], none⟩,
    ⟨some 8, .mov (.t 15), none⟩])
  (.block 0 (.loop (L_ref2_Digits_0 c_ref2_Two))))
  (.seq (.reg [⟨some 23, .load 16 true (.t 7), none⟩,
    ⟨none, .store 16 (.t 6) (.t 23), none⟩])
  .ret))))⟩
/-- claviger/clavigerbook.Within -/
def E_book_Within : EFn := ⟨33, [.tmp 6],
  (.seq (.reg [⟨some 6, .mov (.d (N64 0)), none⟩])
  (.seq (.seq (.reg [⟨some 7, .mov (.t 0), none⟩,
    ⟨some 8, .mov (.t 1), none⟩,
    ⟨some 9, .bin .geq (.t 7) (.t 8), none⟩,
    ⟨some 10, .mov (.t 9), none⟩,
    ⟨some 11, .mov (.t 0), some (10, true)⟩,
    ⟨some 12, .mov (.t 2), some (10, true)⟩,
    ⟨some 13, .bin .leq (.t 11) (.t 12), some (10, true)⟩,
    ⟨some 14, .pick (.t 10) (.t 13) (.d (.bool false)), none⟩])
  (.cond (.t 14) (.seq (.reg [⟨some 15, .mov (.t 0), none⟩,
    ⟨some 6, .mov (.t 15), none⟩])
  .ret)
  .skip))
  (.seq (.reg [⟨some 16, .mov (.t 0), none⟩,
    ⟨some 17, .mov (.t 2), none⟩,
    ⟨some 18, .mov (.t 1), none⟩,
    ⟨some 19, .bin .sub (.t 17) (.t 18), none⟩,
    ⟨some 20, .bin .add (.t 19) (.d (N64 1)), none⟩,
    ⟨some 21, .bin .rem (.t 16) (.t 20), none⟩,
    ⟨some 0, .mov (.t 21), none⟩])
  (.seq (.seq (.reg [⟨some 22, .mov (.t 0), none⟩,
    ⟨some 23, .bin .lss (.t 22) (.d (N64 0)), none⟩])
  (.cond (.t 23) (.reg [⟨some 24, .mov (.t 0), none⟩,
    ⟨some 25, .mov (.t 2), none⟩,
    ⟨some 26, .bin .add (.t 24) (.t 25), none⟩,
    ⟨some 27, .mov (.t 1), none⟩,
    ⟨some 28, .bin .sub (.t 26) (.t 27), none⟩,
    ⟨some 29, .bin .add (.t 28) (.d (N64 1)), none⟩,
    ⟨some 0, .mov (.t 29), none⟩])
  .skip))
  (.seq (.reg [⟨some 30, .mov (.t 1), none⟩,
    ⟨some 31, .mov (.t 0), none⟩,
    ⟨some 32, .bin .add (.t 30) (.t 31), none⟩,
    ⟨some 6, .mov (.t 32), none⟩])
  .ret)))))⟩

theorem run_Keyed (S : Nat → Option Fn) (c1 c2 : Nat) (h1 : S c1 = some (lift F_clone)) (h2 : S c2 = some (lift (fn1 G_sum))) (k b : List UInt8) (hk : k.length = 16) (hb : b.length ≤ 140737488354000) :
    ∃ n, (E_blend_Keyed c1 c2).run S n [.agg (bytesC k), .sl .any 1 (bytesD b)] [] = some (.agg (bytesC (keyedL k b)), []) := by
  unfold E_blend_Keyed
  apply W_go0 rfl rfl
  have hL := keyedL_length k b
  have hS : sumL (k ++ b) = keyedL k b := rfl
  repeat' (first
    | with_reducible apply W_seq
    | with_reducible apply W_sn
    | with_reducible apply W_sr
    | with_reducible apply W_sx
    | ((first | (with_reducible apply W_reg0; focus exact rfl) | (with_reducible apply W_reg0D; focus exact rfl)); focus (simp (disch := first | decide | omega | (simp only [ZL, hk, callA1 h1, F_clone_b, call1 h2, G_sum_eq, hS, hL] <;> omega) | fail) only [ZW, simprocAttr, -List.reduceReplicate, hk, callA1 h1, F_clone_b, call1 h2, G_sum_eq, hS, hL]; exact rfl))
    | with_reducible apply W_D
    | with_reducible apply W_nil
    | ((first | with_reducible apply W_op | with_reducible apply W_op' | with_reducible apply W_gk | with_reducible apply W_cond | with_reducible apply W_gh); focus (simp (disch := first | decide | omega | (simp only [ZL, hk, callA1 h1, F_clone_b, call1 h2, G_sum_eq, hS, hL] <;> omega) | fail) only [ZW, simprocAttr, -List.reduceReplicate, hk, callA1 h1, F_clone_b, call1 h2, G_sum_eq, hS, hL]; exact rfl))
    | with_reducible apply gk_t
    | with_reducible apply gk_tf
    | with_reducible apply gk_ft
    | with_reducible apply gk_u
    | with_reducible apply W_t
    | with_reducible apply W_f
    | ((first | with_reducible apply gk_dt | with_reducible apply gk_df | with_reducible apply gk_bt | with_reducible apply gk_bf | with_reducible apply W_d | with_reducible apply W_b) <;> intro hg)
    | with_reducible apply W_skip
    | with_reducible apply W_ret
    | with_reducible apply W_exit
    | with_reducible apply W_un
    | with_reducible apply W_ux
    | with_reducible apply W_ur
    | intro hfx
    | with_reducible apply W_block
    | with_reducible apply W_bn
    | with_reducible apply W_br
    | with_reducible apply W_be
    | with_reducible apply W_bx rfl)
  with_reducible apply fQ_end
  · first | exact Or.inl rfl | exact Or.inr rfl
  · simp (disch := first | decide | omega | (simp only [ZL, hL] <;> omega) | fail) only [ZW, ZR, simprocAttr, -List.reduceReplicate, hL]
    exact rfl
  · exact Nat.le_of_ble_eq_true rfl
  · first | exact rfl | (simp (disch := first | decide | omega | (simp only [ZL, hL] <;> omega) | fail) only [ZW, ZR, simprocAttr, -List.reduceReplicate, hL]; exact rfl)
  rfl

theorem run_rKeyed (S : Nat → Option Fn) (c2 : Nat) (h2 : S c2 = some (lift (fn1 G_sum))) (k b : List UInt8) (hk : k.length = 16) (hb : b.length ≤ 140737488354000) :
    ∃ n, (E_ref2_Keyed c2).run S n [.agg (bytesC k), .sl .any 1 (bytesD b)] [] = some (.agg (bytesC (keyedL k b)), []) := by
  unfold E_ref2_Keyed
  apply W_go0 rfl rfl
  have hL := keyedL_length k b
  have hS : sumL (k ++ b) = keyedL k b := rfl
  repeat' (first
    | with_reducible apply W_seq
    | with_reducible apply W_sn
    | with_reducible apply W_sr
    | with_reducible apply W_sx
    | ((first | (with_reducible apply W_reg0; focus exact rfl) | (with_reducible apply W_reg0D; focus exact rfl)); focus (simp (disch := first | decide | omega | (simp only [ZL, hk, call1 h2, appK0, G_sum_eq, hS, hL] <;> omega) | fail) only [ZW, simprocAttr, -List.reduceReplicate, hk, call1 h2, appK0, G_sum_eq, hS, hL]; exact rfl))
    | with_reducible apply W_D
    | with_reducible apply W_nil
    | ((first | with_reducible apply W_op | with_reducible apply W_op' | with_reducible apply W_gk | with_reducible apply W_cond | with_reducible apply W_gh); focus (simp (disch := first | decide | omega | (simp only [ZL, hk, call1 h2, appK0, G_sum_eq, hS, hL] <;> omega) | fail) only [ZW, simprocAttr, -List.reduceReplicate, hk, call1 h2, appK0, G_sum_eq, hS, hL]; exact rfl))
    | with_reducible apply gk_t
    | with_reducible apply gk_tf
    | with_reducible apply gk_ft
    | with_reducible apply gk_u
    | with_reducible apply W_t
    | with_reducible apply W_f
    | ((first | with_reducible apply gk_dt | with_reducible apply gk_df | with_reducible apply gk_bt | with_reducible apply gk_bf | with_reducible apply W_d | with_reducible apply W_b) <;> intro hg)
    | with_reducible apply W_skip
    | with_reducible apply W_ret
    | with_reducible apply W_exit
    | with_reducible apply W_un
    | with_reducible apply W_ux
    | with_reducible apply W_ur
    | intro hfx
    | with_reducible apply W_block
    | with_reducible apply W_bn
    | with_reducible apply W_br
    | with_reducible apply W_be
    | with_reducible apply W_bx rfl)
  with_reducible apply fQ_end
  · first | exact Or.inl rfl | exact Or.inr rfl
  · simp (disch := first | decide | omega | (simp only [ZL, hL] <;> omega) | fail) only [ZW, ZR, simprocAttr, -List.reduceReplicate, hL]
    exact rfl
  · exact Nat.le_of_ble_eq_true rfl
  · first | exact rfl | (simp (disch := first | decide | omega | (simp only [ZL, hL] <;> omega) | fail) only [ZW, ZR, simprocAttr, -List.reduceReplicate, hL]; exact rfl)
  rfl

theorem run_Two (S : Nat → Option Fn) (c2 : Nat) (h2 : S c2 = some (lift (fn2 G_keyed))) (a b : List UInt8) (ha : a.length = 16) (hb : b.length = 16) :
    ∃ n, (E_blend_Two c2).run S n [.agg (bytesC a), .agg (bytesC b)] [] = some (.agg (bytesC (twoL a b)), []) := by
  unfold E_blend_Two
  apply W_go0 rfl rfl
  have hL := twoL_length a b
  have hS : keyedL a b = twoL a b := rfl
  repeat' (first
    | with_reducible apply W_seq
    | with_reducible apply W_sn
    | with_reducible apply W_sr
    | with_reducible apply W_sx
    | ((first | (with_reducible apply W_reg0; focus exact rfl) | (with_reducible apply W_reg0D; focus exact rfl)); focus (simp (disch := first | decide | omega | (simp only [ZL, ha, hb, call2 h2, G_keyed_eq, hS, hL] <;> omega) | fail) only [ZW, simprocAttr, -List.reduceReplicate, ha, hb, call2 h2, G_keyed_eq, hS, hL]; exact rfl))
    | with_reducible apply W_D
    | with_reducible apply W_nil
    | ((first | with_reducible apply W_op | with_reducible apply W_op' | with_reducible apply W_gk | with_reducible apply W_cond | with_reducible apply W_gh); focus (simp (disch := first | decide | omega | (simp only [ZL, ha, hb, call2 h2, G_keyed_eq, hS, hL] <;> omega) | fail) only [ZW, simprocAttr, -List.reduceReplicate, ha, hb, call2 h2, G_keyed_eq, hS, hL]; exact rfl))
    | with_reducible apply gk_t
    | with_reducible apply gk_tf
    | with_reducible apply gk_ft
    | with_reducible apply gk_u
    | with_reducible apply W_t
    | with_reducible apply W_f
    | ((first | with_reducible apply gk_dt | with_reducible apply gk_df | with_reducible apply gk_bt | with_reducible apply gk_bf | with_reducible apply W_d | with_reducible apply W_b) <;> intro hg)
    | with_reducible apply W_skip
    | with_reducible apply W_ret
    | with_reducible apply W_exit
    | with_reducible apply W_un
    | with_reducible apply W_ux
    | with_reducible apply W_ur
    | intro hfx
    | with_reducible apply W_block
    | with_reducible apply W_bn
    | with_reducible apply W_br
    | with_reducible apply W_be
    | with_reducible apply W_bx rfl)
  with_reducible apply fQ_end
  · first | exact Or.inl rfl | exact Or.inr rfl
  · simp (disch := first | decide | omega | (simp only [ZL, hL] <;> omega) | fail) only [ZW, ZR, simprocAttr, -List.reduceReplicate, hL]
    exact rfl
  · exact Nat.le_of_ble_eq_true rfl
  · first | exact rfl | (simp (disch := first | decide | omega | (simp only [ZL, hL] <;> omega) | fail) only [ZW, ZR, simprocAttr, -List.reduceReplicate, hL]; exact rfl)
  rfl

theorem run_rTwo (S : Nat → Option Fn) (c2 : Nat) (h2 : S c2 = some (lift (fn2 G_keyed))) (a b : List UInt8) (ha : a.length = 16) (hb : b.length = 16) :
    ∃ n, (E_ref2_Two c2).run S n [.agg (bytesC a), .agg (bytesC b)] [] = some (.agg (bytesC (twoL a b)), []) := by
  unfold E_ref2_Two
  apply W_go0 rfl rfl
  have hL := twoL_length a b
  have hS : keyedL a b = twoL a b := rfl
  repeat' (first
    | with_reducible apply W_seq
    | with_reducible apply W_sn
    | with_reducible apply W_sr
    | with_reducible apply W_sx
    | ((first | (with_reducible apply W_reg0; focus exact rfl) | (with_reducible apply W_reg0D; focus exact rfl)); focus (simp (disch := first | decide | omega | (simp only [ZL, ha, hb, call2 h2, G_keyed_eq, hS, hL] <;> omega) | fail) only [ZW, simprocAttr, -List.reduceReplicate, ha, hb, call2 h2, G_keyed_eq, hS, hL]; exact rfl))
    | with_reducible apply W_D
    | with_reducible apply W_nil
    | ((first | with_reducible apply W_op | with_reducible apply W_op' | with_reducible apply W_gk | with_reducible apply W_cond | with_reducible apply W_gh); focus (simp (disch := first | decide | omega | (simp only [ZL, ha, hb, call2 h2, G_keyed_eq, hS, hL] <;> omega) | fail) only [ZW, simprocAttr, -List.reduceReplicate, ha, hb, call2 h2, G_keyed_eq, hS, hL]; exact rfl))
    | with_reducible apply gk_t
    | with_reducible apply gk_tf
    | with_reducible apply gk_ft
    | with_reducible apply gk_u
    | with_reducible apply W_t
    | with_reducible apply W_f
    | ((first | with_reducible apply gk_dt | with_reducible apply gk_df | with_reducible apply gk_bt | with_reducible apply gk_bf | with_reducible apply W_d | with_reducible apply W_b) <;> intro hg)
    | with_reducible apply W_skip
    | with_reducible apply W_ret
    | with_reducible apply W_exit
    | with_reducible apply W_un
    | with_reducible apply W_ux
    | with_reducible apply W_ur
    | intro hfx
    | with_reducible apply W_block
    | with_reducible apply W_bn
    | with_reducible apply W_br
    | with_reducible apply W_be
    | with_reducible apply W_bx rfl)
  with_reducible apply fQ_end
  · first | exact Or.inl rfl | exact Or.inr rfl
  · simp (disch := first | decide | omega | (simp only [ZL, hL] <;> omega) | fail) only [ZW, ZR, simprocAttr, -List.reduceReplicate, hL]
    exact rfl
  · exact Nat.le_of_ble_eq_true rfl
  · first | exact rfl | (simp (disch := first | decide | omega | (simp only [ZL, hL] <;> omega) | fail) only [ZW, ZR, simprocAttr, -List.reduceReplicate, hL]; exact rfl)
  rfl

theorem run_Salt (S : Nat → Option Fn) (c2 : Nat) (h2 : S c2 = some (lift (fn1 G_sum))) (a : List UInt8) (ha : a.length = 4) :
    ∃ n, (E_stretch_Salt c2).run S n [.agg (bytesC a)] [] = some (.agg (bytesC (sumL a)), []) := by
  unfold E_stretch_Salt
  apply W_go0 rfl rfl
  have hL := sumL_length a
  repeat' (first
    | with_reducible apply W_seq
    | with_reducible apply W_sn
    | with_reducible apply W_sr
    | with_reducible apply W_sx
    | ((first | (with_reducible apply W_reg0; focus exact rfl) | (with_reducible apply W_reg0D; focus exact rfl)); focus (simp (disch := first | decide | omega | (simp only [ZL, ha, call1 h2, G_sum_eq, hL] <;> omega) | fail) only [ZW, simprocAttr, -List.reduceReplicate, ha, call1 h2, G_sum_eq, hL]; exact rfl))
    | with_reducible apply W_D
    | with_reducible apply W_nil
    | ((first | with_reducible apply W_op | with_reducible apply W_op' | with_reducible apply W_gk | with_reducible apply W_cond | with_reducible apply W_gh); focus (simp (disch := first | decide | omega | (simp only [ZL, ha, call1 h2, G_sum_eq, hL] <;> omega) | fail) only [ZW, simprocAttr, -List.reduceReplicate, ha, call1 h2, G_sum_eq, hL]; exact rfl))
    | with_reducible apply gk_t
    | with_reducible apply gk_tf
    | with_reducible apply gk_ft
    | with_reducible apply gk_u
    | with_reducible apply W_t
    | with_reducible apply W_f
    | ((first | with_reducible apply gk_dt | with_reducible apply gk_df | with_reducible apply gk_bt | with_reducible apply gk_bf | with_reducible apply W_d | with_reducible apply W_b) <;> intro hg)
    | with_reducible apply W_skip
    | with_reducible apply W_ret
    | with_reducible apply W_exit
    | with_reducible apply W_un
    | with_reducible apply W_ux
    | with_reducible apply W_ur
    | intro hfx
    | with_reducible apply W_block
    | with_reducible apply W_bn
    | with_reducible apply W_br
    | with_reducible apply W_be
    | with_reducible apply W_bx rfl)
  with_reducible apply fQ_end
  · first | exact Or.inl rfl | exact Or.inr rfl
  · simp (disch := first | decide | omega | (simp only [ZL, hL] <;> omega) | fail) only [ZW, ZR, simprocAttr, -List.reduceReplicate, hL]
    exact rfl
  · exact Nat.le_of_ble_eq_true rfl
  · first | exact rfl | (simp (disch := first | decide | omega | (simp only [ZL, hL] <;> omega) | fail) only [ZW, ZR, simprocAttr, -List.reduceReplicate, hL]; exact rfl)
  rfl

theorem run_rSalt (S : Nat → Option Fn) (c2 : Nat) (h2 : S c2 = some (lift (fn1 G_sum))) (a : List UInt8) (ha : a.length = 4) :
    ∃ n, (E_ref2_Salt c2).run S n [.agg (bytesC a)] [] = some (.agg (bytesC (sumL a)), []) := by
  unfold E_ref2_Salt
  apply W_go0 rfl rfl
  have hL := sumL_length a
  repeat' (first
    | with_reducible apply W_seq
    | with_reducible apply W_sn
    | with_reducible apply W_sr
    | with_reducible apply W_sx
    | ((first | (with_reducible apply W_reg0; focus exact rfl) | (with_reducible apply W_reg0D; focus exact rfl)); focus (simp (disch := first | decide | omega | (simp only [ZL, ha, call1 h2, G_sum_eq, hL] <;> omega) | fail) only [ZW, simprocAttr, -List.reduceReplicate, ha, call1 h2, G_sum_eq, hL]; exact rfl))
    | with_reducible apply W_D
    | with_reducible apply W_nil
    | ((first | with_reducible apply W_op | with_reducible apply W_op' | with_reducible apply W_gk | with_reducible apply W_cond | with_reducible apply W_gh); focus (simp (disch := first | decide | omega | (simp only [ZL, ha, call1 h2, G_sum_eq, hL] <;> omega) | fail) only [ZW, simprocAttr, -List.reduceReplicate, ha, call1 h2, G_sum_eq, hL]; exact rfl))
    | with_reducible apply gk_t
    | with_reducible apply gk_tf
    | with_reducible apply gk_ft
    | with_reducible apply gk_u
    | with_reducible apply W_t
    | with_reducible apply W_f
    | ((first | with_reducible apply gk_dt | with_reducible apply gk_df | with_reducible apply gk_bt | with_reducible apply gk_bf | with_reducible apply W_d | with_reducible apply W_b) <;> intro hg)
    | with_reducible apply W_skip
    | with_reducible apply W_ret
    | with_reducible apply W_exit
    | with_reducible apply W_un
    | with_reducible apply W_ux
    | with_reducible apply W_ur
    | intro hfx
    | with_reducible apply W_block
    | with_reducible apply W_bn
    | with_reducible apply W_br
    | with_reducible apply W_be
    | with_reducible apply W_bx rfl)
  with_reducible apply fQ_end
  · first | exact Or.inl rfl | exact Or.inr rfl
  · simp (disch := first | decide | omega | (simp only [ZL, hL] <;> omega) | fail) only [ZW, ZR, simprocAttr, -List.reduceReplicate, hL]
    exact rfl
  · exact Nat.le_of_ble_eq_true rfl
  · first | exact rfl | (simp (disch := first | decide | omega | (simp only [ZL, hL] <;> omega) | fail) only [ZW, ZR, simprocAttr, -List.reduceReplicate, hL]; exact rfl)
  rfl

theorem clampR_eq (n : Int) : (if 0 < (if 1024 < n then 1024 else n) then (if 1024 < n then 1024 else n) else (0 : Int)) = (clampR n : Int) := by
  unfold clampR
  repeat' split
  all_goals omega

theorem run_Digits (S : Nat → Option Fn) (c1 c2 : Nat) (h1 : S c1 = some (lift (fn2 G_keyed))) (h2 : S c2 = some (lift (fn2 G_two))) (d s : List UInt8) (n : Int) (hs : s.length = 16) (hd : d.length ≤ 1000000) :
    ∃ m, (E_stretch_Digits c1 c2).run S m [.str d, .agg (bytesC s), N64 n] [] = some (.agg (bytesC (digitsL d s n)), []) := by
  unfold E_stretch_Digits
  apply W_go0 rfl rfl
  have hK := keyedL_length s d
  have hn : clampR n ≤ 1024 := by unfold clampR; repeat' split
                                  all_goals omega
  repeat' (first
    | with_reducible apply W_seq
    | with_reducible apply W_sn
    | with_reducible apply W_sr
    | with_reducible apply W_sx
    | ((first | (with_reducible apply W_reg0; focus exact rfl) | (with_reducible apply W_reg0D; focus exact rfl)); focus (simp (disch := first | decide | omega | (simp only [ZL, hs, call2 h1, G_keyed_eq, hK] <;> omega) | fail) only [ZW, simprocAttr, -List.reduceReplicate, hs, call2 h1, G_keyed_eq, hK]; exact rfl))
    | with_reducible apply W_D
    | with_reducible apply W_nil
    | ((first | with_reducible apply W_op | with_reducible apply W_op' | with_reducible apply W_gk | with_reducible apply W_cond | with_reducible apply W_gh); focus (simp (disch := first | decide | omega | (simp only [ZL, hs, call2 h1, G_keyed_eq, hK] <;> omega) | fail) only [ZW, simprocAttr, -List.reduceReplicate, hs, call2 h1, G_keyed_eq, hK]; exact rfl))
    | with_reducible apply gk_t
    | with_reducible apply gk_tf
    | with_reducible apply gk_ft
    | with_reducible apply gk_u
    | with_reducible apply W_t
    | with_reducible apply W_f
    | ((first | with_reducible apply gk_dt | with_reducible apply gk_df | with_reducible apply gk_bt | with_reducible apply gk_bf | with_reducible apply W_d | with_reducible apply W_b) <;> intro hg)
    | with_reducible apply W_skip
    | with_reducible apply W_ret
    | with_reducible apply W_exit
    | with_reducible apply W_un
    | with_reducible apply W_ux
    | with_reducible apply W_ur
    | intro hfx
    | with_reducible apply W_block
    | with_reducible apply W_bn
    | with_reducible apply W_br
    | with_reducible apply W_be
    | with_reducible apply W_bx rfl)
  refine W_loop (I := fun k g B => ∃ i, k + i = clampR n ∧ g 15 = N64 i ∧ B = ⟨[.mem false (bytesC s), .mem false (bytesC (List.replicate 16 0)), .mem false (bytesC (iterL s i (keyedL s d)))], []⟩) _ ⟨0, rfl, rfl, rfl⟩ ?_
  rintro k g B hfr ⟨i, hk, g15, rfl⟩
  have g4 : g 4 = .ptr 0 0 := hfr 4 rfl
  have g6 : g 6 = .ptr 1 0 := hfr 6 rfl
  have g7 : g 7 = .ptr 2 0 := hfr 7 rfl
  have g14 : g 14 = N64 (clampR n) := (hfr 14 rfl).trans (congrArg N64 (clampR_eq n))
  clear hfr
  have hI := iterL_length s i (keyedL s d) hK
  have hT := twoL_length (iterL s i (keyedL s d)) s
  have hS : twoL (iterL s i (keyedL s d)) s = iterL s (i + 1) (keyedL s d) := rfl
  unfold L_stretch_Digits_0
  repeat' (first
    | with_reducible apply W_seq
    | with_reducible apply W_sn
    | with_reducible apply W_sr
    | with_reducible apply W_sx
    | ((first | (with_reducible apply W_reg0; focus exact rfl) | (with_reducible apply W_reg0D; focus exact rfl)); focus (simp (disch := first | decide | omega | (simp only [ZL, g4, g6, g7, g14, g15, hI, hs, call2 h2, G_two_eq, hT] <;> omega) | fail) only [ZW, simprocAttr, -List.reduceReplicate, g4, g6, g7, g14, g15, hI, hs, call2 h2, G_two_eq, hT]; exact rfl))
    | with_reducible apply W_D
    | with_reducible apply W_nil
    | ((first | with_reducible apply W_op | with_reducible apply W_op' | with_reducible apply W_gk | with_reducible apply W_cond | with_reducible apply W_gh); focus (simp (disch := first | decide | omega | (simp only [ZL, g4, g6, g7, g14, g15, hI, hs, call2 h2, G_two_eq, hT] <;> omega) | fail) only [ZW, simprocAttr, -List.reduceReplicate, g4, g6, g7, g14, g15, hI, hs, call2 h2, G_two_eq, hT]; exact rfl))
    | with_reducible apply gk_t
    | with_reducible apply gk_tf
    | with_reducible apply gk_ft
    | with_reducible apply gk_u
    | with_reducible apply W_t
    | with_reducible apply W_f
    | ((first | with_reducible apply gk_dt | with_reducible apply gk_df | with_reducible apply gk_bt | with_reducible apply gk_bf | with_reducible apply W_d | with_reducible apply W_b) <;> intro hg)
    | with_reducible apply W_skip
    | with_reducible apply W_ret
    | with_reducible apply W_exit
    | with_reducible apply W_un
    | with_reducible apply W_ux
    | with_reducible apply W_ur
    | intro hfx
    | with_reducible apply W_block
    | with_reducible apply W_bn
    | with_reducible apply W_br
    | with_reducible apply W_be
    | with_reducible apply W_bx rfl)
  · exact W_ln (k - 1) (by omega) ⟨i + 1, by omega, rfl, by rw [hS]⟩
  · clear hfx
    repeat' (first
      | with_reducible apply W_seq
      | with_reducible apply W_sn
      | with_reducible apply W_sr
      | with_reducible apply W_sx
      | ((first | (with_reducible apply W_reg0; focus exact rfl) | (with_reducible apply W_reg0D; focus exact rfl)); focus (simp (disch := first | decide | omega | (simp only [ZL, g4, g6, g7, hI] <;> omega) | fail) only [ZW, simprocAttr, -List.reduceReplicate, g4, g6, g7, hI]; exact rfl))
      | with_reducible apply W_D
      | with_reducible apply W_nil
      | ((first | with_reducible apply W_op | with_reducible apply W_op' | with_reducible apply W_gk | with_reducible apply W_cond | with_reducible apply W_gh); focus (simp (disch := first | decide | omega | (simp only [ZL, g4, g6, g7, hI] <;> omega) | fail) only [ZW, simprocAttr, -List.reduceReplicate, g4, g6, g7, hI]; exact rfl))
      | with_reducible apply gk_t
      | with_reducible apply gk_tf
      | with_reducible apply gk_ft
      | with_reducible apply gk_u
      | with_reducible apply W_t
      | with_reducible apply W_f
      | ((first | with_reducible apply gk_dt | with_reducible apply gk_df | with_reducible apply gk_bt | with_reducible apply gk_bf | with_reducible apply W_d | with_reducible apply W_b) <;> intro hg)
      | with_reducible apply W_skip
      | with_reducible apply W_ret
      | with_reducible apply W_exit
      | with_reducible apply W_un
      | with_reducible apply W_ux
      | with_reducible apply W_ur
      | intro hfx
      | with_reducible apply W_block
      | with_reducible apply W_bn
      | with_reducible apply W_br
      | with_reducible apply W_be
      | with_reducible apply W_bx rfl)
    with_reducible apply fQ_end
    · first | exact Or.inl rfl | exact Or.inr rfl
    · simp (disch := first | decide | omega | (simp only [ZL, g6, hI] <;> omega) | fail) only [ZW, ZR, simprocAttr, -List.reduceReplicate, g6, hI]
      exact rfl
    · exact Nat.le_of_ble_eq_true rfl
    · first | exact rfl | (simp (disch := first | decide | omega | (simp only [ZL, g6, hI] <;> omega) | fail) only [ZW, ZR, simprocAttr, -List.reduceReplicate, g6, hI]; exact rfl)
    rw [digitsL, show clampR n = i by omega]
    rfl

theorem run_rDigits (S : Nat → Option Fn) (c1 c2 : Nat) (h1 : S c1 = some (lift (fn2 G_keyed))) (h2 : S c2 = some (lift (fn2 G_two))) (d s : List UInt8) (n : Int) (hs : s.length = 16) (hd : d.length ≤ 1000000) :
    ∃ m, (E_ref2_Digits c1 c2).run S m [.str d, .agg (bytesC s), N64 n] [] = some (.agg (bytesC (digitsL d s n)), []) := by
  unfold E_ref2_Digits
  apply W_go0 rfl rfl
  have hK := keyedL_length s d
  have hn : clampR n ≤ 1024 := by unfold clampR; repeat' split
                                  all_goals omega
  have hm : (if 0 > (if 1024 < n then 1024 else n) then 0 else (if 1024 < n then 1024 else n)) = (clampR n : Int) := by
    unfold clampR; repeat' split
    all_goals omega
  repeat' (first
    | with_reducible apply W_seq
    | with_reducible apply W_sn
    | with_reducible apply W_sr
    | with_reducible apply W_sx
    | ((first | (with_reducible apply W_reg0; focus exact rfl) | (with_reducible apply W_reg0D; focus exact rfl)); focus (simp (disch := first | decide | omega | (simp only [ZL, hs, call2 h1, G_keyed_eq, hK] <;> omega) | fail) only [ZW, simprocAttr, -List.reduceReplicate, hs, call2 h1, G_keyed_eq, hK]; exact rfl))
    | with_reducible apply W_D
    | with_reducible apply W_nil
    | ((first | with_reducible apply W_op | with_reducible apply W_op' | with_reducible apply W_gk | with_reducible apply W_cond | with_reducible apply W_gh); focus (simp (disch := first | decide | omega | (simp only [ZL, hs, call2 h1, G_keyed_eq, hK] <;> omega) | fail) only [ZW, simprocAttr, -List.reduceReplicate, hs, call2 h1, G_keyed_eq, hK]; exact rfl))
    | with_reducible apply gk_t
    | with_reducible apply gk_tf
    | with_reducible apply gk_ft
    | with_reducible apply gk_u
    | with_reducible apply W_t
    | with_reducible apply W_f
    | ((first | with_reducible apply gk_dt | with_reducible apply gk_df | with_reducible apply gk_bt | with_reducible apply gk_bf | with_reducible apply W_d | with_reducible apply W_b) <;> intro hg)
    | with_reducible apply W_skip
    | with_reducible apply W_ret
    | with_reducible apply W_exit
    | with_reducible apply W_un
    | with_reducible apply W_ux
    | with_reducible apply W_ur
    | intro hfx
    | with_reducible apply W_block
    | with_reducible apply W_bn
    | with_reducible apply W_br
    | with_reducible apply W_be
    | with_reducible apply W_bx rfl)
  refine W_loop (I := fun k g B => ∃ i, k + i = clampR n ∧ g 8 = N64 k ∧ B = ⟨[.mem false (bytesC s), .mem false (bytesC (List.replicate 16 0)), .mem false (bytesC (iterL s i (keyedL s d)))], []⟩) (clampR n) ⟨0, rfl, ?_, rfl⟩ ?_
  · rw [← hm]
    simp (disch := decide) only [pt_eq, pt_ne, gt_iff_lt]
  rintro k g B hfr ⟨i, hk, g8, rfl⟩
  have g4 : g 4 = .ptr 0 0 := hfr 4 rfl
  have g6 : g 6 = .ptr 1 0 := hfr 6 rfl
  have g7 : g 7 = .ptr 2 0 := hfr 7 rfl
  clear hfr
  have hI := iterL_length s i (keyedL s d) hK
  have hT := twoL_length (iterL s i (keyedL s d)) s
  have hS : twoL (iterL s i (keyedL s d)) s = iterL s (i + 1) (keyedL s d) := rfl
  unfold L_ref2_Digits_0
  repeat' (first
    | with_reducible apply W_seq
    | with_reducible apply W_sn
    | with_reducible apply W_sr
    | with_reducible apply W_sx
    | ((first | (with_reducible apply W_reg0; focus exact rfl) | (with_reducible apply W_reg0D; focus exact rfl)); focus (simp (disch := first | decide | omega | (simp only [ZL, g4, g6, g7, g8, hI, hs, call2 h2, G_two_eq, hT] <;> omega) | fail) only [ZW, simprocAttr, -List.reduceReplicate, g4, g6, g7, g8, hI, hs, call2 h2, G_two_eq, hT]; exact rfl))
    | with_reducible apply W_D
    | with_reducible apply W_nil
    | ((first | with_reducible apply W_op | with_reducible apply W_op' | with_reducible apply W_gk | with_reducible apply W_cond | with_reducible apply W_gh); focus (simp (disch := first | decide | omega | (simp only [ZL, g4, g6, g7, g8, hI, hs, call2 h2, G_two_eq, hT] <;> omega) | fail) only [ZW, simprocAttr, -List.reduceReplicate, g4, g6, g7, g8, hI, hs, call2 h2, G_two_eq, hT]; exact rfl))
    | with_reducible apply gk_t
    | with_reducible apply gk_tf
    | with_reducible apply gk_ft
    | with_reducible apply gk_u
    | with_reducible apply W_t
    | with_reducible apply W_f
    | ((first | with_reducible apply gk_dt | with_reducible apply gk_df | with_reducible apply gk_bt | with_reducible apply gk_bf | with_reducible apply W_d | with_reducible apply W_b) <;> intro hg)
    | with_reducible apply W_skip
    | with_reducible apply W_ret
    | with_reducible apply W_exit
    | with_reducible apply W_un
    | with_reducible apply W_ux
    | with_reducible apply W_ur
    | intro hfx
    | with_reducible apply W_block
    | with_reducible apply W_bn
    | with_reducible apply W_br
    | with_reducible apply W_be
    | with_reducible apply W_bx rfl)
  · exact W_ln (k - 1) (by omega) ⟨i + 1, by omega, congrArg N64 (by omega), by rw [hS]⟩
  · clear hfx
    repeat' (first
      | with_reducible apply W_seq
      | with_reducible apply W_sn
      | with_reducible apply W_sr
      | with_reducible apply W_sx
      | ((first | (with_reducible apply W_reg0; focus exact rfl) | (with_reducible apply W_reg0D; focus exact rfl)); focus (simp (disch := first | decide | omega | (simp only [ZL, g4, g6, g7, hI] <;> omega) | fail) only [ZW, simprocAttr, -List.reduceReplicate, g4, g6, g7, hI]; exact rfl))
      | with_reducible apply W_D
      | with_reducible apply W_nil
      | ((first | with_reducible apply W_op | with_reducible apply W_op' | with_reducible apply W_gk | with_reducible apply W_cond | with_reducible apply W_gh); focus (simp (disch := first | decide | omega | (simp only [ZL, g4, g6, g7, hI] <;> omega) | fail) only [ZW, simprocAttr, -List.reduceReplicate, g4, g6, g7, hI]; exact rfl))
      | with_reducible apply gk_t
      | with_reducible apply gk_tf
      | with_reducible apply gk_ft
      | with_reducible apply gk_u
      | with_reducible apply W_t
      | with_reducible apply W_f
      | ((first | with_reducible apply gk_dt | with_reducible apply gk_df | with_reducible apply gk_bt | with_reducible apply gk_bf | with_reducible apply W_d | with_reducible apply W_b) <;> intro hg)
      | with_reducible apply W_skip
      | with_reducible apply W_ret
      | with_reducible apply W_exit
      | with_reducible apply W_un
      | with_reducible apply W_ux
      | with_reducible apply W_ur
      | intro hfx
      | with_reducible apply W_block
      | with_reducible apply W_bn
      | with_reducible apply W_br
      | with_reducible apply W_be
      | with_reducible apply W_bx rfl)
    with_reducible apply fQ_end
    · first | exact Or.inl rfl | exact Or.inr rfl
    · simp (disch := first | decide | omega | (simp only [ZL, g6, hI] <;> omega) | fail) only [ZW, ZR, simprocAttr, -List.reduceReplicate, g6, hI]
      exact rfl
    · exact Nat.le_of_ble_eq_true rfl
    · first | exact rfl | (simp (disch := first | decide | omega | (simp only [ZL, g6, hI] <;> omega) | fail) only [ZW, ZR, simprocAttr, -List.reduceReplicate, g6, hI]; exact rfl)
    rw [digitsL, show clampR n = i by omega]
    rfl

theorem run_Within (S : Nat → Option Fn) (n lo hi : Int) (h : -9223372036854775808 ≤ n ∧ n < 9223372036854775808) (h2 : -1000000000000 ≤ lo ∧ lo ≤ hi ∧ hi ≤ 1000000000000) :
    ∃ m, E_book_Within.run S m [N64 n, N64 lo, N64 hi] [] = some (N64 (withinZ n lo hi), []) := by
  have hnz : hi - lo + 1 ≠ 0 := by omega
  have hm : n.tmod (hi - lo + 1) = if 0 ≤ n then n % (hi - lo + 1) else if n % (hi - lo + 1) = 0 then 0 else n % (hi - lo + 1) - (hi - lo + 1) := by
    have hd := Int.dvd_iff_emod_eq_zero (a := hi - lo + 1) (b := n)
    rw [Int.tmod_eq_emod]
    repeat' split
    all_goals first | omega | (exfalso; simp_all; done) | (simp_all; omega)
  have e1 := Int.emod_nonneg n (b := hi - lo + 1) (by omega)
  have e2 := Int.emod_lt_of_pos n (b := hi - lo + 1) (by omega)
  have hb : -1000000000000000 ≤ n.tmod (hi - lo + 1) ∧ n.tmod (hi - lo + 1) ≤ 1000000000000000 := by
    rw [hm]; repeat' split
    all_goals omega
  unfold E_book_Within
  apply W_go0 rfl rfl
  repeat' (first
    | with_reducible apply W_seq
    | with_reducible apply W_sn
    | with_reducible apply W_sr
    | with_reducible apply W_sx
    | ((first | (with_reducible apply W_reg0; focus exact rfl) | (with_reducible apply W_reg0D; focus exact rfl)); focus (simp (disch := first | decide | omega | (simp only [ZL, hnz] <;> omega) | fail) only [ZW, simprocAttr, -List.reduceReplicate, hnz]; exact rfl))
    | with_reducible apply W_D
    | with_reducible apply W_nil
    | ((first | with_reducible apply W_op | with_reducible apply W_op' | with_reducible apply W_gk | with_reducible apply W_cond | with_reducible apply W_gh); focus (simp (disch := first | decide | omega | (simp only [ZL, hnz] <;> omega) | fail) only [ZW, simprocAttr, -List.reduceReplicate, hnz]; exact rfl))
    | with_reducible apply gk_t
    | with_reducible apply gk_tf
    | with_reducible apply gk_ft
    | with_reducible apply gk_u
    | with_reducible apply W_t
    | with_reducible apply W_f
    | ((first | with_reducible apply gk_dt | with_reducible apply gk_df | with_reducible apply gk_bt | with_reducible apply gk_bf | with_reducible apply W_d | with_reducible apply W_b) <;> intro hg)
    | with_reducible apply W_skip
    | with_reducible apply W_ret
    | with_reducible apply W_exit
    | with_reducible apply W_un
    | with_reducible apply W_ux
    | with_reducible apply W_ur
    | intro hfx
    | with_reducible apply W_block
    | with_reducible apply W_bn
    | with_reducible apply W_br
    | with_reducible apply W_be
    | with_reducible apply W_bx rfl)
  all_goals
    with_reducible apply fQ_end
    · first | exact Or.inl rfl | exact Or.inr rfl
    · simp (disch := first | decide | omega | (simp only [ZL] <;> omega) | fail) only [ZW, ZR, simprocAttr, -List.reduceReplicate]
      exact rfl
    · exact Nat.le_of_ble_eq_true rfl
    · first | exact rfl | (simp (disch := first | decide | omega | (simp only [ZL] <;> omega) | fail) only [ZW, ZR, simprocAttr, -List.reduceReplicate]; exact rfl)
    refine congrArg N64 ?_
    unfold withinZ
    generalize n % (hi - lo + 1) = q at *
    generalize n.tmod (hi - lo + 1) = t at *
    split at hm
    · split <;> omega
    · split at hm <;> split <;> omega

end Ev
