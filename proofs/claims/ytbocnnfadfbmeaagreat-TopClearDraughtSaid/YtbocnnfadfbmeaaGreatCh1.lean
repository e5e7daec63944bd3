/- Part Ch1: lemmas that the proofs of this seat share; by itself it claims nothing. -/
import Derived.Test.YtbocnnfadfbmeaaGreatChecked
import Derived.WalkKit
import Derived.Laws.Externs
import Derived.Test.YtbocnnfadfbmeaaGreatEx3
/- The shapes of the types of this seat: by a program. -/
namespace Go.Proofs.Tryz
open Go Go.Ax

def ty1 : TyI := { und := .func, size := 1, bytes := 8, agg := false, zero := [.nilFunc], flds := [], ints := false }
theorem ty1_ok : TyOK Tryz.prog 1 ty1 where
  und := ⟨_, Tryz.underlying1, rfl⟩
  info := ⟨Tryz.t1, by kernel_rfl, rfl, rfl, _, rfl, rfl⟩
  agg := rfl
  flds := fun fs h => by rw [Tryz.underlying1] at h; cases h
  eqg := fun h => by cases h
  ints := fun h => by cases h
def ty2 : TyI := { und := .int .i64, size := 1, bytes := 8, agg := false, zero := [.int .i64 0], flds := [], ints := false }
theorem ty2_ok : TyOK Tryz.prog 2 ty2 where
  und := ⟨_, Tryz.underlying2, rfl⟩
  info := ⟨Tryz.t2, by kernel_rfl, rfl, rfl, _, rfl, rfl⟩
  agg := rfl
  flds := fun fs h => by rw [Tryz.underlying2] at h; cases h
  eqg := fun h => by cases h
  ints := fun h => by cases h
def ty3 : TyI := { und := .int .i64, size := 1, bytes := 8, agg := false, zero := [.int .i64 0], flds := [], ints := false }
theorem ty3_ok : TyOK Tryz.prog 3 ty3 where
  und := ⟨_, Tryz.underlying3, rfl⟩
  info := ⟨Tryz.t3, by kernel_rfl, rfl, rfl, _, rfl, rfl⟩
  agg := rfl
  flds := fun fs h => by rw [Tryz.underlying3] at h; cases h
  eqg := fun h => by cases h
  ints := fun h => by cases h
def ty4 : TyI := { und := .bool, size := 1, bytes := 1, agg := false, zero := [.bool false], flds := [], ints := false }
theorem ty4_ok : TyOK Tryz.prog 4 ty4 where
  und := ⟨_, Tryz.underlying4, rfl⟩
  info := ⟨Tryz.t4, by kernel_rfl, rfl, rfl, _, rfl, rfl⟩
  agg := rfl
  flds := fun fs h => by rw [Tryz.underlying4] at h; cases h
  eqg := fun h => by cases h
  ints := fun h => by cases h
def ty5 : TyI := { und := .int .u8, size := 1, bytes := 1, agg := false, zero := [.int .u8 0], flds := [], ints := false }
theorem ty5_ok : TyOK Tryz.prog 5 ty5 where
  und := ⟨_, Tryz.underlying5, rfl⟩
  info := ⟨Tryz.t5, by kernel_rfl, rfl, rfl, _, rfl, rfl⟩
  agg := rfl
  flds := fun fs h => by rw [Tryz.underlying5] at h; cases h
  eqg := fun h => by cases h
  ints := fun h => by cases h
def ty9 : TyI := { und := .string, size := 1, bytes := 16, agg := false, zero := [.string ⟨#[]⟩], flds := [], ints := false }
theorem ty9_ok : TyOK Tryz.prog 9 ty9 where
  und := ⟨_, Tryz.underlying9, rfl⟩
  info := ⟨Tryz.t9, by kernel_rfl, rfl, rfl, _, rfl, rfl⟩
  agg := rfl
  flds := fun fs h => by rw [Tryz.underlying9] at h; cases h
  eqg := fun h => by cases h
  ints := fun h => by cases h
def ty22 : TyI := { und := .slice 68, size := 1, bytes := 24, agg := false, zero := [.slice none 0 0], flds := [], ints := false }
theorem ty22_ok : TyOK Tryz.prog 22 ty22 where
  und := ⟨_, Tryz.underlying22, rfl⟩
  info := ⟨Tryz.t22, by kernel_rfl, rfl, rfl, _, rfl, rfl⟩
  agg := rfl
  flds := fun fs h => by rw [Tryz.underlying22] at h; cases h
  eqg := fun h => by cases h
  ints := fun h => by cases h
def ty23 : TyI := { und := .slice 62, size := 1, bytes := 24, agg := false, zero := [.slice none 0 0], flds := [], ints := false }
theorem ty23_ok : TyOK Tryz.prog 23 ty23 where
  und := ⟨_, Tryz.underlying23, rfl⟩
  info := ⟨Tryz.t23, by kernel_rfl, rfl, rfl, _, rfl, rfl⟩
  agg := rfl
  flds := fun fs h => by rw [Tryz.underlying23] at h; cases h
  eqg := fun h => by cases h
  ints := fun h => by cases h
def ty25 : TyI := { und := .struct, size := 5, bytes := 80, agg := true, zero := [.string ⟨#[]⟩, .slice none 0 0, .int .i64 0, .int .i64 0, .slice none 0 0], flds := [(0, 1), (1, 1), (2, 1), (3, 1), (4, 1)], ints := false }
theorem ty25_ok : TyOK Tryz.prog 25 ty25 where
  und := ⟨_, Tryz.underlying25, rfl⟩
  info := ⟨Tryz.t25, by kernel_rfl, rfl, rfl, _, rfl, rfl⟩
  agg := rfl
  flds := fun fs h => by
    rw [Tryz.underlying25] at h; cases h
    exact ⟨rfl, ⟨Tryz.t9, by kernel_rfl, rfl⟩, rfl, ⟨Tryz.t22, by kernel_rfl, rfl⟩, rfl, ⟨Tryz.t3, by kernel_rfl, rfl⟩, rfl, ⟨Tryz.t3, by kernel_rfl, rfl⟩, rfl, ⟨Tryz.t23, by kernel_rfl, rfl⟩, trivial⟩
  eqg := fun h => by cases h
  ints := fun h => by cases h
def ty26 : TyI := { und := .slice 3, size := 1, bytes := 24, agg := false, zero := [.slice none 0 0], flds := [], ints := false }
theorem ty26_ok : TyOK Tryz.prog 26 ty26 where
  und := ⟨_, Tryz.underlying26, rfl⟩
  info := ⟨Tryz.t26, by kernel_rfl, rfl, rfl, _, rfl, rfl⟩
  agg := rfl
  flds := fun fs h => by rw [Tryz.underlying26] at h; cases h
  eqg := fun h => by cases h
  ints := fun h => by cases h
def ty28 : TyI := { und := .struct, size := 6, bytes := 64, agg := true, zero := [.int .i64 0, .int .i64 0, .int .i64 0, .int .i64 0, .int .i64 0, .slice none 0 0], flds := [(0, 1), (1, 1), (2, 1), (3, 1), (4, 1), (5, 1)], ints := false }
theorem ty28_ok : TyOK Tryz.prog 28 ty28 where
  und := ⟨_, Tryz.underlying28, rfl⟩
  info := ⟨Tryz.t28, by kernel_rfl, rfl, rfl, _, rfl, rfl⟩
  agg := rfl
  flds := fun fs h => by
    rw [Tryz.underlying28] at h; cases h
    exact ⟨rfl, ⟨Tryz.t3, by kernel_rfl, rfl⟩, rfl, ⟨Tryz.t3, by kernel_rfl, rfl⟩, rfl, ⟨Tryz.t3, by kernel_rfl, rfl⟩, rfl, ⟨Tryz.t3, by kernel_rfl, rfl⟩, rfl, ⟨Tryz.t3, by kernel_rfl, rfl⟩, rfl, ⟨Tryz.t26, by kernel_rfl, rfl⟩, trivial⟩
  eqg := fun h => by cases h
  ints := fun h => by cases h
def ty33 : TyI := { und := .struct, size := 3, bytes := 56, agg := true, zero := [.int .i64 0, .slice none 0 0, .slice none 0 0], flds := [(0, 1), (1, 1), (2, 1)], ints := false }
theorem ty33_ok : TyOK Tryz.prog 33 ty33 where
  und := ⟨_, Tryz.underlying33, rfl⟩
  info := ⟨Tryz.t33, by kernel_rfl, rfl, rfl, _, rfl, rfl⟩
  agg := rfl
  flds := fun fs h => by
    rw [Tryz.underlying33] at h; cases h
    exact ⟨rfl, ⟨Tryz.t3, by kernel_rfl, rfl⟩, rfl, ⟨Tryz.t26, by kernel_rfl, rfl⟩, rfl, ⟨Tryz.t26, by kernel_rfl, rfl⟩, trivial⟩
  eqg := fun h => by cases h
  ints := fun h => by cases h
def ty34 : TyI := { und := .int .i64, size := 1, bytes := 8, agg := false, zero := [.int .i64 0], flds := [], ints := false }
theorem ty34_ok : TyOK Tryz.prog 34 ty34 where
  und := ⟨_, Tryz.underlying34, rfl⟩
  info := ⟨Tryz.t34, by kernel_rfl, rfl, rfl, _, rfl, rfl⟩
  agg := rfl
  flds := fun fs h => by rw [Tryz.underlying34] at h; cases h
  eqg := fun h => by cases h
  ints := fun h => by cases h
def ty40 : TyI := { und := .struct, size := 5, bytes := 104, agg := true, zero := [.slice none 0 0, .slice none 0 0, .int .i64 0, .slice none 0 0, .slice none 0 0], flds := [(0, 1), (1, 1), (2, 3)], ints := false }
theorem ty40_ok : TyOK Tryz.prog 40 ty40 where
  und := ⟨_, Tryz.underlying40, rfl⟩
  info := ⟨Tryz.t40, by kernel_rfl, rfl, rfl, _, rfl, rfl⟩
  agg := rfl
  flds := fun fs h => by
    rw [Tryz.underlying40] at h; cases h
    exact ⟨rfl, ⟨Tryz.t26, by kernel_rfl, rfl⟩, rfl, ⟨Tryz.t26, by kernel_rfl, rfl⟩, rfl, ⟨Tryz.t33, by kernel_rfl, rfl⟩, trivial⟩
  eqg := fun h => by cases h
  ints := fun h => by cases h
theorem cmp57 : CmpT Tryz.prog 2 57 true [.int .i64 0, .int .i64 0] := cmp_struct Tryz.underlying57 (by kernel_rfl) (size_of (ti := Tryz.t57) (by kernel_rfl) rfl) ⟨by decide, rfl, false, [.int .i64 0], [.int .i64 0], rfl, (cmp_int 0 Tryz.underlying3), by decide, rfl, false, [.int .i64 0], [], rfl, (cmp_int 0 Tryz.underlying3), rfl⟩
def ty57 : TyI := { und := .struct, size := 2, bytes := 16, agg := true, zero := [.int .i64 0, .int .i64 0], flds := [(0, 1), (1, 1)], ints := true }
theorem ty57_ok : TyOK Tryz.prog 57 ty57 where
  und := ⟨_, Tryz.underlying57, rfl⟩
  info := ⟨Tryz.t57, by kernel_rfl, rfl, rfl, _, rfl, rfl⟩
  agg := rfl
  flds := fun fs h => by
    rw [Tryz.underlying57] at h; cases h
    exact ⟨rfl, ⟨Tryz.t3, by kernel_rfl, rfl⟩, rfl, ⟨Tryz.t3, by kernel_rfl, rfl⟩, trivial⟩
  eqg := fun _ => by kernel_rfl
  ints := fun _ => ints_struct cmp57 (by decide)
def ty60 : TyI := { und := .slice 57, size := 1, bytes := 24, agg := false, zero := [.slice none 0 0], flds := [], ints := false }
theorem ty60_ok : TyOK Tryz.prog 60 ty60 where
  und := ⟨_, Tryz.underlying60, rfl⟩
  info := ⟨Tryz.t60, by kernel_rfl, rfl, rfl, _, rfl, rfl⟩
  agg := rfl
  flds := fun fs h => by rw [Tryz.underlying60] at h; cases h
  eqg := fun h => by cases h
  ints := fun h => by cases h
def ty62 : TyI := { und := .struct, size := 3, bytes := 48, agg := true, zero := [.string ⟨#[]⟩, .int .i64 0, .slice none 0 0], flds := [(0, 1), (1, 1), (2, 1)], ints := false }
theorem ty62_ok : TyOK Tryz.prog 62 ty62 where
  und := ⟨_, Tryz.underlying62, rfl⟩
  info := ⟨Tryz.t62, by kernel_rfl, rfl, rfl, _, rfl, rfl⟩
  agg := rfl
  flds := fun fs h => by
    rw [Tryz.underlying62] at h; cases h
    exact ⟨rfl, ⟨Tryz.t9, by kernel_rfl, rfl⟩, rfl, ⟨Tryz.t3, by kernel_rfl, rfl⟩, rfl, ⟨Tryz.t60, by kernel_rfl, rfl⟩, trivial⟩
  eqg := fun h => by cases h
  ints := fun h => by cases h
theorem cmp68 : CmpT Tryz.prog 2 68 true [.int .i64 0, .int .i64 0, .int .i64 0, .int .i64 0, .int .i64 0] := cmp_struct Tryz.underlying68 (by kernel_rfl) (size_of (ti := Tryz.t68) (by kernel_rfl) rfl) ⟨by decide, rfl, false, [.int .i64 0], [.int .i64 0, .int .i64 0, .int .i64 0, .int .i64 0], rfl, (cmp_int 0 Tryz.underlying3), by decide, rfl, false, [.int .i64 0], [.int .i64 0, .int .i64 0, .int .i64 0], rfl, (cmp_int 0 Tryz.underlying3), by decide, rfl, false, [.int .i64 0], [.int .i64 0, .int .i64 0], rfl, (cmp_int 0 Tryz.underlying3), by decide, rfl, false, [.int .i64 0], [.int .i64 0], rfl, (cmp_int 0 Tryz.underlying3), by decide, rfl, false, [.int .i64 0], [], rfl, (cmp_int 0 Tryz.underlying3), rfl⟩
def ty68 : TyI := { und := .struct, size := 5, bytes := 40, agg := true, zero := [.int .i64 0, .int .i64 0, .int .i64 0, .int .i64 0, .int .i64 0], flds := [(0, 1), (1, 1), (2, 1), (3, 1), (4, 1)], ints := true }
theorem ty68_ok : TyOK Tryz.prog 68 ty68 where
  und := ⟨_, Tryz.underlying68, rfl⟩
  info := ⟨Tryz.t68, by kernel_rfl, rfl, rfl, _, rfl, rfl⟩
  agg := rfl
  flds := fun fs h => by
    rw [Tryz.underlying68] at h; cases h
    exact ⟨rfl, ⟨Tryz.t3, by kernel_rfl, rfl⟩, rfl, ⟨Tryz.t3, by kernel_rfl, rfl⟩, rfl, ⟨Tryz.t3, by kernel_rfl, rfl⟩, rfl, ⟨Tryz.t3, by kernel_rfl, rfl⟩, rfl, ⟨Tryz.t3, by kernel_rfl, rfl⟩, trivial⟩
  eqg := fun _ => by kernel_rfl
  ints := fun _ => ints_struct cmp68 (by decide)
def ty73 : TyI := { und := .slice 28, size := 1, bytes := 24, agg := false, zero := [.slice none 0 0], flds := [], ints := false }
theorem ty73_ok : TyOK Tryz.prog 73 ty73 where
  und := ⟨_, Tryz.underlying73, rfl⟩
  info := ⟨Tryz.t73, by kernel_rfl, rfl, rfl, _, rfl, rfl⟩
  agg := rfl
  flds := fun fs h => by rw [Tryz.underlying73] at h; cases h
  eqg := fun h => by cases h
  ints := fun h => by cases h
def ty86 : TyI := { und := .func, size := 1, bytes := 8, agg := false, zero := [.nilFunc], flds := [], ints := false }
theorem ty86_ok : TyOK Tryz.prog 86 ty86 where
  und := ⟨_, Tryz.underlying86, rfl⟩
  info := ⟨Tryz.t86, by kernel_rfl, rfl, rfl, _, rfl, rfl⟩
  agg := rfl
  flds := fun fs h => by rw [Tryz.underlying86] at h; cases h
  eqg := fun h => by cases h
  ints := fun h => by cases h
def ty94 : TyI := { und := .slice 96, size := 1, bytes := 24, agg := false, zero := [.slice none 0 0], flds := [], ints := false }
theorem ty94_ok : TyOK Tryz.prog 94 ty94 where
  und := ⟨_, Tryz.underlying94, rfl⟩
  info := ⟨Tryz.t94, by kernel_rfl, rfl, rfl, _, rfl, rfl⟩
  agg := rfl
  flds := fun fs h => by rw [Tryz.underlying94] at h; cases h
  eqg := fun h => by cases h
  ints := fun h => by cases h
theorem cmp96 : CmpT Tryz.prog 2 96 true [.int .i64 0, .int .i64 0, .int .i64 0, .int .i64 0] := cmp_struct Tryz.underlying96 (by kernel_rfl) (size_of (ti := Tryz.t96) (by kernel_rfl) rfl) ⟨by decide, rfl, false, [.int .i64 0], [.int .i64 0, .int .i64 0, .int .i64 0], rfl, (cmp_int 0 Tryz.underlying3), by decide, rfl, false, [.int .i64 0], [.int .i64 0, .int .i64 0], rfl, (cmp_int 0 Tryz.underlying3), by decide, rfl, false, [.int .i64 0], [.int .i64 0], rfl, (cmp_int 0 Tryz.underlying3), by decide, rfl, false, [.int .i64 0], [], rfl, (cmp_int 0 Tryz.underlying3), rfl⟩
def ty96 : TyI := { und := .struct, size := 4, bytes := 32, agg := true, zero := [.int .i64 0, .int .i64 0, .int .i64 0, .int .i64 0], flds := [(0, 1), (1, 1), (2, 1), (3, 1)], ints := true }
theorem ty96_ok : TyOK Tryz.prog 96 ty96 where
  und := ⟨_, Tryz.underlying96, rfl⟩
  info := ⟨Tryz.t96, by kernel_rfl, rfl, rfl, _, rfl, rfl⟩
  agg := rfl
  flds := fun fs h => by
    rw [Tryz.underlying96] at h; cases h
    exact ⟨rfl, ⟨Tryz.t3, by kernel_rfl, rfl⟩, rfl, ⟨Tryz.t3, by kernel_rfl, rfl⟩, rfl, ⟨Tryz.t3, by kernel_rfl, rfl⟩, rfl, ⟨Tryz.t3, by kernel_rfl, rfl⟩, trivial⟩
  eqg := fun _ => by kernel_rfl
  ints := fun _ => ints_struct cmp96 (by decide)
def ty106 : TyI := { und := .slice 109, size := 1, bytes := 24, agg := false, zero := [.slice none 0 0], flds := [], ints := false }
theorem ty106_ok : TyOK Tryz.prog 106 ty106 where
  und := ⟨_, Tryz.underlying106, rfl⟩
  info := ⟨Tryz.t106, by kernel_rfl, rfl, rfl, _, rfl, rfl⟩
  agg := rfl
  flds := fun fs h => by rw [Tryz.underlying106] at h; cases h
  eqg := fun h => by cases h
  ints := fun h => by cases h
theorem cmp109 : CmpT Tryz.prog 2 109 true [.int .i64 0, .int .i64 0, .int .i64 0, .int .i64 0] := cmp_struct Tryz.underlying109 (by kernel_rfl) (size_of (ti := Tryz.t109) (by kernel_rfl) rfl) ⟨by decide, rfl, false, [.int .i64 0], [.int .i64 0, .int .i64 0, .int .i64 0], rfl, (cmp_int 0 Tryz.underlying3), by decide, rfl, false, [.int .i64 0], [.int .i64 0, .int .i64 0], rfl, (cmp_int 0 Tryz.underlying3), by decide, rfl, false, [.int .i64 0], [.int .i64 0], rfl, (cmp_int 0 Tryz.underlying3), by decide, rfl, false, [.int .i64 0], [], rfl, (cmp_int 0 Tryz.underlying3), rfl⟩
def ty109 : TyI := { und := .struct, size := 4, bytes := 32, agg := true, zero := [.int .i64 0, .int .i64 0, .int .i64 0, .int .i64 0], flds := [(0, 1), (1, 1), (2, 1), (3, 1)], ints := true }
theorem ty109_ok : TyOK Tryz.prog 109 ty109 where
  und := ⟨_, Tryz.underlying109, rfl⟩
  info := ⟨Tryz.t109, by kernel_rfl, rfl, rfl, _, rfl, rfl⟩
  agg := rfl
  flds := fun fs h => by
    rw [Tryz.underlying109] at h; cases h
    exact ⟨rfl, ⟨Tryz.t3, by kernel_rfl, rfl⟩, rfl, ⟨Tryz.t3, by kernel_rfl, rfl⟩, rfl, ⟨Tryz.t3, by kernel_rfl, rfl⟩, rfl, ⟨Tryz.t3, by kernel_rfl, rfl⟩, trivial⟩
  eqg := fun _ => by kernel_rfl
  ints := fun _ => ints_struct cmp109 (by decide)
def ty110 : TyI := { und := .slice 4, size := 1, bytes := 24, agg := false, zero := [.slice none 0 0], flds := [], ints := false }
theorem ty110_ok : TyOK Tryz.prog 110 ty110 where
  und := ⟨_, Tryz.underlying110, rfl⟩
  info := ⟨Tryz.t110, by kernel_rfl, rfl, rfl, _, rfl, rfl⟩
  agg := rfl
  flds := fun fs h => by rw [Tryz.underlying110] at h; cases h
  eqg := fun h => by cases h
  ints := fun h => by cases h
def ty119 : TyI := { und := .int .u64, size := 1, bytes := 8, agg := false, zero := [.int .u64 0], flds := [], ints := false }
theorem ty119_ok : TyOK Tryz.prog 119 ty119 where
  und := ⟨_, Tryz.underlying119, rfl⟩
  info := ⟨Tryz.t119, by kernel_rfl, rfl, rfl, _, rfl, rfl⟩
  agg := rfl
  flds := fun fs h => by rw [Tryz.underlying119] at h; cases h
  eqg := fun h => by cases h
  ints := fun h => by cases h
def ty128 : TyI := { und := .float .f64, size := 1, bytes := 8, agg := false, zero := [.float .f64 0], flds := [], ints := false }
theorem ty128_ok : TyOK Tryz.prog 128 ty128 where
  und := ⟨_, Tryz.underlying128, rfl⟩
  info := ⟨Tryz.t128, by kernel_rfl, rfl, rfl, _, rfl, rfl⟩
  agg := rfl
  flds := fun fs h => by rw [Tryz.underlying128] at h; cases h
  eqg := fun h => by cases h
  ints := fun h => by cases h
def ty131 : TyI := { und := .map 3 4, size := 1, bytes := 8, agg := false, zero := [.map none], flds := [], ints := false }
theorem ty131_ok : TyOK Tryz.prog 131 ty131 where
  und := ⟨_, Tryz.underlying131, rfl⟩
  info := ⟨Tryz.t131, by kernel_rfl, rfl, rfl, _, rfl, rfl⟩
  agg := rfl
  flds := fun fs h => by rw [Tryz.underlying131] at h; cases h
  eqg := fun h => by cases h
  ints := fun h => by cases h
def ty133 : TyI := { und := .map 3 3, size := 1, bytes := 8, agg := false, zero := [.map none], flds := [], ints := false }
theorem ty133_ok : TyOK Tryz.prog 133 ty133 where
  und := ⟨_, Tryz.underlying133, rfl⟩
  info := ⟨Tryz.t133, by kernel_rfl, rfl, rfl, _, rfl, rfl⟩
  agg := rfl
  flds := fun fs h => by rw [Tryz.underlying133] at h; cases h
  eqg := fun h => by cases h
  ints := fun h => by cases h
def ty142 : TyI := { und := .int .u32, size := 1, bytes := 4, agg := false, zero := [.int .u32 0], flds := [], ints := false }
theorem ty142_ok : TyOK Tryz.prog 142 ty142 where
  und := ⟨_, Tryz.underlying142, rfl⟩
  info := ⟨Tryz.t142, by kernel_rfl, rfl, rfl, _, rfl, rfl⟩
  agg := rfl
  flds := fun fs h => by rw [Tryz.underlying142] at h; cases h
  eqg := fun h => by cases h
  ints := fun h => by cases h
def ty145 : TyI := { und := .int .u64, size := 1, bytes := 8, agg := false, zero := [.int .u64 0], flds := [], ints := false }
theorem ty145_ok : TyOK Tryz.prog 145 ty145 where
  und := ⟨_, Tryz.underlying145, rfl⟩
  info := ⟨Tryz.t145, by kernel_rfl, rfl, rfl, _, rfl, rfl⟩
  agg := rfl
  flds := fun fs h => by rw [Tryz.underlying145] at h; cases h
  eqg := fun h => by cases h
  ints := fun h => by cases h
def ty153 : TyI := { und := .slice 26, size := 1, bytes := 24, agg := false, zero := [.slice none 0 0], flds := [], ints := false }
theorem ty153_ok : TyOK Tryz.prog 153 ty153 where
  und := ⟨_, Tryz.underlying153, rfl⟩
  info := ⟨Tryz.t153, by kernel_rfl, rfl, rfl, _, rfl, rfl⟩
  agg := rfl
  flds := fun fs h => by rw [Tryz.underlying153] at h; cases h
  eqg := fun h => by cases h
  ints := fun h => by cases h
def ty161 : TyI := { und := .func, size := 1, bytes := 8, agg := false, zero := [.nilFunc], flds := [], ints := false }
theorem ty161_ok : TyOK Tryz.prog 161 ty161 where
  und := ⟨_, Tryz.underlying161, rfl⟩
  info := ⟨Tryz.t161, by kernel_rfl, rfl, rfl, _, rfl, rfl⟩
  agg := rfl
  flds := fun fs h => by rw [Tryz.underlying161] at h; cases h
  eqg := fun h => by cases h
  ints := fun h => by cases h
def ty163 : TyI := { und := .struct, size := 2, bytes := 16, agg := true, zero := [.int .i64 0, .nilFunc], flds := [(0, 1), (1, 1)], ints := false }
theorem ty163_ok : TyOK Tryz.prog 163 ty163 where
  und := ⟨_, Tryz.underlying163, rfl⟩
  info := ⟨Tryz.t163, by kernel_rfl, rfl, rfl, _, rfl, rfl⟩
  agg := rfl
  flds := fun fs h => by
    rw [Tryz.underlying163] at h; cases h
    exact ⟨rfl, ⟨Tryz.t34, by kernel_rfl, rfl⟩, rfl, ⟨Tryz.t161, by kernel_rfl, rfl⟩, trivial⟩
  eqg := fun h => by cases h
  ints := fun h => by cases h
def ty164 : TyI := { und := .array 4 163, size := 8, bytes := 64, agg := true, zero := [.int .i64 0, .nilFunc, .int .i64 0, .nilFunc, .int .i64 0, .nilFunc, .int .i64 0, .nilFunc], flds := [], ints := false }
theorem ty164_ok : TyOK Tryz.prog 164 ty164 where
  und := ⟨_, Tryz.underlying164, rfl⟩
  info := ⟨Tryz.t164, by kernel_rfl, rfl, rfl, _, rfl, rfl⟩
  agg := rfl
  flds := fun fs h => by rw [Tryz.underlying164] at h; cases h
  eqg := fun h => by cases h
  ints := fun h => by cases h
def ty168 : TyI := { und := .int .i64, size := 1, bytes := 8, agg := false, zero := [.int .i64 0], flds := [], ints := false }
theorem ty168_ok : TyOK Tryz.prog 168 ty168 where
  und := ⟨_, Tryz.underlying168, rfl⟩
  info := ⟨Tryz.t168, by kernel_rfl, rfl, rfl, _, rfl, rfl⟩
  agg := rfl
  flds := fun fs h => by rw [Tryz.underlying168] at h; cases h
  eqg := fun h => by cases h
  ints := fun h => by cases h
def ty177 : TyI := { und := .int .u64, size := 1, bytes := 8, agg := false, zero := [.int .u64 0], flds := [], ints := false }
theorem ty177_ok : TyOK Tryz.prog 177 ty177 where
  und := ⟨_, Tryz.underlying177, rfl⟩
  info := ⟨Tryz.t177, by kernel_rfl, rfl, rfl, _, rfl, rfl⟩
  agg := rfl
  flds := fun fs h => by rw [Tryz.underlying177] at h; cases h
  eqg := fun h => by cases h
  ints := fun h => by cases h

/-- The table. -/
def tab : List (Nat × TyI) := [(1, ty1), (2, ty2), (3, ty3), (4, ty4), (5, ty5), (9, ty9), (22, ty22), (23, ty23), (25, ty25), (26, ty26), (28, ty28), (33, ty33), (34, ty34), (40, ty40), (57, ty57), (60, ty60), (62, ty62), (68, ty68), (73, ty73), (86, ty86), (94, ty94), (96, ty96), (106, ty106), (109, ty109), (110, ty110), (119, ty119), (128, ty128), (131, ty131), (133, ty133), (142, ty142), (145, ty145), (153, ty153), (161, ty161), (163, ty163), (164, ty164), (168, ty168), (177, ty177)]
theorem tab_ok : TabOK Tryz.prog tab := ⟨ty1_ok, ty2_ok, ty3_ok, ty4_ok, ty5_ok, ty9_ok, ty22_ok, ty23_ok, ty25_ok, ty26_ok, ty28_ok, ty33_ok, ty34_ok, ty40_ok, ty57_ok, ty60_ok, ty62_ok, ty68_ok, ty73_ok, ty86_ok, ty94_ok, ty96_ok, ty106_ok, ty109_ok, ty110_ok, ty119_ok, ty128_ok, ty131_ok, ty133_ok, ty142_ok, ty145_ok, ty153_ok, ty161_ok, ty163_ok, ty164_ok, ty168_ok, ty177_ok, trivial⟩
end Go.Proofs.Tryz

/- The data of the program, and how the executor sees it. -/
namespace Go.Ch
open Go Go.Ax Go.Proofs Go.Proofs.Tryz

theorem mix : Tryz.prog.follows .mixedOrders = true := by kernel_rfl

structure Pt where
  x : Int
  y : Int
  deriving DecidableEq, Inhabited
structure Ap where
  x : Int
  y : Int
  half : Int
  level : Int
  run : Int
  deriving DecidableEq, Inhabited
structure Reg where
  name : ByteArray
  kind : Int
  corners : List Pt
  deriving Inhabited
structure Chan where
  name : ByteArray
  axis : List Ap
  over : Int
  buffer : Int
  regions : List Reg
  deriving Inhabited
structure Grid where
  x : Int
  y : Int
  side : Int
  cols : Int
  rows : Int
  levels : List Int
  deriving Inhabited

abbrev dS (s : ByteArray) : DV := .val (.string s)
abbrev vS (s : ByteArray) : AV := .s (.d (dS s))
abbrev pt (p : Pt) : AV := .g [.d (dI p.x), .d (dI p.y)]
abbrev ap (p : Ap) : AV := .g [.d (dI p.x), .d (dI p.y), .d (dI p.half), .d (dI p.level), .d (dI p.run)]
def ptD (p : Pt) : Nat → DV
  | 0 => dI p.x
  | 1 => dI p.y
  | _ => .junk
def apD (p : Ap) : Nat → DV
  | 0 => dI p.x
  | 1 => dI p.y
  | 2 => dI p.half
  | 3 => dI p.level
  | 4 => dI p.run
  | _ => .junk
def ptEl (l : List Pt) : Nat → Nat → DV := fun i => ptD (l.getD i default)
def dPts (l : List Pt) : DV := .slc l.length 2 (ptEl l)
abbrev pts (l : List Pt) : AV := .s (.d (dPts l))
def apEl (l : List Ap) : Nat → Nat → DV := fun i => apD (l.getD i default)
def dAps (l : List Ap) : DV := .slc l.length 5 (apEl l)
def regD (p : Reg) : Nat → DV
  | 0 => dS p.name
  | 1 => dI p.kind
  | 2 => dPts p.corners
  | _ => .junk
abbrev reg (p : Reg) : AV := .g [.d (dS p.name), .d (dI p.kind), .d (dPts p.corners)]
def regEl (l : List Reg) : Nat → Nat → DV := fun i => regD (l.getD i default)
def dRegs (l : List Reg) : DV := .slc l.length 3 (regEl l)
abbrev vRegs (l : List Reg) : AV := .s (.d (dRegs l))
abbrev vAps (l : List Ap) : AV := .s (.d (dAps l))
abbrev chan (c : Chan) : AV := .g [.d (dS c.name), .d (dAps c.axis), .d (dI c.over), .d (dI c.buffer), .d (dRegs c.regions)]
abbrev grid (g : Grid) : AV := .g [.d (dI g.x), .d (dI g.y), .d (dI g.side), .d (dI g.cols), .d (dI g.rows), .d (dInts g.levels)]

theorem natOf {i : Nat} : ((i : Int)).toNat = i := rfl
theorem getD_of {α : Type} [Inhabited α] {l : List α} {i : Nat} (h : i < l.length) {d : α} : l.getD i d = l[i] := by simp [List.getElem?_eq_getElem h]
theorem decT {p : Prop} [Decidable p] (h : decide p = true) : p := of_decide_eq_true h
theorem decF {p : Prop} [Decidable p] (h : decide p = false) : ¬ p := of_decide_eq_false h

/-- What the program computes. -/
def within (n lo hi : Int) : Bool := decide (n ≥ lo) && decide (n ≤ hi)
def cross (a b c : Pt) : Int := w64 (w64 (w64 (b.x - a.x) * w64 (c.y - a.y)) - w64 (w64 (b.y - a.y) * w64 (c.x - a.x)))
def dot (a b c : Pt) : Int := w64 (w64 (w64 (b.x - a.x) * w64 (c.x - a.x)) + w64 (w64 (b.y - a.y) * w64 (c.y - a.y)))
def between (a b p : Pt) : Bool := cross a b p == 0 && within p.x (mm false a.x b.x) (mm true a.x b.x) && within p.y (mm false a.y b.y) (mm true a.y b.y)
def sgn (n : Int) : Int := if n < 0 then -1 else if n > 0 then 1 else 0
def meet (a b c d : Pt) : Bool :=
  (((between a b c || between a b d) || between c d a) || between c d b) || (decide (w64 (sgn (cross a b c) * sgn (cross a b d)) < 0) && decide (w64 (sgn (cross c d a) * sgn (cross c d b)) < 0))
def good (p : Pt) : Bool := within p.x (-1000000) 1000000 && within p.y (-1000000) 1000000
def Ap.pt (a : Ap) : Pt := ⟨a.x, a.y⟩
end Go.Ch

namespace Go.Ch
open Go Go.Ax Go.Proofs Go.Proofs.Tryz

set_option maxRecDepth 100000
set_option pp.maxSteps 400

theorem Within (n lo hi : Int) : CallP Tryz.prog 52 [vI n, vI lo, vI hi] (vB (within n lo hi)) := by
  refine callP_of_ex (rc := []) (N := 15) Tryz.func52 rfl rfl Tryz.call52 tab_ok mix rfl rfl (fun cx _ => ?_)
  exact ⟨fun h => h, fun h => h, fun h => h, trivial, SubR.refl _⟩
theorem Cross (a b c : Pt) : CallP Tryz.prog 143 [pt a, pt b, pt c] (vI (cross a b c)) := by
  refine callP_of_ex (rc := []) (N := 30) Tryz.func143 rfl rfl Tryz.call143 tab_ok mix rfl rfl (fun cx _ => ?_)
  exact SubR.refl _
theorem gcross (a b c : Pt) : CallP Tryz.prog 151 [pt a, pt b, pt c] (vI (cross a b c)) := by
  refine callP_of_ex (rc := []) (N := 30) Tryz.func151 rfl rfl Tryz.call151 tab_ok mix rfl rfl (fun cx _ => ?_)
  exact SubR.refl _
theorem Dot (a b c : Pt) : CallP Tryz.prog 105 [pt a, pt b, pt c] (vI (dot a b c)) := by
  refine callP_of_ex (rc := []) (N := 30) Tryz.func105 rfl rfl Tryz.call105 tab_ok mix rfl rfl (fun cx _ => ?_)
  exact SubR.refl _
theorem gdot (a b c : Pt) : CallP Tryz.prog 95 [pt a, pt b, pt c] (vI (dot a b c)) := by
  refine callP_of_ex (rc := []) (N := 30) Tryz.func95 rfl rfl Tryz.call95 tab_ok mix rfl rfl (fun cx _ => ?_)
  exact SubR.refl _
theorem Square (a b : Pt) : CallP Tryz.prog 72 [pt a, pt b] (vI (dot a b b)) := by
  refine callP_of_ex (rc := []) (N := 9) Tryz.func72 rfl rfl Tryz.call72 tab_ok mix rfl rfl (fun cx _ => ?_)
  exact callN (Dot a b b) (SubR.refl _)
theorem Sign (n : Int) : CallP Tryz.prog 158 [vI n] (vI (sgn n)) := by
  refine callP_of_ex (rc := []) (N := 7) Tryz.func158 rfl rfl Tryz.call158 tab_ok mix rfl rfl (fun cx _ => ?_)
  refine And.intro (fun h => ?_) (fun h => And.intro (fun h' => ?_) (fun h' => ?_))
  · exact SubR.of_eq (by rw [sgn, if_pos (decT h)]; rfl)
  · exact SubR.of_eq (by rw [sgn, if_neg (decF h), if_pos (decT h')]; rfl)
  · exact SubR.of_eq (by rw [sgn, if_neg (decF h), if_neg (decF h')]; rfl)
theorem Orient (a b c : Pt) : CallP Tryz.prog 144 [pt a, pt b, pt c] (vI (sgn (cross a b c))) := by
  refine callP_of_ex (rc := []) (N := 12) Tryz.func144 rfl rfl Tryz.call144 tab_ok mix rfl rfl (fun cx _ => ?_)
  exact callN (Cross a b c) (callN (Sign _) (SubR.refl _))
theorem isNaN (n : Int) : CallP Tryz.prog 157 [vI n] (vB false) := by
  refine callP_of_ex (rc := []) (N := 6) Tryz.func157 rfl rfl Tryz.call157 tab_ok mix rfl rfl (fun cx _ => ?_)
  exact SubR.of_eq (by show vB (n != n) = vB false; simp)
theorem Between (a b p : Pt) : CallP Tryz.prog 124 [pt a, pt b, pt p] (vB (between a b p)) := by
  refine callP_of_ex (rc := []) (N := 42) Tryz.func124 rfl rfl Tryz.call124 tab_ok mix rfl rfl (fun cx _ => ?_)
  refine callN (Cross a b p) ?_
  repeat first | refine sk ?_ | refine st ?_ | refine sg ?_
  refine callG (Within _ _ _) ?_
  repeat first | refine sk ?_ | refine st ?_ | refine sg ?_
  refine callG (Within _ _ _) ?_
  repeat first | refine sk ?_ | refine st ?_ | refine sg ?_
  exact SubR.refl _
theorem Meet (a b c d : Pt) : CallP Tryz.prog 125 [pt a, pt b, pt c, pt d] (vB (meet a b c d)) := by
  refine callP_of_ex (rc := []) (N := 53) Tryz.func125 rfl rfl Tryz.call125 tab_ok mix rfl rfl (fun cx _ => ?_)
  refine callN (Between a b c) ?_
  repeat first | refine sk ?_ | refine st ?_ | refine sg ?_
  refine callG (Between a b d) ?_
  repeat first | refine sk ?_ | refine st ?_ | refine sg ?_
  refine callG (Between c d a) ?_
  repeat first | refine sk ?_ | refine st ?_ | refine sg ?_
  refine callG (Between c d b) ?_
  repeat first | refine sk ?_ | refine st ?_ | refine sg ?_
  refine And.intro (fun h => ?_) (fun h => ?_)
  · exact SubR.lit (by rw [meet, h]; rfl)
  · refine callN (Orient a b c) ?_
    refine callN (Orient a b d) ?_
    repeat first | refine sk ?_ | refine st ?_ | refine sg ?_
    refine callG (Orient c d a) ?_
    repeat first | refine sk ?_ | refine st ?_ | refine sg ?_
    refine callG (Orient c d b) ?_
    repeat first | refine sk ?_ | refine st ?_ | refine sg ?_
    refine And.intro (by kernel_rfl) ?_
    exact SubR.of_eq (by rw [meet, h]; rfl)
theorem on (a b p : Pt) : CallP Tryz.prog 160 [pt a, pt b, pt p] (vB (between a b p)) := by
  refine callP_of_ex (rc := []) (N := 52) Tryz.func160 rfl rfl Tryz.call160 tab_ok mix rfl rfl (fun cx _ => ?_)
  refine callN (gcross a b p) ?_
  repeat first | refine sk ?_ | refine st ?_ | refine sg ?_
  refine SubR.of_eq ?_
  show vB _ = vB _
  simp only [between, within, ge_iff_le, Bool.and_assoc]
theorem Compare (n m : Int) : CallP Tryz.prog 164 [vI n, vI m] (vI (sgn (n - m))) := by
  refine callP_of_ex (rc := []) (N := 20) Tryz.func164 rfl rfl Tryz.call164 tab_ok mix rfl rfl (fun cx _ => ?_)
  refine callN (isNaN n) ?_
  refine callN (isNaN m) ?_
  refine And.intro (fun h => by cases h) (fun _ => And.intro (fun h => by cases h) (fun _ => And.intro (fun h => ?_) (fun h => And.intro (fun h' => ?_) (fun h' => ?_))))
  · have := decT h
    exact SubR.of_eq (by rw [sgn, if_pos (by omega)]; rfl)
  · have := decT h'
    exact SubR.of_eq (by rw [sgn, if_neg (by omega), if_pos (by omega)]; rfl)
  · have := decF h
    have := decF h'
    exact SubR.of_eq (by rw [sgn, if_neg (by omega), if_neg (by omega)]; rfl)
theorem side (a b c : Pt) : CallP Tryz.prog 163 [pt a, pt b, pt c] (vI (sgn (cross a b c))) := by
  refine callP_of_ex (rc := []) (N := 12) Tryz.func163 rfl rfl Tryz.call163 tab_ok mix rfl rfl (fun cx _ => ?_)
  refine callN (gcross a b c) ?_
  refine callN (Compare _ 0) ?_
  exact SubR.of_eq (by show vI _ = vI _; rw [Int.sub_zero])
theorem gout1 (p : Pt) : CallP Tryz.prog 94 [pt p] (vB (!good p)) := by
  refine callP_of_ex (rc := []) (N := 21) Tryz.func94 rfl rfl Tryz.call94 tab_ok mix rfl rfl (fun cx _ => ?_)
  repeat first | refine sk ?_ | refine st ?_ | refine sg ?_
  refine SubR.of_eq ?_
  show vB _ = vB _
  refine congrArg vB ?_
  rw [Bool.eq_iff_iff]
  simp [good, within]
  omega
theorem outside (n lo hi : Int) : CallP Tryz.prog 76 [vI n, vI lo, vI hi] (vB (!within n lo hi)) := by
  refine callP_of_ex (rc := []) (N := 15) Tryz.func76 rfl rfl Tryz.call76 tab_ok mix rfl rfl (fun cx _ => ?_)
  repeat first | refine sk ?_ | refine st ?_ | refine sg ?_
  refine SubR.of_eq ?_
  show vB _ = vB _
  refine congrArg vB ?_
  rw [Bool.eq_iff_iff]
  simp [within]
theorem gmeet (a b c d : Pt) : CallP Tryz.prog 161 [pt a, pt b, pt c, pt d] (vB (meet a b c d)) := by
  refine callP_of_ex (rc := []) (N := 53) Tryz.func161 rfl rfl Tryz.call161 tab_ok mix rfl rfl (fun cx _ => ?_)
  refine callN (on a b c) ?_
  repeat first | refine sk ?_ | refine st ?_ | refine sg ?_
  refine callG (on a b d) ?_
  repeat first | refine sk ?_ | refine st ?_ | refine sg ?_
  refine callG (on c d a) ?_
  repeat first | refine sk ?_ | refine st ?_ | refine sg ?_
  refine callG (on c d b) ?_
  repeat first | refine sk ?_ | refine st ?_ | refine sg ?_
  refine And.intro (fun h => ?_) (fun h => ?_)
  · exact SubR.lit (by rw [meet, h]; rfl)
  · refine callN (side a b c) ?_
    refine callN (side a b d) ?_
    repeat first | refine sk ?_ | refine st ?_ | refine sg ?_
    refine callG (side c d a) ?_
    repeat first | refine sk ?_ | refine st ?_ | refine sg ?_
    refine callG (side c d b) ?_
    repeat first | refine sk ?_ | refine st ?_ | refine sg ?_
    refine And.intro (by kernel_rfl) ?_
    exact SubR.of_eq (by rw [meet, h]; rfl)
theorem place (a : Ap) : CallP Tryz.prog 27 [ap a] (pt a.pt) := by
  refine callP_of_ex (rc := []) (N := 8) Tryz.func27 rfl rfl Tryz.call27 tab_ok mix rfl rfl (fun cx _ => ?_)
  exact SubR.refl _
theorem Place (a : Ap) : CallP Tryz.prog 38 [ap a] (pt a.pt) := by
  refine callP_of_ex (rc := []) (N := 8) Tryz.func38 rfl rfl Tryz.call38 tab_ok mix rfl rfl (fun cx _ => ?_)
  exact SubR.refl _
theorem inRange (p : Pt) : CallP Tryz.prog 47 [pt p] (vB (good p)) := by
  refine callP_of_ex (rc := []) (N := 13) Tryz.func47 rfl rfl Tryz.call47 tab_ok mix rfl rfl (fun cx _ => ?_)
  refine callN (outside _ _ _) ?_
  repeat first | refine sk ?_ | refine st ?_ | refine sg ?_
  refine callG (outside _ _ _) ?_
  repeat first | refine sk ?_ | refine st ?_ | refine sg ?_
  refine SubR.of_eq ?_
  show vB _ = vB _
  simp [good]
theorem Good (p : Pt) : CallP Tryz.prog 68 [pt p] (vB (good p)) := by
  refine callP_of_ex (rc := []) (N := 11) Tryz.func68 rfl rfl Tryz.call68 tab_ok mix rfl rfl (fun cx _ => ?_)
  refine callN (Within _ _ _) ?_
  repeat first | refine sk ?_ | refine st ?_ | refine sg ?_
  refine callG (Within _ _ _) ?_
  repeat first | refine sk ?_ | refine st ?_ | refine sg ?_
  exact SubR.refl _
theorem Abs (n : Int) : CallP Tryz.prog 74 [vI n] (vI (if n < 0 then w64 (0 - n) else n)) := by
  refine callP_of_ex (rc := []) (N := 8) Tryz.func74 rfl rfl Tryz.call74 tab_ok mix rfl rfl (fun cx _ => ?_)
  refine And.intro (fun h => ?_) (fun h => ?_)
  · exact SubR.of_eq (by rw [if_pos (decT h)]; rfl)
  · exact SubR.of_eq (by rw [if_neg (decF h)]; rfl)
theorem down (a b : Int) (hb : b ≠ 0) : CallP Tryz.prog 116 [vI a, vI b] (vI (if a.tmod b < 0 then w64 (w64 (a.tdiv b) - 1) else w64 (a.tdiv b))) := by
  refine callP_of_ex (rc := []) (N := 18) Tryz.func116 rfl rfl Tryz.call116 tab_ok mix rfl rfl (fun cx _ => ?_)
  refine ob hb ?_
  refine ob hb ?_
  refine And.intro (by kernel_rfl) ?_
  refine And.intro (fun h => ?_) (fun h => ?_)
  · refine SubR.of_eq ?_
    rw [if_pos (decT h)]; rfl
  · exact SubR.of_eq (by rw [if_neg (decF h)]; rfl)
theorem rMod (a b : Int) (hb : b ≠ 0) : CallP Tryz.prog 145 [vI a, vI b] (vI (if a.tmod b < 0 then w64 (a.tmod b + b) else a.tmod b)) := by
  refine callP_of_ex (rc := []) (N := 15) Tryz.func145 rfl rfl Tryz.call145 tab_ok mix rfl rfl (fun cx _ => ?_)
  refine ob hb ?_
  refine And.intro (fun h => ?_) (fun h => ?_)
  · exact SubR.of_eq (by rw [if_pos (decT h)]; rfl)
  · exact SubR.of_eq (by rw [if_neg (decF h)]; rfl)
end Go.Ch

namespace Go.Ch
open Go Go.Ax Go.Proofs Go.Proofs.Tryz
set_option maxRecDepth 100000
set_option pp.maxSteps 400

theorem Floor0 (a b : Int) (hb : b ≠ 0) : CallP Tryz.prog 127 [vI a, vI b] (vI (w64 (Int.tdiv (w64 (a - (if a.tmod b < 0 then w64 (a.tmod b + b) else a.tmod b))) b))) := by
  refine callP_of_ex (rc := []) (N := 12) Tryz.func127 rfl rfl Tryz.call127 tab_ok mix rfl rfl (fun cx _ => ?_)
  refine callN (rMod a b hb) ?_
  refine oi hb ?_
  exact SubR.refl _
/-- The level of a part: the number, and whether there is one. -/
def lvl (off half bottom run : Int) : Int × Bool :=
  bif decide (off ≤ half) then (bottom, true) else bif run == 0 then (0, false) else (w64 (bottom + w64 (Int.tdiv (w64 (off - half)) run)), decide (w64 (bottom + w64 (Int.tdiv (w64 (off - half)) run)) ≤ 20000))
abbrev part (off half bottom run : Int) : AV := .g [.d (dI off), .d (dI half), .d (dI bottom), .d (dI run)]
abbrev rIB (r : Int × Bool) : AV := .t [.s (.d (.val (.int .i64 r.1))), .s (.d (.val (.bool r.2)))]
theorem SubR.ib {n m : Int} {b c : Bool} (h : n = m) (k : b = c) : SubR (.t [.s (.d (.val (.int .i64 n))), .s (.d (.lit b))]) (.t [.s (.d (.val (.int .i64 m))), .s (.d (.val (.bool c)))]) := by
  subst h; subst k; exact SubR.t ⟨LeD.refl _, fun _ _ r => r, trivial⟩
theorem level (o h b r : Int) : CallP Tryz.prog 79 [part o h b r] (rIB (lvl o h b r)) := by
  refine callP_of_ex (rc := []) (N := 29) Tryz.func79 rfl rfl Tryz.call79 tab_ok mix rfl rfl (fun cx _ => ?_)
  refine And.intro (fun h => ?_) (fun h => ?_)
  · exact SubR.ib (by rw [lvl, h]; rfl) (by rw [lvl, h]; rfl)
  refine And.intro (fun h' => ?_) (fun h' => ?_)
  · exact SubR.ib (by rw [lvl, h, h']; rfl) (by rw [lvl, h, h']; rfl)
  refine oi (by simpa using h') ?_
  refine And.intro (by kernel_rfl) ?_
  exact SubR.of_eq (by rw [lvl, h, h']; rfl)
def cornerG (g : Grid) (i : Int) : Pt := ⟨w64 (g.x + w64 (i.tmod g.cols * g.side)), w64 (g.y + w64 (w64 (i.tdiv g.cols) * g.side))⟩
def centreG (g : Grid) (i : Int) : Pt := ⟨w64 ((cornerG g i).x + w64 (g.side.tdiv 2)), w64 ((cornerG g i).y + w64 (g.side.tdiv 2))⟩
theorem bcorner (g : Grid) (i : Int) (h : g.cols ≠ 0) : CallP Tryz.prog 113 [grid g, vI i] (pt (cornerG g i)) := by
  refine callP_of_ex (rc := []) (N := 26) Tryz.func113 rfl rfl Tryz.call113 tab_ok mix rfl rfl (fun cx _ => ?_)
  refine oi h ?_
  refine oi h ?_
  refine And.intro (by kernel_rfl) ?_
  refine SubR.of_eq ?_
  rfl
theorem bcentre (g : Grid) (i : Int) (h : g.cols ≠ 0) : CallP Tryz.prog 89 [grid g, vI i] (pt (centreG g i)) := by
  refine callP_of_ex (rc := []) (N := 22) Tryz.func89 rfl rfl Tryz.call89 tab_ok mix rfl rfl (fun cx _ => ?_)
  refine callN (bcorner g i h) ?_
  refine oi (by decide) ?_
  refine oi (by decide) ?_
  refine SubR.of_eq ?_
  rfl
theorem Centre (g : Grid) (i : Int) (h : g.cols ≠ 0) : CallP Tryz.prog 36 [grid g, vI i] (pt (centreG g i)) := by
  refine callP_of_ex (rc := []) (N := 34) Tryz.func36 rfl rfl Tryz.call36 tab_ok mix rfl rfl (fun cx _ => ?_)
  refine oi h ?_
  refine oi (by decide) ?_
  refine oi h ?_
  refine oi (by decide) ?_
  refine And.intro (by kernel_rfl) ?_
  refine SubR.of_eq ?_
  rfl
def alike (a b : Grid) : Bool := a.x == b.x && a.y == b.y && a.side == b.side && a.cols == b.cols && a.rows == b.rows
theorem Alike (a b : Grid) : CallP Tryz.prog 33 [grid a, grid b] (vB (alike a b)) := by
  refine callP_of_ex (rc := []) (N := 38) Tryz.func33 rfl rfl Tryz.call33 tab_ok mix rfl rfl (fun cx _ => ?_)
  repeat first | refine sk ?_ | refine st ?_ | refine sg ?_
  exact SubR.refl _
theorem CopyInts (l : List Int) (hl : l.length ≤ 1000000) : CallP Tryz.prog 70 [vInts l] (vInts l) := by
  refine callP_of_ex (rc := []) (N := 6) Tryz.func70 rfl rfl Tryz.call70 tab_ok mix rfl rfl (fun cx _ => ?_)
  refine ob (show (0 + l.length) * 8 ≤ _ by omega) ?_
  refine ob ?_ ?_
  · exact fun k j hk hj => rfl
  refine SubR.le (LeD.slc' (by omega) ?_)
  intro i j hi hj
  exact LeD.of_eq (by simp [catF])
theorem CopyGrid (g : Grid) (hl : g.levels.length ≤ 1000000) : CallP Tryz.prog 34 [grid g] (grid g) := by
  refine callP_of_ex (rc := []) (N := 8) Tryz.func34 rfl rfl Tryz.call34 tab_ok mix rfl rfl (fun cx _ => ?_)
  refine callN (CopyInts g.levels hl) ?_
  exact SubR.of_eq rfl
theorem corner (l : List Pt) (i : Nat) (hl : l ≠ []) : CallP Tryz.prog 123 [pts l, vI i] (pt (l.getD (i % l.length) default)) := by
  have hlen : 0 < l.length := List.length_pos_iff.2 hl
  have hm := Nat.mod_lt i hlen
  have e : (i : Int).tmod l.length = ((i % l.length : Nat) : Int) := by
    rw [Int.tmod_eq_emod_of_nonneg (by omega)]; rfl
  refine callP_of_ex (rc := []) (N := 12) Tryz.func123 rfl rfl Tryz.call123 tab_ok mix rfl rfl (fun cx _ => ?_)
  refine oi (by omega) ?_
  refine oi (by rw [e]; exact ⟨by omega, by omega⟩) ?_
  refine SubR.of_eq ?_
  show pt (l.getD ((i : Int).tmod l.length).toNat default) = _
  rw [e]; rfl
theorem gcorner (l : List Pt) (i : Nat) (hl : l ≠ []) : CallP Tryz.prog 159 [pts l, vI i] (pt (l.getD (i % l.length) default)) := by
  have hlen : 0 < l.length := List.length_pos_iff.2 hl
  have hm := Nat.mod_lt i hlen
  have e : (i : Int).tmod l.length = ((i % l.length : Nat) : Int) := by
    rw [Int.tmod_eq_emod_of_nonneg (by omega)]; rfl
  refine callP_of_ex (rc := []) (N := 12) Tryz.func159 rfl rfl Tryz.call159 tab_ok mix rfl rfl (fun cx _ => ?_)
  refine oi (by omega) ?_
  refine oi (by rw [e]; exact ⟨by omega, by omega⟩) ?_
  refine SubR.of_eq ?_
  show pt (l.getD ((i : Int).tmod l.length).toNat default) = _
  rw [e]; rfl
theorem paid1 (a b n : Int) : CallP Tryz.prog 50 [vI a, vI b, vI n] (vI (w64 (a - mm true b n))) := by
  refine callP_of_ex (rc := []) (N := 12) Tryz.func50 rfl rfl Tryz.call50 tab_ok mix rfl rfl (fun cx _ => ?_)
  exact SubR.refl _
theorem over1 (a b n : Int) : CallP Tryz.prog 51 [vI a, vI b, vI n] (vI (w64 (mm false a n - b))) := by
  refine callP_of_ex (rc := []) (N := 12) Tryz.func51 rfl rfl Tryz.call51 tab_ok mix rfl rfl (fun cx _ => ?_)
  exact SubR.refl _
theorem Legs (c : Chan) : CallP Tryz.prog 39 [chan c] (vI (w64 (c.axis.length - 1))) := by
  refine callP_of_ex (rc := []) (N := 7) Tryz.func39 rfl rfl Tryz.call39 tab_ok mix rfl rfl (fun cx _ => ?_)
  exact SubR.refl _
end Go.Ch

namespace Go.Ch
open Go Go.Ax Go.Proofs Go.Proofs.Tryz
set_option maxRecDepth 100000
set_option pp.maxSteps 400
def idxF {α : Type} (p : α → Bool) : List α → Nat → Int
  | [], _ => -1
  | x :: r, k => bif p x then k else idxF p r (k + 1)
theorem idxF_any {α : Type} (p : α → Bool) : ∀ (l : List α) (k : Nat), decide (idxF p l k ≥ 0) = l.any p
  | [], _ => rfl
  | x :: r, k => by
    rw [idxF, List.any_cons]
    cases h : p x with
    | true => simp
    | false => simpa using idxF_any p r (k + 1)
theorem indexFuncI (l : List Int) (hl : l.length ≤ 9223372036854775807) (f k : Nat) (c : Nat → DV) (p : Int → Bool) (hp : ∀ x ∈ l, CallP Tryz.prog f (vI x :: capD c k 0) (vB (p x))) :
    CallP Tryz.prog 110 [vInts l, .s (.d (.clo f k c))] (vI (idxF p l 0)) := by
  refine callP_of_ex (rc := []) (N := 19) Tryz.func110 rfl rfl Tryz.call110 tab_ok mix rfl rfl (fun cx href => ?_)
  refine AW.loop (fun i : Nat => ⟨[(0, vInts l), (1, .s (.d (.clo f k c))), (7, vI l.length), (8, vI i), (4, vI 0)], []⟩) (fun i => i ≤ l.length ∧ idxF p l 0 = idxF p (l.drop i) i) (fun i => l.length - i) 0 ⟨Nat.zero_le _, rfl⟩ ?_ ?_
  · refine Sub.of0 href trivial ⟨⟨rfl, rfl⟩, ⟨rfl, rfl⟩, ⟨rfl, rfl⟩, ⟨rfl, rfl⟩, ⟨rfl, rfl⟩, trivial⟩
  · rintro i ⟨hi, he⟩
    refine ex.sound (rc := []) tab_ok mix href _ ?_
    refine And.intro (fun h => ?_) (fun h => ?_)
    · have h : (i : Int) < l.length := decT h
      have hi' : i < l.length := by omega
      have hd : l.drop i = l[i] :: l.drop (i + 1) := List.drop_eq_getElem_cons hi'
      have hg : l.getD i default = l[i] := getD_of hi'
      refine oi ⟨by omega, by omega⟩ ?_
      refine callN ((hp (l.getD i default) (by rw [hg]; simp)).conv (args' := _) ⟨LeD.refl _, LeAs.capD⟩) ?_
      rw [hd, idxF] at he
      rw [hg]
      refine And.intro (fun h => ?_) (fun h => ?_)
      · refine SubR.of_eq ?_
        rw [he, h]; rfl
      · refine ⟨i + 1, ⟨by omega, ?_⟩, by omega, ?_⟩
        · rw [he, h]; rfl
        · refine Sub.of0 href trivial ⟨⟨rfl, rfl⟩, ⟨rfl, rfl⟩, ⟨rfl, rfl⟩, ⟨rfl, ?_⟩, ⟨rfl, rfl⟩, trivial⟩
          exact congrArg vI (w64_of (by omega) (by omega))
    · have h : ¬ (i : Int) < l.length := decF h
      have hi' : i = l.length := by omega
      subst hi'
      refine SubR.of_eq ?_
      rw [he, List.drop_length]; rfl
theorem containsI (l : List Int) (hl : l.length ≤ 9223372036854775807) (f k : Nat) (c : Nat → DV) (p : Int → Bool) (hp : ∀ x ∈ l, CallP Tryz.prog f (vI x :: capD c k 0) (vB (p x))) :
    CallP Tryz.prog 84 [vInts l, .s (.d (.clo f k c))] (vB (l.any p)) := by
  refine callP_of_ex (rc := []) (N := 9) Tryz.func84 rfl rfl Tryz.call84 tab_ok mix rfl rfl (fun cx href => ?_)
  refine callN (indexFuncI l hl f k c p hp) ?_
  exact SubR.of_eq (congrArg vB (idxF_any p l 0))
theorem indexFuncP (l : List Pt) (hl : l.length ≤ 9223372036854775807) (f k : Nat) (c : Nat → DV) (p : Pt → Bool) (hp : ∀ x ∈ l, CallP Tryz.prog f (pt x :: capD c k 0) (vB (p x))) :
    CallP Tryz.prog 117 [pts l, .s (.d (.clo f k c))] (vI (idxF p l 0)) := by
  refine callP_of_ex (rc := []) (N := 19) Tryz.func117 rfl rfl Tryz.call117 tab_ok mix rfl rfl (fun cx href => ?_)
  refine AW.loop (fun i : Nat => ⟨[(0, pts l), (1, .s (.d (.clo f k c))), (7, vI l.length), (8, vI i), (4, vI 0)], []⟩) (fun i => i ≤ l.length ∧ idxF p l 0 = idxF p (l.drop i) i) (fun i => l.length - i) 0 ⟨Nat.zero_le _, rfl⟩ ?_ ?_
  · refine Sub.of0 href trivial ⟨⟨rfl, rfl⟩, ⟨rfl, rfl⟩, ⟨rfl, rfl⟩, ⟨rfl, rfl⟩, ⟨rfl, rfl⟩, trivial⟩
  · rintro i ⟨hi, he⟩
    refine ex.sound (rc := []) tab_ok mix href _ ?_
    refine And.intro (fun h => ?_) (fun h => ?_)
    · have h : (i : Int) < l.length := decT h
      have hi' : i < l.length := by omega
      have hd : l.drop i = l[i] :: l.drop (i + 1) := List.drop_eq_getElem_cons hi'
      have hg : l.getD i default = l[i] := getD_of hi'
      refine oi ⟨by omega, by omega⟩ ?_
      refine callN ((hp (l.getD i default) (by rw [hg]; simp)).conv (args' := _) ⟨⟨LeD.refl _, LeD.refl _, trivial⟩, LeAs.capD⟩) ?_
      rw [hd, idxF] at he
      rw [hg]
      refine And.intro (fun h => ?_) (fun h => ?_)
      · refine SubR.of_eq ?_
        rw [he, h]; rfl
      · refine ⟨i + 1, ⟨by omega, ?_⟩, by omega, ?_⟩
        · rw [he, h]; rfl
        · refine Sub.of0 href trivial ⟨⟨rfl, rfl⟩, ⟨rfl, rfl⟩, ⟨rfl, rfl⟩, ⟨rfl, ?_⟩, ⟨rfl, rfl⟩, trivial⟩
          exact congrArg vI (w64_of (by omega) (by omega))
    · have h : ¬ (i : Int) < l.length := decF h
      have hi' : i = l.length := by omega
      subst hi'
      refine SubR.of_eq ?_
      rw [he, List.drop_length]; rfl
theorem containsP (l : List Pt) (hl : l.length ≤ 9223372036854775807) (f k : Nat) (c : Nat → DV) (p : Pt → Bool) (hp : ∀ x ∈ l, CallP Tryz.prog f (pt x :: capD c k 0) (vB (p x))) :
    CallP Tryz.prog 93 [pts l, .s (.d (.clo f k c))] (vB (l.any p)) := by
  refine callP_of_ex (rc := []) (N := 9) Tryz.func93 rfl rfl Tryz.call93 tab_ok mix rfl rfl (fun cx href => ?_)
  refine callN (indexFuncP l hl f k c p hp) ?_
  exact SubR.of_eq (congrArg vB (idxF_any p l 0))
theorem indexFuncR (l : List Reg) (hl : l.length ≤ 9223372036854775807) (f k : Nat) (c : Nat → DV) (p : Reg → Bool) (hp : ∀ x ∈ l, CallP Tryz.prog f (reg x :: capD c k 0) (vB (p x))) :
    CallP Tryz.prog 128 [vRegs l, .s (.d (.clo f k c))] (vI (idxF p l 0)) := by
  refine callP_of_ex (rc := []) (N := 19) Tryz.func128 rfl rfl Tryz.call128 tab_ok mix rfl rfl (fun cx href => ?_)
  refine AW.loop (fun i : Nat => ⟨[(0, vRegs l), (1, .s (.d (.clo f k c))), (7, vI l.length), (8, vI i), (4, vI 0)], []⟩) (fun i => i ≤ l.length ∧ idxF p l 0 = idxF p (l.drop i) i) (fun i => l.length - i) 0 ⟨Nat.zero_le _, rfl⟩ ?_ ?_
  · refine Sub.of0 href trivial ⟨⟨rfl, rfl⟩, ⟨rfl, rfl⟩, ⟨rfl, rfl⟩, ⟨rfl, rfl⟩, ⟨rfl, rfl⟩, trivial⟩
  · rintro i ⟨hi, he⟩
    refine ex.sound (rc := []) tab_ok mix href _ ?_
    refine And.intro (fun h => ?_) (fun h => ?_)
    · have h : (i : Int) < l.length := decT h
      have hi' : i < l.length := by omega
      have hd : l.drop i = l[i] :: l.drop (i + 1) := List.drop_eq_getElem_cons hi'
      have hg : l.getD i default = l[i] := getD_of hi'
      refine oi ⟨by omega, by omega⟩ ?_
      refine callN ((hp (l.getD i default) (by rw [hg]; simp)).conv (args' := _) ⟨⟨LeD.refl _, LeD.refl _, LeD.refl _, trivial⟩, LeAs.capD⟩) ?_
      rw [hd, idxF] at he
      rw [hg]
      refine And.intro (fun h => ?_) (fun h => ?_)
      · refine SubR.of_eq ?_
        rw [he, h]; rfl
      · refine ⟨i + 1, ⟨by omega, ?_⟩, by omega, ?_⟩
        · rw [he, h]; rfl
        · refine Sub.of0 href trivial ⟨⟨rfl, rfl⟩, ⟨rfl, rfl⟩, ⟨rfl, rfl⟩, ⟨rfl, ?_⟩, ⟨rfl, rfl⟩, trivial⟩
          exact congrArg vI (w64_of (by omega) (by omega))
    · have h : ¬ (i : Int) < l.length := decF h
      have hi' : i = l.length := by omega
      subst hi'
      refine SubR.of_eq ?_
      rw [he, List.drop_length]; rfl
theorem containsR (l : List Reg) (hl : l.length ≤ 9223372036854775807) (f k : Nat) (c : Nat → DV) (p : Reg → Bool) (hp : ∀ x ∈ l, CallP Tryz.prog f (reg x :: capD c k 0) (vB (p x))) :
    CallP Tryz.prog 106 [vRegs l, .s (.d (.clo f k c))] (vB (l.any p)) := by
  refine callP_of_ex (rc := []) (N := 9) Tryz.func106 rfl rfl Tryz.call106 tab_ok mix rfl rfl (fun cx href => ?_)
  refine callN (indexFuncR l hl f k c p hp) ?_
  exact SubR.of_eq (congrArg vB (idxF_any p l 0))
end Go.Ch

namespace Go.Ch
open Go Go.Ax Go.Proofs Go.Proofs.Tryz
set_option maxRecDepth 100000
set_option pp.maxSteps 400

theorem bbetween1 (n lo hi : Int) (f g : Nat → DV) (hf : f 0 = dI lo) (hg : g 0 = dI hi) : CallP Tryz.prog 109 [vI n, .s (.d (.rp 1 f)), .s (.d (.rp 1 g))] (vB (!within n lo hi)) := by
  have h1 : LeAs [vI n, .s (.d (.rp 1 f)), .s (.d (.rp 1 g))] [vI n, .s (.d (.rp 1 fun _ => dI lo)), .s (.d (.rp 1 fun _ => dI hi))] :=
    ⟨LeD.refl _, LeD.rp fun j hj => LeD.of_eq (by rw [show j = 0 by omega]; exact hf), LeD.rp fun j hj => LeD.of_eq (by rw [show j = 0 by omega]; exact hg), trivial⟩
  refine CallP.conv ?_ h1
  refine callP_of_ex (rc := []) (N := 13) Tryz.func109 rfl rfl Tryz.call109 tab_ok mix rfl rfl (fun cx _ => ?_)
  repeat first | refine sk ?_ | refine st ?_ | refine sg ?_
  refine SubR.of_eq ?_
  show vB _ = vB _
  refine congrArg vB ?_
  rw [Bool.eq_iff_iff]
  simp [within]
def outL (lo hi : Int) (l : List Int) : Bool := l.any fun n => !within n lo hi
theorem bbetween (lo hi : Int) (l : List Int) (hl : l.length ≤ 9223372036854775807) : CallP Tryz.prog 83 [vI lo, vI hi, vInts l] (vB (!outL lo hi l)) := by
  refine callP_of_ex (rc := []) (N := 11) Tryz.func83 rfl rfl Tryz.call83 tab_ok mix rfl rfl (fun cx _ => ?_)
  refine callN (containsI l hl 109 2 _ (fun n => !within n lo hi) (fun x _ => bbetween1 x lo hi _ _ rfl rfl)) ?_
  exact SubR.refl _
theorem isLevel (n : Int) : CallP Tryz.prog 86 [vI n] (vB (within n (-20000) 20000)) := by
  refine callP_of_ex (rc := []) (N := 6) Tryz.func86 rfl rfl Tryz.call86 tab_ok mix rfl rfl (fun cx _ => ?_)
  refine callN ((bbetween (-20000) 20000 [n] (by simp)).conv (args' := _) ⟨LeD.refl _, LeD.refl _, LeD.slc fun i j hi hj => ?_, trivial⟩) ?_
  · have : i = 0 := by have : i < 1 := hi; omega
    have : j = 0 := by have : j < 1 := hj; omega
    subst i j; exact LeD.refl _
  exact SubR.of_eq (by show vB _ = vB _; simp [outL])
def badL (n : Int) : Bool := n != 30000 && !within n (-20000) 20000
theorem bcheck1 (n : Int) : CallP Tryz.prog 85 [vI n] (vB (badL n)) := by
  refine callP_of_ex (rc := []) (N := 10) Tryz.func85 rfl rfl Tryz.call85 tab_ok mix rfl rfl (fun cx _ => ?_)
  repeat first | refine sk ?_ | refine st ?_ | refine sg ?_
  refine callG (isLevel n) ?_
  repeat first | refine sk ?_ | refine st ?_ | refine sg ?_
  exact SubR.refl _
def e1 (g : Grid) : Bool := !(within g.x (-1000000) 1000000) || !(within g.y (-1000000) 1000000) || !(within g.side 100 10000) || !(within g.cols 1 1024) || !(within g.rows 1 1024)
def errG (g : Grid) : Int :=
  bif e1 g then 2
  else bif decide (w64 (g.cols * g.rows) > 1024) then 8
  else bif decide (w64 (g.x + w64 (g.cols * g.side)) > 1000000) || decide (w64 (g.y + w64 (g.rows * g.side)) > 1000000) then 2
  else bif (g.levels.length : Int) != w64 (g.cols * g.rows) then 10
  else bif g.levels.any badL then 2 else 0
theorem bcheck (g : Grid) (hl : g.levels.length ≤ 9223372036854775807) : CallP Tryz.prog 54 [grid g] (vI (errG g)) := by
  refine callP_of_ex (rc := []) (N := 69) Tryz.func54 rfl rfl Tryz.call54 tab_ok mix rfl rfl (fun cx _ => ?_)
  have two : ∀ (a b : Int) (f : Nat → Nat → DV) (h0 : f 0 0 = dI a) (h1 : f 1 0 = dI b), LeD (.slc 2 1 f) (dInts [a, b]) := by
    intro a b f h0 h1
    refine LeD.slc fun i j hi hj => ?_
    have : j = 0 := by omega
    subst j
    match i, hi with
    | 0, _ => exact LeD.of_eq h0
    | 1, _ => exact LeD.of_eq h1
  have one : ∀ (a : Int) (f : Nat → Nat → DV) (h0 : f 0 0 = dI a), LeD (.slc 1 1 f) (dInts [a]) := by
    intro a f h0
    refine LeD.slc fun i j hi hj => ?_
    have : j = 0 := by omega
    have : i = 0 := by omega
    subst i j
    exact LeD.of_eq h0
  refine callN ((bbetween (-1000000) 1000000 [g.x, g.y] (by simp)).conv (args' := _) ⟨LeD.refl _, LeD.refl _, two _ _ _ rfl rfl, trivial⟩) ?_
  repeat first | refine sk ?_ | refine st ?_ | refine sg ?_
  refine And.intro (fun h1 => ?_) (fun h1 => ?_)
  · refine ob (by rw [h1]; rfl) ?_
    refine callN ((bbetween 100 10000 [g.side] (by simp)).conv (args' := _) ⟨LeD.refl _, LeD.refl _, one _ _ rfl, trivial⟩) ?_
    repeat first | refine sk ?_ | refine st ?_ | refine sg ?_
    refine And.intro (fun h2 => ?_) (fun h2 => ?_)
    · skip
      refine ob (by rw [h2]; rfl) ?_
      refine ob (by rw [h2]; rfl) ?_
      refine callN ((bbetween 1 1024 [g.cols, g.rows] (by simp)).conv (args' := _) ⟨LeD.refl _, LeD.refl _, two _ _ _ rfl rfl, trivial⟩) ?_
      refine And.intro (fun h3 => ?_) (fun h3 => ?_)
      · exact SubR.of_eq (by rw [errG, show e1 g = true by simp [outL] at h1 h2 h3; simp [e1, h1, h2, h3]]; rfl)
      have he : e1 g = false := by simp [outL] at h1 h2 h3; simp [e1, h1, h2, h3]
      refine And.intro (fun h4 => ?_) (fun h4 => ?_)
      · exact SubR.of_eq (by rw [errG, he, h4]; rfl)
      repeat first | refine sk ?_ | refine st ?_ | refine sg ?_
      refine And.intro (fun h5 => ?_) (fun h5 => ?_)
      · exact SubR.of_eq (by rw [errG, he, h4, h5]; rfl)
      refine And.intro (fun h6 => ?_) (fun h6 => ?_)
      · exact SubR.of_eq (by rw [errG, he, h4, h5, h6]; rfl)
      refine callN ((containsI g.levels hl 85 0 (fun _ => .junk) badL (fun x _ => bcheck1 x)).conv (args' := _) ⟨LeD.refl _, LeD.clo fun j hj => absurd hj (Nat.not_lt_zero j), trivial⟩) ?_
      refine And.intro (fun h7 => ?_) (fun h7 => ?_)
      · exact SubR.of_eq (by rw [errG, he, h4, h5, h6, h7]; rfl)
      · exact SubR.of_eq (by rw [errG, he, h4, h5, h6, h7]; rfl)
    · exact SubR.of_eq (by rw [errG, show e1 g = true by simp [outL] at h1 h2; simp [e1, h1, h2]]; rfl)
  · exact SubR.of_eq (by rw [errG, show e1 g = true by simp [outL] at h1; simp [e1, h1]]; rfl)
theorem Leveled (n : Int) : CallP Tryz.prog 53 [vI n] (vB (within n (-20000) 20000)) := by
  refine callP_of_ex (rc := []) (N := 5) Tryz.func53 rfl rfl Tryz.call53 tab_ok mix rfl rfl (fun cx _ => ?_)
  refine callN (Within _ _ _) ?_
  exact SubR.refl _
theorem RCheck (g : Grid) (hl : g.levels.length ≤ 9223372036854775807) : CallP Tryz.prog 24 [grid g] (vI (errG g)) := by
  refine callP_of_ex (rc := []) (N := 89) Tryz.func24 rfl rfl Tryz.call24 tab_ok mix rfl rfl (fun cx _ => ?_)
  refine callN (Within _ _ _) ?_
  repeat first | refine sk ?_ | refine st ?_ | refine sg ?_
  refine callG (Within _ _ _) ?_
  repeat first | refine sk ?_ | refine st ?_ | refine sg ?_
  refine callG (Within _ _ _) ?_
  repeat first | refine sk ?_ | refine st ?_ | refine sg ?_
  refine callG (Within _ _ _) ?_
  repeat first | refine sk ?_ | refine st ?_ | refine sg ?_
  refine callG (Within _ _ _) ?_
  repeat first | refine sk ?_ | refine st ?_ | refine sg ?_
  refine And.intro (fun h => ?_) (fun h => ?_)
  · exact SubR.of_eq (by rw [errG, e1, h]; rfl)
  refine And.intro (fun h2 => ?_) (fun h2 => ?_)
  · exact SubR.of_eq (by rw [errG, e1, h, h2]; rfl)
  repeat first | refine sk ?_ | refine st ?_ | refine sg ?_
  refine And.intro (fun h3 => ?_) (fun h3 => ?_)
  · exact SubR.of_eq (by rw [errG, e1, h, h2, h3]; rfl)
  refine And.intro (fun h4 => ?_) (fun h4 => ?_)
  · exact SubR.of_eq (by rw [errG, e1, h, h2, h3, h4]; rfl)
  refine AW.loop (fun i : Nat => ⟨[(1, .s (.ptr 1 0)), (3, vI i)], [(1, some (.cells [.d (dI g.x), .d (dI g.y), .d (dI g.side), .d (dI g.cols), .d (dI g.rows), .d (dInts g.levels)]))]⟩) (fun i => i ≤ g.levels.length ∧ g.levels.any badL = (g.levels.drop i).any badL) (fun i => g.levels.length - i) 0 ⟨Nat.zero_le _, rfl⟩ ?_ ?_
  · refine Sub.of0 (by assumption) ⟨⟨rfl, rfl⟩, trivial⟩ ⟨⟨rfl, rfl⟩, ⟨rfl, rfl⟩, trivial⟩
  · rintro i ⟨hi, hj⟩
    refine ex.sound (rc := []) tab_ok mix (by assumption) _ ?_
    refine And.intro (fun h5 => ?_) (fun h5 => ?_)
    · have h5 : (i : Int) < g.levels.length := decT h5
      have hi' : i < g.levels.length := by omega
      have hd : g.levels.drop i = g.levels[i] :: g.levels.drop (i + 1) := List.drop_eq_getElem_cons hi'
      have hg : g.levels.getD i 0 = g.levels[i] := getD_of hi'
      refine oi ⟨by omega, by omega⟩ ?_
      repeat first | refine sk ?_ | refine st ?_ | refine sg ?_
      refine oi ?_ ?_
      · exact fun _ => ⟨by omega, by omega⟩
      repeat first | refine sk ?_ | refine st ?_ | refine sg ?_
      refine callG (Leveled _) ?_
      repeat first | refine sk ?_ | refine st ?_ | refine sg ?_
      rw [hd, List.any_cons] at hj
      refine And.intro (fun h6 => ?_) (fun h6 => ?_)
      · have h6 : badL g.levels[i] = true := hg ▸ h6
        refine SubR.of_eq ?_
        rw [errG, e1, h, h2, h3, h4, hj, h6]; rfl
      · have h6 : badL g.levels[i] = false := hg ▸ h6
        refine ⟨i + 1, ⟨by omega, by rw [hj, h6]; rfl⟩, by omega, ?_⟩
        refine Sub.of0 (by assumption) ⟨⟨rfl, rfl⟩, trivial⟩ ⟨⟨rfl, rfl⟩, ⟨rfl, ?_⟩, trivial⟩
        exact congrArg vI (w64_of (by omega) (by omega))
    · have h5 : ¬ (i : Int) < g.levels.length := decF h5
      have hi' : i = g.levels.length := by omega
      refine SubR.of_eq ?_
      rw [errG, e1, h, h2, h3, h4, hj, hi', List.drop_length]; rfl
end Go.Ch

namespace Go.Ch
open Go Go.Ax Go.Proofs Go.Proofs.Tryz
set_option maxRecDepth 100000
set_option pp.maxSteps 400

theorem errG_cols {g : Grid} (h : errG g = 0) : 1 ≤ g.cols ∧ g.cols ≤ 1024 := by
  cases he : e1 g with
  | true => rw [errG, he] at h; cases h
  | false =>
    simp [e1, within] at he
    omega
theorem bhas (g : Grid) (i : Int) (he : errG g = 0) (h0 : 0 ≤ i) (hi : i < g.levels.length) (hl : g.levels.length ≤ 9223372036854775807) : CallP Tryz.prog 88 [grid g, vI i] (vI 0) := by
  refine callP_of_ex (rc := []) (N := 19) Tryz.func88 rfl rfl Tryz.call88 tab_ok mix rfl rfl (fun cx _ => ?_)
  refine callN (bcheck g hl) ?_
  refine And.intro (fun h => ?_) (fun h => ?_)
  · rw [he] at h; cases h
  refine callN ((bbetween 0 (w64 (g.levels.length - 1)) [i] (by simp)).conv (args' := _) ⟨LeD.refl _, LeD.refl _, LeD.slc fun i j hi hj => ?_, trivial⟩) ?_
  · have : i = 0 := by have : i < 1 := hi; omega
    have : j = 0 := by have : j < 1 := hj; omega
    subst i j; exact LeD.refl _
  refine And.intro (fun h => ?_) (fun h => ?_)
  · rw [w64_of (by omega) (by omega)] at h
    simp [outL, within] at h
    omega
  · exact SubR.of_eq rfl
theorem bCentre (g : Grid) (i : Int) (he : errG g = 0) (h0 : 0 ≤ i) (hi : i < g.levels.length) (hl : g.levels.length ≤ 9223372036854775807) : CallP Tryz.prog 56 [grid g, vI i] (.t [.g [.d (dI (centreG g i).x), .d (dI (centreG g i).y)], .s (.d (dI 0))]) := by
  refine callP_of_ex (rc := []) (N := 17) Tryz.func56 rfl rfl Tryz.call56 tab_ok mix rfl rfl (fun cx _ => ?_)
  refine callN (bhas g i he h0 hi hl) ?_
  refine And.intro (fun h => by cases h) (fun _ => ?_)
  refine callN (bcentre g i (by have := errG_cols he; omega)) ?_
  exact SubR.of_eq rfl
theorem ccentre (g : Grid) (i : Int) (he : errG g = 0) (h0 : 0 ≤ i) (hi : i < g.levels.length) (hl : g.levels.length ≤ 9223372036854775807) : CallP Tryz.prog 28 [grid g, vI i] (pt (centreG g i)) := by
  refine callP_of_ex (rc := []) (N := 14) Tryz.func28 rfl rfl Tryz.call28 tab_ok mix rfl rfl (fun cx _ => ?_)
  refine callN (bCentre g i he h0 hi hl) ?_
  exact SubR.of_eq rfl
def few (g : Grid) : Bool := (decide ((g.levels.length : Int) ≤ 40) && ((decide (g.cols ≤ 40) && decide (g.rows ≤ 40)) || (g.levels.length : Int) != w64 (g.cols * g.rows))) || (decide ((g.levels.length : Int) ≤ 1100) && errG g != 0)
attribute [local irreducible] errG in
theorem Few (g : Grid) (hl : g.levels.length ≤ 9223372036854775807) : CallP Tryz.prog 7 [grid g] (vB (few g)) := by
  refine callP_of_ex (rc := []) (N := 39) Tryz.func7 rfl rfl Tryz.call7 tab_ok mix rfl rfl (fun cx _ => ?_)
  repeat first | refine sk ?_ | refine st ?_ | refine sg ?_ | refine sh ?_ | refine su ?_ | refine sn1 ?_ | refine sn0 ?_
  refine callG (RCheck g hl) ?_
  repeat first | refine sk ?_ | refine st ?_ | refine sg ?_ | refine sh ?_ | refine su ?_ | refine sn1 ?_ | refine sn0 ?_
  exact SubR.of_eq (by show vB _ = vB _; rw [few])
end Go.Ch

namespace Go.Ch
open Go Go.Ax Go.Proofs Go.Proofs.Tryz
set_option maxRecDepth 100000
set_option pp.maxSteps 400

def u8 (s : ByteArray) (i : Nat) : Int := (s[i]!.toNat : Int)
def letter (c : Int) : Bool := (decide (c ≥ 97) && decide (c ≤ 122)) || (decide (c ≥ 65) && decide (c ≤ 90))
def badC (i : Int) (c : Int) : Bool := !letter c && (i == 0 || !((decide (c ≥ 48) && decide (c ≤ 57)) || c == 45))
theorem badC_eq (i c : Int) : (!letter c && (i == 0 || (c != 45 && (decide (c < 48) || decide (c > 57))))) = badC i c := by
  rw [badC, Bool.eq_iff_iff]
  simp
  intro _
  omega
def badFrom (s : ByteArray) : Nat → Nat → Bool
  | 0, _ => false
  | n + 1, i => badC i (u8 s i) || badFrom s n (i + 1)
def isName (s : ByteArray) : Bool := !(decide ((s.size : Int) < 1) || decide ((s.size : Int) > 12)) && !badFrom s s.size 0
theorem isName' (s : ByteArray) : isName s = (!(s.toList == (ByteArray.mk #[]).toList || decide ((s.size : Int) > 12)) && !badFrom s s.size 0) := by
  have : decide ((s.size : Int) < 1) = (s.toList == (ByteArray.mk #[]).toList) := by
    rw [Bool.eq_iff_iff]
    rw [show ((s.toList == (ByteArray.mk #[]).toList) = true) = (s.data.toList = []) by rw [ByteArray.toList_eq, ByteArray.toList_eq]; simp]
    have h1 : s.size = s.data.toList.length := by show s.data.size = _; simp
    rw [← List.length_eq_zero_iff, ← h1]
    rw [decide_eq_true_iff]
    omega
  rw [isName, this]
theorem named (s : ByteArray) (hl : s.size ≤ 9223372036854775807) : CallP Tryz.prog 75 [vS s] (vB (isName s)) := by
  refine callP_of_ex (rc := []) (N := 57) Tryz.func75 rfl rfl Tryz.call75 tab_ok mix rfl rfl (fun cx href => ?_)
  repeat first | refine sk ?_ | refine st ?_ | refine sg ?_ | refine sh ?_ | refine su ?_ | refine sn1 ?_ | refine sn0 ?_
  refine And.intro (fun h => ?_) (fun h => ?_)
  · exact SubR.lit (by rw [isName', h]; rfl)
  refine AW.loop (fun i : Nat => ⟨[(0, vS s), (15, vI s.size), (16, vI i), (2, .s (.d (.lit false)))], []⟩) (fun i => i ≤ s.size ∧ badFrom s s.size 0 = badFrom s (s.size - i) i) (fun i => s.size - i) 0 ⟨Nat.zero_le _, rfl⟩ ?_ ?_
  · refine Sub.of0 href trivial ⟨⟨rfl, rfl⟩, ⟨rfl, rfl⟩, ⟨rfl, rfl⟩, ⟨rfl, rfl⟩, trivial⟩
  · rintro i ⟨hi, hj⟩
    refine ex.sound (rc := []) tab_ok mix href _ ?_
    refine And.intro (fun h5 => ?_) (fun h5 => ?_)
    · have h5 : (i : Int) < s.size := decT h5
      rw [show s.size - i = (s.size - (i + 1)) + 1 by omega, badFrom] at hj
      refine oi ⟨by omega, by omega⟩ ?_
      repeat first | refine sk ?_ | refine st ?_ | refine sg ?_ | refine sh ?_ | refine su ?_ | refine sn1 ?_ | refine sn0 ?_
      refine And.intro (fun h6 => ?_) (fun h6 => ?_)
      · have h6 : badC i (u8 s i) = true := h6
        exact SubR.lit (by rw [isName', h, hj, h6]; rfl)
      · have h6 : badC i (u8 s i) = false := h6
        refine ⟨i + 1, ⟨by omega, by rw [hj, h6]; rfl⟩, by omega, ?_⟩
        refine Sub.of0 href trivial ⟨⟨rfl, rfl⟩, ⟨rfl, rfl⟩, ⟨rfl, ?_⟩, ⟨rfl, rfl⟩, trivial⟩
        exact congrArg vI (w64_of (by omega) (by omega))
    · have h5 : ¬ (i : Int) < s.size := decF h5
      have hi' : i = s.size := by omega
      exact SubR.lit (by rw [isName', h, hj, hi', Nat.sub_self]; rfl)
theorem IsName (s : ByteArray) (hl : s.size ≤ 9223372036854775807) : CallP Tryz.prog 67 [vS s] (vB (isName s)) := by
  refine callP_of_ex (rc := []) (N := 55) Tryz.func67 rfl rfl Tryz.call67 tab_ok mix rfl rfl (fun cx href => ?_)
  repeat first | refine sk ?_ | refine st ?_ | refine sg ?_ | refine sh ?_ | refine su ?_ | refine sn1 ?_ | refine sn0 ?_
  refine And.intro (fun h => ?_) (fun h => ?_)
  · exact SubR.lit (by rw [isName, h]; rfl)
  refine AW.loop (fun i : Nat => ⟨[(0, vS s), (3, vI i), (2, .s (.d (.lit false)))], []⟩) (fun i => i ≤ s.size ∧ badFrom s s.size 0 = badFrom s (s.size - i) i) (fun i => s.size - i) 0 ⟨Nat.zero_le _, rfl⟩ ?_ ?_
  · refine Sub.of0 href trivial ⟨⟨rfl, rfl⟩, ⟨rfl, rfl⟩, ⟨rfl, rfl⟩, trivial⟩
  · rintro i ⟨hi, hj⟩
    refine ex.sound (rc := []) tab_ok mix href _ ?_
    refine And.intro (fun h5 => ?_) (fun h5 => ?_)
    · have h5 : (i : Int) < s.size := decT h5
      rw [show s.size - i = (s.size - (i + 1)) + 1 by omega, badFrom] at hj
      refine oi ⟨by omega, by omega⟩ ?_
      repeat first | refine sk ?_ | refine st ?_ | refine sg ?_ | refine sh ?_ | refine su ?_ | refine sn1 ?_ | refine sn0 ?_
      refine And.intro (fun h6 => ?_) (fun h6 => ?_)
      · have h6 : badC i (u8 s i) = true := (badC_eq i (u8 s i)).symm.trans h6
        exact SubR.lit (by rw [isName, h, hj, h6]; rfl)
      · have h6 : badC i (u8 s i) = false := (badC_eq i (u8 s i)).symm.trans h6
        refine ⟨i + 1, ⟨by omega, by rw [hj, h6]; rfl⟩, by omega, ?_⟩
        refine Sub.of0 href trivial ⟨⟨rfl, rfl⟩, ⟨rfl, ?_⟩, ⟨rfl, rfl⟩, trivial⟩
        exact congrArg vI (w64_of (by omega) (by omega))
    · have h5 : ¬ (i : Int) < s.size := decF h5
      have hi' : i = s.size := by omega
      exact SubR.lit (by rw [isName, h, hj, hi', Nat.sub_self]; rfl)
end Go.Ch

namespace Go.Ch
open Go Go.Ax Go.Proofs Go.Proofs.Tryz
set_option maxRecDepth 100000
set_option pp.maxSteps 400

def halve (s : Int) : Nat → Int → Int → Int
  | 0, lo, _ => lo
  | k + 1, lo, hi => bif decide (lo < hi) then (bif decide (((lo + hi) / 2) * ((lo + hi) / 2) ≥ s) then halve s k lo ((lo + hi) / 2) else halve s k ((lo + hi) / 2 + 1) hi) else lo
def span (a b : Pt) : Int := halve (dot a b b) 23 0 4000000

theorem cdot (c : Chan) (k : Nat) (p : Pt) (hk : k + 1 < c.axis.length) (hl : c.axis.length ≤ 9223372036854775807) :
    CallP Tryz.prog 114 [chan c, vI k, pt p] (.t [.s (.d (dI (dot (c.axis.getD k default).pt (c.axis.getD (k + 1) default).pt p))), .s (.d (dI (dot (c.axis.getD k default).pt (c.axis.getD (k + 1) default).pt (c.axis.getD (k + 1) default).pt)))]) := by
  refine callP_of_ex (rc := []) (N := 55) Tryz.func114 rfl rfl Tryz.call114 tab_ok mix rfl rfl (fun cx _ => ?_)
  have e : w64 ((k : Int) + 1) = ((k + 1 : Nat) : Int) := w64_of (by omega) (by omega)
  refine oi ⟨by omega, by omega⟩ ?_
  refine oi (by show 0 ≤ w64 ((k : Int) + 1) ∧ w64 ((k : Int) + 1) < _; rw [e]; exact ⟨by omega, by omega⟩) ?_
  refine And.intro (by kernel_rfl) ?_
  refine And.intro (by kernel_rfl) ?_
  refine SubR.of_eq ?_
  show AV.t [.s (.d (dI (dot (c.axis.getD k default).pt (c.axis.getD (w64 ((k : Int) + 1)).toNat default).pt p))), .s (.d (dI (dot (c.axis.getD k default).pt (c.axis.getD (w64 ((k : Int) + 1)).toNat default).pt (c.axis.getD (w64 ((k : Int) + 1)).toNat default).pt)))] = _
  rw [e]; rfl
theorem goutside (l : List Pt) (hl : l.length ≤ 9223372036854775807) : CallP Tryz.prog 60 [pts l] (vB (l.any fun p => !good p)) := by
  refine callP_of_ex (rc := []) (N := 5) Tryz.func60 rfl rfl Tryz.call60 tab_ok mix rfl rfl (fun cx _ => ?_)
  refine callN ((containsP l hl 94 0 (fun _ => .junk) (fun p => !good p) (fun x _ => gout1 x)).conv (args' := _) ⟨LeD.refl _, LeD.clo fun j hj => absurd hj (Nat.not_lt_zero j), trivial⟩) ?_
  exact SubR.refl _
theorem lineErr (a b p : Pt) (ha : good a = true) (hb : good b = true) (hp : good p = true) (hab : a ≠ b) : CallP Tryz.prog 130 [pt a, pt b, pt p] (vI 0) := by
  refine callP_of_ex (rc := []) (N := 17) Tryz.func130 rfl rfl Tryz.call130 tab_ok mix rfl rfl (fun cx _ => ?_)
  refine callN ((goutside [a, b, p] (by simp)).conv (args' := _) ⟨LeD.slc fun i j hi hj => LeD.of_eq ?_, trivial⟩) ?_
  · have hi : i < 3 := hi
    have hj : j < 2 := hj
    match i, j, hi, hj with
    | 0, 0, _, _ => rfl
    | 0, 1, _, _ => rfl
    | 1, 0, _, _ => rfl
    | 1, 1, _, _ => rfl
    | 2, 0, _, _ => rfl
    | 2, 1, _, _ => rfl
  refine And.intro (fun h => ?_) (fun h => ?_)
  · simp [ha, hb, hp] at h
  refine And.intro (fun h => ?_) (fun h => ?_)
  · refine absurd ?_ hab
    simp at h
    cases a; cases b; simp_all
  · exact SubR.of_eq rfl
end Go.Ch

namespace Go.Ch
open Go Go.Ax Go.Proofs Go.Proofs.Tryz Go.RowKit
set_option maxRecDepth 100000

theorem sqrt_run (b r : Nat) (h : FloatKind.f64.format.sqrt b = some r) (w : World) : (callFunc 118 #[.float .f64 b]).run Tryz.prog w = .ok (.value (.float .f64 r)) w := by
  rw [run_callFunc_extern (P := Tryz.prog) (f := 118) (fn := Tryz.f118) (e := Extern.MathSqrt.sqrt) Tryz.func118 (by kernel_rfl) rfl (by kernel_rfl) (by kernel_rfl)]
  have e : Extern.MathSqrt.sqrt #[.float .f64 b] = (match FloatKind.f64.format.sqrt b with | some r => pure (.float .f64 r) | none => do pure (.float .f64 (← choose (.nanBits .f64 b b)))) := rfl
  rw [e, h]
  rfl
theorem Sqrt_calls (b r : Nat) (h : FloatKind.f64.format.sqrt b = some r) (w : World) : Calls Tryz.prog 96 #[.float .f64 b] w fun e w' => e = .returned (.float .f64 r) ∧ w' = w := by
  have hs := sqrt_run b r h w
  go_enter Tryz.func96, Tryz.ntmps96
  go_wp2
  go_ret
  exact ⟨rfl, rfl⟩
theorem Sqrt (b r : Nat) (h : FloatKind.f64.format.sqrt b = some r) : CallP Tryz.prog 96 [.s (.d (.val (.float .f64 b)))] (.s (.d (.val (.float .f64 r)))) := by
  refine ⟨Tryz.call96, fun M w vs hr hM => ?_⟩
  match vs, hr with
  | [v], ⟨h1, _⟩ =>
    obtain rfl : v = .float .f64 b := h1
    refine (Sqrt_calls b r h w).mono ?_
    rintro e w' ⟨rfl, rfl⟩
    exact ⟨_, M, rfl, rfl, Grow.refl _ _, hM, Below.refl _ _⟩
end Go.Ch

/- What came in: channels, grids. -/
namespace Go.Ch
open Go Go.Ax Go.Proofs Go.Proofs.Tryz
set_option maxRecDepth 100000

abbrev i64ok (n : Int) : Prop := (Lit.int .i64 n).wf = true
theorem rI : Rd Tryz.prog 3 1 (fun n : Int => [.d (dI n)]) i64ok := rd_int Tryz.underlying3 (by kernel_rfl)
theorem rErr : Rd Tryz.prog 34 1 (fun n : Int => [.d (dI n)]) i64ok := rd_int Tryz.underlying34 (by kernel_rfl)
theorem rS : Rd Tryz.prog 9 1 (fun s : ByteArray => [.d (dS s)]) (fun s => s.size ≤ 9223372036854775807) := rd_str Tryz.underlying9 (by kernel_rfl)
def Pt.ok (p : Pt) : Prop := i64ok p.x ∧ i64ok p.y
theorem rPt : Rd Tryz.prog 57 2 (fun p : Pt => [.d (dI p.x), .d (dI p.y)]) Pt.ok :=
  (rd_struct Tryz.underlying57 rfl (by kernel_rfl) (rdf_cons rfl rI (rdf_cons rfl rI rdf_nil))).to (fun a => ⟨a.1, a.2.1⟩) (fun _ => rfl) (fun _ h => ⟨h.1, h.2.1⟩)
def Ap.ok (p : Ap) : Prop := i64ok p.x ∧ i64ok p.y ∧ i64ok p.half ∧ i64ok p.level ∧ i64ok p.run
theorem rAp : Rd Tryz.prog 68 5 (fun p : Ap => [.d (dI p.x), .d (dI p.y), .d (dI p.half), .d (dI p.level), .d (dI p.run)]) Ap.ok :=
  (rd_struct Tryz.underlying68 rfl (by kernel_rfl) (rdf_cons rfl rI (rdf_cons rfl rI (rdf_cons rfl rI (rdf_cons rfl rI (rdf_cons rfl rI rdf_nil)))))).to (fun a => ⟨a.1, a.2.1, a.2.2.1, a.2.2.2.1, a.2.2.2.2.1⟩) (fun _ => rfl) (fun _ h => ⟨h.1, h.2.1, h.2.2.1, h.2.2.2.1, h.2.2.2.2.1⟩)
theorem rPts : Rd Tryz.prog 60 1 (fun l : List Pt => [.d (dPts l)]) (fun l => l.length ≤ 9223372036854775807 ∧ ∀ a ∈ l, a.ok) :=
  rd_slice Tryz.underlying60 (by kernel_rfl) rPt (by decide) ptD (fun _ => rfl) (fun a j hj => by match j, hj with | 0, _ => rfl | 1, _ => rfl)
theorem rAps : Rd Tryz.prog 22 1 (fun l : List Ap => [.d (dAps l)]) (fun l => l.length ≤ 9223372036854775807 ∧ ∀ a ∈ l, a.ok) :=
  rd_slice Tryz.underlying22 (by kernel_rfl) rAp (by decide) apD (fun _ => rfl) (fun a j hj => by match j, hj with | 0, _ => rfl | 1, _ => rfl | 2, _ => rfl | 3, _ => rfl | 4, _ => rfl)
theorem rInts : Rd Tryz.prog 26 1 (fun l : List Int => [.d (dInts l)]) (fun l => l.length ≤ 9223372036854775807 ∧ ∀ a ∈ l, i64ok a) :=
  rd_slice Tryz.underlying26 (by kernel_rfl) rI (by decide) (fun n _ => dI n) (fun _ => rfl) (fun a j hj => by match j, hj with | 0, _ => rfl)
def Reg.ok (p : Reg) : Prop := p.name.size ≤ 9223372036854775807 ∧ i64ok p.kind ∧ p.corners.length ≤ 9223372036854775807 ∧ ∀ a ∈ p.corners, a.ok
theorem rReg : Rd Tryz.prog 62 3 (fun p : Reg => [.d (dS p.name), .d (dI p.kind), .d (dPts p.corners)]) Reg.ok :=
  (rd_struct Tryz.underlying62 rfl (by kernel_rfl) (rdf_cons rfl rS (rdf_cons rfl rI (rdf_cons rfl rPts rdf_nil)))).to (fun a => ⟨a.1, a.2.1, a.2.2.1⟩) (fun _ => rfl) (fun _ h => ⟨h.1, h.2.1, h.2.2.1⟩)
theorem rRegs : Rd Tryz.prog 23 1 (fun l : List Reg => [.d (dRegs l)]) (fun l => l.length ≤ 9223372036854775807 ∧ ∀ a ∈ l, a.ok) :=
  rd_slice Tryz.underlying23 (by kernel_rfl) rReg (by decide) regD (fun _ => rfl) (fun a j hj => by match j, hj with | 0, _ => rfl | 1, _ => rfl | 2, _ => rfl)
structure Chan.ok (c : Chan) : Prop where
  name : c.name.size ≤ 9223372036854775807
  axis : c.axis.length ≤ 9223372036854775807
  aps : ∀ a ∈ c.axis, a.ok
  over : i64ok c.over
  buffer : i64ok c.buffer
  regions : c.regions.length ≤ 9223372036854775807
  regs : ∀ a ∈ c.regions, a.ok
theorem rChan : RdA Tryz.prog 25 chan Chan.ok :=
  rda_agg (k := 5) Tryz.underlying25 ((rd_struct Tryz.underlying25 rfl (by kernel_rfl) (rdf_cons rfl rS (rdf_cons rfl rAps (rdf_cons rfl rI (rdf_cons rfl rI (rdf_cons rfl rRegs rdf_nil)))))).to (fun a => ⟨a.1, a.2.1, a.2.2.1, a.2.2.2.1, a.2.2.2.2.1⟩) (fun _ => rfl)
    (fun _ h => ⟨h.1, h.2.1.1, h.2.1.2, h.2.2.1, h.2.2.2.1, h.2.2.2.2.1.1, h.2.2.2.2.1.2⟩))
structure Grid.ok (g : Grid) : Prop where
  x : i64ok g.x
  y : i64ok g.y
  side : i64ok g.side
  cols : i64ok g.cols
  rows : i64ok g.rows
  levels : g.levels.length ≤ 9223372036854775807
  lev : ∀ a ∈ g.levels, i64ok a
theorem rGrid : RdA Tryz.prog 28 grid Grid.ok :=
  rda_agg (k := 6) Tryz.underlying28 ((rd_struct Tryz.underlying28 rfl (by kernel_rfl) (rdf_cons rfl rI (rdf_cons rfl rI (rdf_cons rfl rI (rdf_cons rfl rI (rdf_cons rfl rI (rdf_cons rfl rInts rdf_nil))))))).to (fun a => ⟨a.1, a.2.1, a.2.2.1, a.2.2.2.1, a.2.2.2.2.1, a.2.2.2.2.2.1⟩) (fun _ => rfl)
    (fun _ h => ⟨h.1, h.2.1, h.2.2.1, h.2.2.2.1, h.2.2.2.2.1, h.2.2.2.2.2.1.1, h.2.2.2.2.2.1.2⟩))
end Go.Ch
