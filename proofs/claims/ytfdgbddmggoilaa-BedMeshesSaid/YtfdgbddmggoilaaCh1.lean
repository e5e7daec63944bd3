/- Part Ch1: lemmas that the proofs of this seat share; by itself it claims nothing. -/
import Derived.Test.YtfdgbddmggoilaaChecked
import Derived.WalkKit
import Derived.Laws.Externs
import Derived.Test.YtfdgbddmggoilaaEx3
/- The shapes of the types of this seat: by a program. -/
namespace Go.Proofs.Try
open Go Go.Ax

def ty1 : TyI := { und := .func, size := 1, bytes := 8, agg := false, zero := [.nilFunc], flds := [], ints := false }
theorem ty1_ok : TyOK Try.prog 1 ty1 where
  und := ⟨_, Try.underlying1, rfl⟩
  info := ⟨Try.t1, by kernel_rfl, rfl, rfl, _, rfl, rfl⟩
  agg := rfl
  flds := fun fs h => by rw [Try.underlying1] at h; cases h
  eqg := fun h => by cases h
  ints := fun h => by cases h
def ty2 : TyI := { und := .int .i64, size := 1, bytes := 8, agg := false, zero := [.int .i64 0], flds := [], ints := false }
theorem ty2_ok : TyOK Try.prog 2 ty2 where
  und := ⟨_, Try.underlying2, rfl⟩
  info := ⟨Try.t2, by kernel_rfl, rfl, rfl, _, rfl, rfl⟩
  agg := rfl
  flds := fun fs h => by rw [Try.underlying2] at h; cases h
  eqg := fun h => by cases h
  ints := fun h => by cases h
def ty3 : TyI := { und := .int .i64, size := 1, bytes := 8, agg := false, zero := [.int .i64 0], flds := [], ints := false }
theorem ty3_ok : TyOK Try.prog 3 ty3 where
  und := ⟨_, Try.underlying3, rfl⟩
  info := ⟨Try.t3, by kernel_rfl, rfl, rfl, _, rfl, rfl⟩
  agg := rfl
  flds := fun fs h => by rw [Try.underlying3] at h; cases h
  eqg := fun h => by cases h
  ints := fun h => by cases h
def ty4 : TyI := { und := .bool, size := 1, bytes := 1, agg := false, zero := [.bool false], flds := [], ints := false }
theorem ty4_ok : TyOK Try.prog 4 ty4 where
  und := ⟨_, Try.underlying4, rfl⟩
  info := ⟨Try.t4, by kernel_rfl, rfl, rfl, _, rfl, rfl⟩
  agg := rfl
  flds := fun fs h => by rw [Try.underlying4] at h; cases h
  eqg := fun h => by cases h
  ints := fun h => by cases h
def ty5 : TyI := { und := .int .u8, size := 1, bytes := 1, agg := false, zero := [.int .u8 0], flds := [], ints := false }
theorem ty5_ok : TyOK Try.prog 5 ty5 where
  und := ⟨_, Try.underlying5, rfl⟩
  info := ⟨Try.t5, by kernel_rfl, rfl, rfl, _, rfl, rfl⟩
  agg := rfl
  flds := fun fs h => by rw [Try.underlying5] at h; cases h
  eqg := fun h => by cases h
  ints := fun h => by cases h
def ty6 : TyI := { und := .int .u8, size := 1, bytes := 1, agg := false, zero := [.int .u8 0], flds := [], ints := false }
theorem ty6_ok : TyOK Try.prog 6 ty6 where
  und := ⟨_, Try.underlying6, rfl⟩
  info := ⟨Try.t6, by kernel_rfl, rfl, rfl, _, rfl, rfl⟩
  agg := rfl
  flds := fun fs h => by rw [Try.underlying6] at h; cases h
  eqg := fun h => by cases h
  ints := fun h => by cases h
def ty9 : TyI := { und := .string, size := 1, bytes := 16, agg := false, zero := [.string ⟨#[]⟩], flds := [], ints := false }
theorem ty9_ok : TyOK Try.prog 9 ty9 where
  und := ⟨_, Try.underlying9, rfl⟩
  info := ⟨Try.t9, by kernel_rfl, rfl, rfl, _, rfl, rfl⟩
  agg := rfl
  flds := fun fs h => by rw [Try.underlying9] at h; cases h
  eqg := fun h => by cases h
  ints := fun h => by cases h
def ty22 : TyI := { und := .slice 3, size := 1, bytes := 24, agg := false, zero := [.slice none 0 0], flds := [], ints := false }
theorem ty22_ok : TyOK Try.prog 22 ty22 where
  und := ⟨_, Try.underlying22, rfl⟩
  info := ⟨Try.t22, by kernel_rfl, rfl, rfl, _, rfl, rfl⟩
  agg := rfl
  flds := fun fs h => by rw [Try.underlying22] at h; cases h
  eqg := fun h => by cases h
  ints := fun h => by cases h
def ty24 : TyI := { und := .struct, size := 6, bytes := 64, agg := true, zero := [.int .i64 0, .int .i64 0, .int .i64 0, .int .i64 0, .int .i64 0, .slice none 0 0], flds := [(0, 1), (1, 1), (2, 1), (3, 1), (4, 1), (5, 1)], ints := false }
theorem ty24_ok : TyOK Try.prog 24 ty24 where
  und := ⟨_, Try.underlying24, rfl⟩
  info := ⟨Try.t24, by kernel_rfl, rfl, rfl, _, rfl, rfl⟩
  agg := rfl
  flds := fun fs h => by
    rw [Try.underlying24] at h; cases h
    exact ⟨rfl, ⟨Try.t3, by kernel_rfl, rfl⟩, rfl, ⟨Try.t3, by kernel_rfl, rfl⟩, rfl, ⟨Try.t3, by kernel_rfl, rfl⟩, rfl, ⟨Try.t3, by kernel_rfl, rfl⟩, rfl, ⟨Try.t3, by kernel_rfl, rfl⟩, rfl, ⟨Try.t22, by kernel_rfl, rfl⟩, trivial⟩
  eqg := fun h => by cases h
  ints := fun h => by cases h
theorem cmp26 : CmpT Try.prog 2 26 true [.int .i64 0, .int .i64 0] := cmp_struct Try.underlying26 (by kernel_rfl) (size_of (ti := Try.t26) (by kernel_rfl) rfl) ⟨by decide, rfl, false, [.int .i64 0], [.int .i64 0], rfl, (cmp_int 0 Try.underlying3), by decide, rfl, false, [.int .i64 0], [], rfl, (cmp_int 0 Try.underlying3), rfl⟩
def ty26 : TyI := { und := .struct, size := 2, bytes := 16, agg := true, zero := [.int .i64 0, .int .i64 0], flds := [(0, 1), (1, 1)], ints := true }
theorem ty26_ok : TyOK Try.prog 26 ty26 where
  und := ⟨_, Try.underlying26, rfl⟩
  info := ⟨Try.t26, by kernel_rfl, rfl, rfl, _, rfl, rfl⟩
  agg := rfl
  flds := fun fs h => by
    rw [Try.underlying26] at h; cases h
    exact ⟨rfl, ⟨Try.t3, by kernel_rfl, rfl⟩, rfl, ⟨Try.t3, by kernel_rfl, rfl⟩, trivial⟩
  eqg := fun _ => by kernel_rfl
  ints := fun _ => ints_struct cmp26 (by decide)
def ty29 : TyI := { und := .int .i64, size := 1, bytes := 8, agg := false, zero := [.int .i64 0], flds := [], ints := false }
theorem ty29_ok : TyOK Try.prog 29 ty29 where
  und := ⟨_, Try.underlying29, rfl⟩
  info := ⟨Try.t29, by kernel_rfl, rfl, rfl, _, rfl, rfl⟩
  agg := rfl
  flds := fun fs h => by rw [Try.underlying29] at h; cases h
  eqg := fun h => by cases h
  ints := fun h => by cases h
theorem cmp49 : CmpT Try.prog 2 49 true [.int .i64 0, .int .i64 0, .int .i64 0] := cmp_struct Try.underlying49 (by kernel_rfl) (size_of (ti := Try.t49) (by kernel_rfl) rfl) ⟨by decide, rfl, false, [.int .i64 0], [.int .i64 0, .int .i64 0], rfl, (cmp_int 0 Try.underlying3), by decide, rfl, false, [.int .i64 0], [.int .i64 0], rfl, (cmp_int 0 Try.underlying3), by decide, rfl, false, [.int .i64 0], [], rfl, (cmp_int 0 Try.underlying3), rfl⟩
def ty49 : TyI := { und := .struct, size := 3, bytes := 24, agg := true, zero := [.int .i64 0, .int .i64 0, .int .i64 0], flds := [(0, 1), (1, 1), (2, 1)], ints := true }
theorem ty49_ok : TyOK Try.prog 49 ty49 where
  und := ⟨_, Try.underlying49, rfl⟩
  info := ⟨Try.t49, by kernel_rfl, rfl, rfl, _, rfl, rfl⟩
  agg := rfl
  flds := fun fs h => by
    rw [Try.underlying49] at h; cases h
    exact ⟨rfl, ⟨Try.t3, by kernel_rfl, rfl⟩, rfl, ⟨Try.t3, by kernel_rfl, rfl⟩, rfl, ⟨Try.t3, by kernel_rfl, rfl⟩, trivial⟩
  eqg := fun _ => by kernel_rfl
  ints := fun _ => ints_struct cmp49 (by decide)
def ty52 : TyI := { und := .slice 49, size := 1, bytes := 24, agg := false, zero := [.slice none 0 0], flds := [], ints := false }
theorem ty52_ok : TyOK Try.prog 52 ty52 where
  und := ⟨_, Try.underlying52, rfl⟩
  info := ⟨Try.t52, by kernel_rfl, rfl, rfl, _, rfl, rfl⟩
  agg := rfl
  flds := fun fs h => by rw [Try.underlying52] at h; cases h
  eqg := fun h => by cases h
  ints := fun h => by cases h
def ty64 : TyI := { und := .struct, size := 19, bytes := 216, agg := true, zero := [.int .i64 0, .int .i64 0, .int .i64 0, .int .i64 0, .int .i64 0, .slice none 0 0, .int .i64 0, .int .i64 0, .int .i64 0, .int .i64 0, .int .i64 0, .slice none 0 0, .int .i64 0, .int .i64 0, .int .i64 0, .int .i64 0, .int .i64 0, .slice none 0 0, .slice none 0 0], flds := [(0, 6), (6, 6), (12, 6), (18, 1)], ints := false }
theorem ty64_ok : TyOK Try.prog 64 ty64 where
  und := ⟨_, Try.underlying64, rfl⟩
  info := ⟨Try.t64, by kernel_rfl, rfl, rfl, _, rfl, rfl⟩
  agg := rfl
  flds := fun fs h => by
    rw [Try.underlying64] at h; cases h
    exact ⟨rfl, ⟨Try.t24, by kernel_rfl, rfl⟩, rfl, ⟨Try.t24, by kernel_rfl, rfl⟩, rfl, ⟨Try.t24, by kernel_rfl, rfl⟩, rfl, ⟨Try.t22, by kernel_rfl, rfl⟩, trivial⟩
  eqg := fun h => by cases h
  ints := fun h => by cases h
theorem cmp68 : CmpT Try.prog 3 68 true [.int .i64 0, .int .i64 0, .int .i64 0, .int .i64 0, .int .i64 0] := cmp_struct Try.underlying68 (by kernel_rfl) (size_of (ti := Try.t68) (by kernel_rfl) rfl) ⟨by decide, rfl, true, [.int .i64 0, .int .i64 0], [.int .i64 0, .int .i64 0, .int .i64 0], rfl, cmp26, by decide, rfl, true, [.int .i64 0, .int .i64 0], [.int .i64 0], rfl, cmp26, by decide, rfl, false, [.int .i64 0], [], rfl, (CmpT.up (cmp_int 0 Try.underlying3)), rfl⟩
def ty68 : TyI := { und := .struct, size := 5, bytes := 40, agg := true, zero := [.int .i64 0, .int .i64 0, .int .i64 0, .int .i64 0, .int .i64 0], flds := [(0, 2), (2, 2), (4, 1)], ints := true }
theorem ty68_ok : TyOK Try.prog 68 ty68 where
  und := ⟨_, Try.underlying68, rfl⟩
  info := ⟨Try.t68, by kernel_rfl, rfl, rfl, _, rfl, rfl⟩
  agg := rfl
  flds := fun fs h => by
    rw [Try.underlying68] at h; cases h
    exact ⟨rfl, ⟨Try.t26, by kernel_rfl, rfl⟩, rfl, ⟨Try.t26, by kernel_rfl, rfl⟩, rfl, ⟨Try.t3, by kernel_rfl, rfl⟩, trivial⟩
  eqg := fun _ => by kernel_rfl
  ints := fun _ => ints_struct cmp68 (by decide)
def ty75 : TyI := { und := .slice 26, size := 1, bytes := 24, agg := false, zero := [.slice none 0 0], flds := [], ints := false }
theorem ty75_ok : TyOK Try.prog 75 ty75 where
  und := ⟨_, Try.underlying75, rfl⟩
  info := ⟨Try.t75, by kernel_rfl, rfl, rfl, _, rfl, rfl⟩
  agg := rfl
  flds := fun fs h => by rw [Try.underlying75] at h; cases h
  eqg := fun h => by cases h
  ints := fun h => by cases h
def ty87 : TyI := { und := .slice 92, size := 1, bytes := 24, agg := false, zero := [.slice none 0 0], flds := [], ints := false }
theorem ty87_ok : TyOK Try.prog 87 ty87 where
  und := ⟨_, Try.underlying87, rfl⟩
  info := ⟨Try.t87, by kernel_rfl, rfl, rfl, _, rfl, rfl⟩
  agg := rfl
  flds := fun fs h => by rw [Try.underlying87] at h; cases h
  eqg := fun h => by cases h
  ints := fun h => by cases h
theorem cmp92 : CmpT Try.prog 3 92 true [.int .i64 0, .int .i64 0, .int .i64 0, .int .i64 0] := cmp_struct Try.underlying92 (by kernel_rfl) (size_of (ti := Try.t92) (by kernel_rfl) rfl) ⟨by decide, rfl, true, [.int .i64 0, .int .i64 0], [.int .i64 0, .int .i64 0], rfl, cmp26, by decide, rfl, true, [.int .i64 0, .int .i64 0], [], rfl, cmp26, rfl⟩
def ty92 : TyI := { und := .struct, size := 4, bytes := 32, agg := true, zero := [.int .i64 0, .int .i64 0, .int .i64 0, .int .i64 0], flds := [(0, 2), (2, 2)], ints := true }
theorem ty92_ok : TyOK Try.prog 92 ty92 where
  und := ⟨_, Try.underlying92, rfl⟩
  info := ⟨Try.t92, by kernel_rfl, rfl, rfl, _, rfl, rfl⟩
  agg := rfl
  flds := fun fs h => by
    rw [Try.underlying92] at h; cases h
    exact ⟨rfl, ⟨Try.t26, by kernel_rfl, rfl⟩, rfl, ⟨Try.t26, by kernel_rfl, rfl⟩, trivial⟩
  eqg := fun _ => by kernel_rfl
  ints := fun _ => ints_struct cmp92 (by decide)
def ty94 : TyI := { und := .struct, size := 3, bytes := 56, agg := true, zero := [.int .i64 0, .slice none 0 0, .slice none 0 0], flds := [(0, 1), (1, 1), (2, 1)], ints := false }
theorem ty94_ok : TyOK Try.prog 94 ty94 where
  und := ⟨_, Try.underlying94, rfl⟩
  info := ⟨Try.t94, by kernel_rfl, rfl, rfl, _, rfl, rfl⟩
  agg := rfl
  flds := fun fs h => by
    rw [Try.underlying94] at h; cases h
    exact ⟨rfl, ⟨Try.t3, by kernel_rfl, rfl⟩, rfl, ⟨Try.t22, by kernel_rfl, rfl⟩, rfl, ⟨Try.t22, by kernel_rfl, rfl⟩, trivial⟩
  eqg := fun h => by cases h
  ints := fun h => by cases h
def ty97 : TyI := { und := .array 3 24, size := 18, bytes := 192, agg := true, zero := [.int .i64 0, .int .i64 0, .int .i64 0, .int .i64 0, .int .i64 0, .slice none 0 0, .int .i64 0, .int .i64 0, .int .i64 0, .int .i64 0, .int .i64 0, .slice none 0 0, .int .i64 0, .int .i64 0, .int .i64 0, .int .i64 0, .int .i64 0, .slice none 0 0], flds := [], ints := false }
theorem ty97_ok : TyOK Try.prog 97 ty97 where
  und := ⟨_, Try.underlying97, rfl⟩
  info := ⟨Try.t97, by kernel_rfl, rfl, rfl, _, rfl, rfl⟩
  agg := rfl
  flds := fun fs h => by rw [Try.underlying97] at h; cases h
  eqg := fun h => by cases h
  ints := fun h => by cases h
def ty98 : TyI := { und := .slice 157, size := 1, bytes := 24, agg := false, zero := [.slice none 0 0], flds := [], ints := false }
theorem ty98_ok : TyOK Try.prog 98 ty98 where
  und := ⟨_, Try.underlying98, rfl⟩
  info := ⟨Try.t98, by kernel_rfl, rfl, rfl, _, rfl, rfl⟩
  agg := rfl
  flds := fun fs h => by rw [Try.underlying98] at h; cases h
  eqg := fun h => by cases h
  ints := fun h => by cases h
def ty99 : TyI := { und := .slice 155, size := 1, bytes := 24, agg := false, zero := [.slice none 0 0], flds := [], ints := false }
theorem ty99_ok : TyOK Try.prog 99 ty99 where
  und := ⟨_, Try.underlying99, rfl⟩
  info := ⟨Try.t99, by kernel_rfl, rfl, rfl, _, rfl, rfl⟩
  agg := rfl
  flds := fun fs h => by rw [Try.underlying99] at h; cases h
  eqg := fun h => by cases h
  ints := fun h => by cases h
def ty101 : TyI := { und := .struct, size := 2, bytes := 48, agg := true, zero := [.slice none 0 0, .slice none 0 0], flds := [(0, 1), (1, 1)], ints := false }
theorem ty101_ok : TyOK Try.prog 101 ty101 where
  und := ⟨_, Try.underlying101, rfl⟩
  info := ⟨Try.t101, by kernel_rfl, rfl, rfl, _, rfl, rfl⟩
  agg := rfl
  flds := fun fs h => by
    rw [Try.underlying101] at h; cases h
    exact ⟨rfl, ⟨Try.t98, by kernel_rfl, rfl⟩, rfl, ⟨Try.t99, by kernel_rfl, rfl⟩, trivial⟩
  eqg := fun h => by cases h
  ints := fun h => by cases h
theorem cmp104 : CmpT Try.prog 2 104 true [.int .i64 0, .int .i64 0] := cmp_struct Try.underlying104 (by kernel_rfl) (size_of (ti := Try.t104) (by kernel_rfl) rfl) ⟨by decide, rfl, false, [.int .i64 0], [.int .i64 0], rfl, (cmp_int 0 Try.underlying3), by decide, rfl, false, [.int .i64 0], [], rfl, (cmp_int 0 Try.underlying3), rfl⟩
def ty104 : TyI := { und := .struct, size := 2, bytes := 16, agg := true, zero := [.int .i64 0, .int .i64 0], flds := [(0, 1), (1, 1)], ints := true }
theorem ty104_ok : TyOK Try.prog 104 ty104 where
  und := ⟨_, Try.underlying104, rfl⟩
  info := ⟨Try.t104, by kernel_rfl, rfl, rfl, _, rfl, rfl⟩
  agg := rfl
  flds := fun fs h => by
    rw [Try.underlying104] at h; cases h
    exact ⟨rfl, ⟨Try.t3, by kernel_rfl, rfl⟩, rfl, ⟨Try.t3, by kernel_rfl, rfl⟩, trivial⟩
  eqg := fun _ => by kernel_rfl
  ints := fun _ => ints_struct cmp104 (by decide)
def ty116 : TyI := { und := .struct, size := 5, bytes := 104, agg := true, zero := [.slice none 0 0, .slice none 0 0, .int .i64 0, .slice none 0 0, .slice none 0 0], flds := [(0, 1), (1, 1), (2, 3)], ints := false }
theorem ty116_ok : TyOK Try.prog 116 ty116 where
  und := ⟨_, Try.underlying116, rfl⟩
  info := ⟨Try.t116, by kernel_rfl, rfl, rfl, _, rfl, rfl⟩
  agg := rfl
  flds := fun fs h => by
    rw [Try.underlying116] at h; cases h
    exact ⟨rfl, ⟨Try.t22, by kernel_rfl, rfl⟩, rfl, ⟨Try.t22, by kernel_rfl, rfl⟩, rfl, ⟨Try.t94, by kernel_rfl, rfl⟩, trivial⟩
  eqg := fun h => by cases h
  ints := fun h => by cases h
theorem cmp133 : CmpT Try.prog 2 133 true [.int .i64 0, .int .i64 0] := cmp_struct Try.underlying133 (by kernel_rfl) (size_of (ti := Try.t133) (by kernel_rfl) rfl) ⟨by decide, rfl, false, [.int .i64 0], [.int .i64 0], rfl, (cmp_int 0 Try.underlying3), by decide, rfl, false, [.int .i64 0], [], rfl, (cmp_int 0 Try.underlying3), rfl⟩
def ty133 : TyI := { und := .struct, size := 2, bytes := 16, agg := true, zero := [.int .i64 0, .int .i64 0], flds := [(0, 1), (1, 1)], ints := true }
theorem ty133_ok : TyOK Try.prog 133 ty133 where
  und := ⟨_, Try.underlying133, rfl⟩
  info := ⟨Try.t133, by kernel_rfl, rfl, rfl, _, rfl, rfl⟩
  agg := rfl
  flds := fun fs h => by
    rw [Try.underlying133] at h; cases h
    exact ⟨rfl, ⟨Try.t3, by kernel_rfl, rfl⟩, rfl, ⟨Try.t3, by kernel_rfl, rfl⟩, trivial⟩
  eqg := fun _ => by kernel_rfl
  ints := fun _ => ints_struct cmp133 (by decide)
def ty146 : TyI := { und := .array 2 3, size := 2, bytes := 16, agg := true, zero := [.int .i64 0, .int .i64 0], flds := [], ints := false }
theorem ty146_ok : TyOK Try.prog 146 ty146 where
  und := ⟨_, Try.underlying146, rfl⟩
  info := ⟨Try.t146, by kernel_rfl, rfl, rfl, _, rfl, rfl⟩
  agg := rfl
  flds := fun fs h => by rw [Try.underlying146] at h; cases h
  eqg := fun h => by cases h
  ints := fun h => by cases h
def ty147 : TyI := { und := .array 4 146, size := 8, bytes := 64, agg := true, zero := [.int .i64 0, .int .i64 0, .int .i64 0, .int .i64 0, .int .i64 0, .int .i64 0, .int .i64 0, .int .i64 0], flds := [], ints := false }
theorem ty147_ok : TyOK Try.prog 147 ty147 where
  und := ⟨_, Try.underlying147, rfl⟩
  info := ⟨Try.t147, by kernel_rfl, rfl, rfl, _, rfl, rfl⟩
  agg := rfl
  flds := fun fs h => by rw [Try.underlying147] at h; cases h
  eqg := fun h => by cases h
  ints := fun h => by cases h
def ty150 : TyI := { und := .slice 146, size := 1, bytes := 24, agg := false, zero := [.slice none 0 0], flds := [], ints := false }
theorem ty150_ok : TyOK Try.prog 150 ty150 where
  und := ⟨_, Try.underlying150, rfl⟩
  info := ⟨Try.t150, by kernel_rfl, rfl, rfl, _, rfl, rfl⟩
  agg := rfl
  flds := fun fs h => by rw [Try.underlying150] at h; cases h
  eqg := fun h => by cases h
  ints := fun h => by cases h
theorem cmp155 : CmpT Try.prog 2 155 true [.int .i64 0, .int .i64 0, .int .i64 0] := cmp_struct Try.underlying155 (by kernel_rfl) (size_of (ti := Try.t155) (by kernel_rfl) rfl) ⟨by decide, rfl, false, [.int .i64 0], [.int .i64 0, .int .i64 0], rfl, (cmp_int 0 Try.underlying3), by decide, rfl, false, [.int .i64 0], [.int .i64 0], rfl, (cmp_int 0 Try.underlying3), by decide, rfl, false, [.int .i64 0], [], rfl, (cmp_int 0 Try.underlying3), rfl⟩
def ty155 : TyI := { und := .struct, size := 3, bytes := 24, agg := true, zero := [.int .i64 0, .int .i64 0, .int .i64 0], flds := [(0, 1), (1, 1), (2, 1)], ints := true }
theorem ty155_ok : TyOK Try.prog 155 ty155 where
  und := ⟨_, Try.underlying155, rfl⟩
  info := ⟨Try.t155, by kernel_rfl, rfl, rfl, _, rfl, rfl⟩
  agg := rfl
  flds := fun fs h => by
    rw [Try.underlying155] at h; cases h
    exact ⟨rfl, ⟨Try.t3, by kernel_rfl, rfl⟩, rfl, ⟨Try.t3, by kernel_rfl, rfl⟩, rfl, ⟨Try.t3, by kernel_rfl, rfl⟩, trivial⟩
  eqg := fun _ => by kernel_rfl
  ints := fun _ => ints_struct cmp155 (by decide)
theorem cmp157 : CmpT Try.prog 2 157 true [.int .i64 0, .int .i64 0, .int .i64 0] := cmp_struct Try.underlying157 (by kernel_rfl) (size_of (ti := Try.t157) (by kernel_rfl) rfl) ⟨by decide, rfl, false, [.int .i64 0], [.int .i64 0, .int .i64 0], rfl, (cmp_int 0 Try.underlying3), by decide, rfl, false, [.int .i64 0], [.int .i64 0], rfl, (cmp_int 0 Try.underlying3), by decide, rfl, false, [.int .i64 0], [], rfl, (cmp_int 0 Try.underlying3), rfl⟩
def ty157 : TyI := { und := .struct, size := 3, bytes := 24, agg := true, zero := [.int .i64 0, .int .i64 0, .int .i64 0], flds := [(0, 1), (1, 1), (2, 1)], ints := true }
theorem ty157_ok : TyOK Try.prog 157 ty157 where
  und := ⟨_, Try.underlying157, rfl⟩
  info := ⟨Try.t157, by kernel_rfl, rfl, rfl, _, rfl, rfl⟩
  agg := rfl
  flds := fun fs h => by
    rw [Try.underlying157] at h; cases h
    exact ⟨rfl, ⟨Try.t3, by kernel_rfl, rfl⟩, rfl, ⟨Try.t3, by kernel_rfl, rfl⟩, rfl, ⟨Try.t3, by kernel_rfl, rfl⟩, trivial⟩
  eqg := fun _ => by kernel_rfl
  ints := fun _ => ints_struct cmp157 (by decide)
def ty167 : TyI := { und := .slice 24, size := 1, bytes := 24, agg := false, zero := [.slice none 0 0], flds := [], ints := false }
theorem ty167_ok : TyOK Try.prog 167 ty167 where
  und := ⟨_, Try.underlying167, rfl⟩
  info := ⟨Try.t167, by kernel_rfl, rfl, rfl, _, rfl, rfl⟩
  agg := rfl
  flds := fun fs h => by rw [Try.underlying167] at h; cases h
  eqg := fun h => by cases h
  ints := fun h => by cases h
theorem cmp169 : CmpT Try.prog 2 169 true [.int .i64 0, .int .i64 0, .int .i64 0, .int .i64 0, .int .i64 0] := cmp_struct Try.underlying169 (by kernel_rfl) (size_of (ti := Try.t169) (by kernel_rfl) rfl) ⟨by decide, rfl, false, [.int .i64 0], [.int .i64 0, .int .i64 0, .int .i64 0, .int .i64 0], rfl, (cmp_int 0 Try.underlying3), by decide, rfl, false, [.int .i64 0], [.int .i64 0, .int .i64 0, .int .i64 0], rfl, (cmp_int 0 Try.underlying3), by decide, rfl, false, [.int .i64 0], [.int .i64 0, .int .i64 0], rfl, (cmp_int 0 Try.underlying3), by decide, rfl, false, [.int .i64 0], [.int .i64 0], rfl, (cmp_int 0 Try.underlying3), by decide, rfl, false, [.int .i64 0], [], rfl, (cmp_int 0 Try.underlying3), rfl⟩
def ty169 : TyI := { und := .struct, size := 5, bytes := 40, agg := true, zero := [.int .i64 0, .int .i64 0, .int .i64 0, .int .i64 0, .int .i64 0], flds := [(0, 1), (1, 1), (2, 1), (3, 1), (4, 1)], ints := true }
theorem ty169_ok : TyOK Try.prog 169 ty169 where
  und := ⟨_, Try.underlying169, rfl⟩
  info := ⟨Try.t169, by kernel_rfl, rfl, rfl, _, rfl, rfl⟩
  agg := rfl
  flds := fun fs h => by
    rw [Try.underlying169] at h; cases h
    exact ⟨rfl, ⟨Try.t3, by kernel_rfl, rfl⟩, rfl, ⟨Try.t3, by kernel_rfl, rfl⟩, rfl, ⟨Try.t3, by kernel_rfl, rfl⟩, rfl, ⟨Try.t3, by kernel_rfl, rfl⟩, rfl, ⟨Try.t3, by kernel_rfl, rfl⟩, trivial⟩
  eqg := fun _ => by kernel_rfl
  ints := fun _ => ints_struct cmp169 (by decide)
def ty172 : TyI := { und := .slice 22, size := 1, bytes := 24, agg := false, zero := [.slice none 0 0], flds := [], ints := false }
theorem ty172_ok : TyOK Try.prog 172 ty172 where
  und := ⟨_, Try.underlying172, rfl⟩
  info := ⟨Try.t172, by kernel_rfl, rfl, rfl, _, rfl, rfl⟩
  agg := rfl
  flds := fun fs h => by rw [Try.underlying172] at h; cases h
  eqg := fun h => by cases h
  ints := fun h => by cases h
def ty174 : TyI := { und := .func, size := 1, bytes := 8, agg := false, zero := [.nilFunc], flds := [], ints := false }
theorem ty174_ok : TyOK Try.prog 174 ty174 where
  und := ⟨_, Try.underlying174, rfl⟩
  info := ⟨Try.t174, by kernel_rfl, rfl, rfl, _, rfl, rfl⟩
  agg := rfl
  flds := fun fs h => by rw [Try.underlying174] at h; cases h
  eqg := fun h => by cases h
  ints := fun h => by cases h
def ty176 : TyI := { und := .struct, size := 2, bytes := 16, agg := true, zero := [.int .i64 0, .nilFunc], flds := [(0, 1), (1, 1)], ints := false }
theorem ty176_ok : TyOK Try.prog 176 ty176 where
  und := ⟨_, Try.underlying176, rfl⟩
  info := ⟨Try.t176, by kernel_rfl, rfl, rfl, _, rfl, rfl⟩
  agg := rfl
  flds := fun fs h => by
    rw [Try.underlying176] at h; cases h
    exact ⟨rfl, ⟨Try.t29, by kernel_rfl, rfl⟩, rfl, ⟨Try.t174, by kernel_rfl, rfl⟩, trivial⟩
  eqg := fun h => by cases h
  ints := fun h => by cases h
def ty177 : TyI := { und := .array 4 176, size := 8, bytes := 64, agg := true, zero := [.int .i64 0, .nilFunc, .int .i64 0, .nilFunc, .int .i64 0, .nilFunc, .int .i64 0, .nilFunc], flds := [], ints := false }
theorem ty177_ok : TyOK Try.prog 177 ty177 where
  und := ⟨_, Try.underlying177, rfl⟩
  info := ⟨Try.t177, by kernel_rfl, rfl, rfl, _, rfl, rfl⟩
  agg := rfl
  flds := fun fs h => by rw [Try.underlying177] at h; cases h
  eqg := fun h => by cases h
  ints := fun h => by cases h
def ty180 : TyI := { und := .map 3 4, size := 1, bytes := 8, agg := false, zero := [.map none], flds := [], ints := false }
theorem ty180_ok : TyOK Try.prog 180 ty180 where
  und := ⟨_, Try.underlying180, rfl⟩
  info := ⟨Try.t180, by kernel_rfl, rfl, rfl, _, rfl, rfl⟩
  agg := rfl
  flds := fun fs h => by rw [Try.underlying180] at h; cases h
  eqg := fun h => by cases h
  ints := fun h => by cases h
def ty182 : TyI := { und := .map 3 3, size := 1, bytes := 8, agg := false, zero := [.map none], flds := [], ints := false }
theorem ty182_ok : TyOK Try.prog 182 ty182 where
  und := ⟨_, Try.underlying182, rfl⟩
  info := ⟨Try.t182, by kernel_rfl, rfl, rfl, _, rfl, rfl⟩
  agg := rfl
  flds := fun fs h => by rw [Try.underlying182] at h; cases h
  eqg := fun h => by cases h
  ints := fun h => by cases h
def ty184 : TyI := { und := .slice 4, size := 1, bytes := 24, agg := false, zero := [.slice none 0 0], flds := [], ints := false }
theorem ty184_ok : TyOK Try.prog 184 ty184 where
  und := ⟨_, Try.underlying184, rfl⟩
  info := ⟨Try.t184, by kernel_rfl, rfl, rfl, _, rfl, rfl⟩
  agg := rfl
  flds := fun fs h => by rw [Try.underlying184] at h; cases h
  eqg := fun h => by cases h
  ints := fun h => by cases h
def ty189 : TyI := { und := .int .u64, size := 1, bytes := 8, agg := false, zero := [.int .u64 0], flds := [], ints := false }
theorem ty189_ok : TyOK Try.prog 189 ty189 where
  und := ⟨_, Try.underlying189, rfl⟩
  info := ⟨Try.t189, by kernel_rfl, rfl, rfl, _, rfl, rfl⟩
  agg := rfl
  flds := fun fs h => by rw [Try.underlying189] at h; cases h
  eqg := fun h => by cases h
  ints := fun h => by cases h
def ty192 : TyI := { und := .int .i64, size := 1, bytes := 8, agg := false, zero := [.int .i64 0], flds := [], ints := false }
theorem ty192_ok : TyOK Try.prog 192 ty192 where
  und := ⟨_, Try.underlying192, rfl⟩
  info := ⟨Try.t192, by kernel_rfl, rfl, rfl, _, rfl, rfl⟩
  agg := rfl
  flds := fun fs h => by rw [Try.underlying192] at h; cases h
  eqg := fun h => by cases h
  ints := fun h => by cases h
def ty199 : TyI := { und := .int .u32, size := 1, bytes := 4, agg := false, zero := [.int .u32 0], flds := [], ints := false }
theorem ty199_ok : TyOK Try.prog 199 ty199 where
  und := ⟨_, Try.underlying199, rfl⟩
  info := ⟨Try.t199, by kernel_rfl, rfl, rfl, _, rfl, rfl⟩
  agg := rfl
  flds := fun fs h => by rw [Try.underlying199] at h; cases h
  eqg := fun h => by cases h
  ints := fun h => by cases h
def ty201 : TyI := { und := .int .u64, size := 1, bytes := 8, agg := false, zero := [.int .u64 0], flds := [], ints := false }
theorem ty201_ok : TyOK Try.prog 201 ty201 where
  und := ⟨_, Try.underlying201, rfl⟩
  info := ⟨Try.t201, by kernel_rfl, rfl, rfl, _, rfl, rfl⟩
  agg := rfl
  flds := fun fs h => by rw [Try.underlying201] at h; cases h
  eqg := fun h => by cases h
  ints := fun h => by cases h
def ty202 : TyI := { und := .int .u64, size := 1, bytes := 8, agg := false, zero := [.int .u64 0], flds := [], ints := false }
theorem ty202_ok : TyOK Try.prog 202 ty202 where
  und := ⟨_, Try.underlying202, rfl⟩
  info := ⟨Try.t202, by kernel_rfl, rfl, rfl, _, rfl, rfl⟩
  agg := rfl
  flds := fun fs h => by rw [Try.underlying202] at h; cases h
  eqg := fun h => by cases h
  ints := fun h => by cases h

/-- The table. -/
def tab : List (Nat × TyI) := [(1, ty1), (2, ty2), (3, ty3), (4, ty4), (5, ty5), (6, ty6), (9, ty9), (22, ty22), (24, ty24), (26, ty26), (29, ty29), (49, ty49), (52, ty52), (64, ty64), (68, ty68), (75, ty75), (87, ty87), (92, ty92), (94, ty94), (97, ty97), (98, ty98), (99, ty99), (101, ty101), (104, ty104), (116, ty116), (133, ty133), (146, ty146), (147, ty147), (150, ty150), (155, ty155), (157, ty157), (167, ty167), (169, ty169), (172, ty172), (174, ty174), (176, ty176), (177, ty177), (180, ty180), (182, ty182), (184, ty184), (189, ty189), (192, ty192), (199, ty199), (201, ty201), (202, ty202)]
theorem tab_ok : TabOK Try.prog tab := ⟨ty1_ok, ty2_ok, ty3_ok, ty4_ok, ty5_ok, ty6_ok, ty9_ok, ty22_ok, ty24_ok, ty26_ok, ty29_ok, ty49_ok, ty52_ok, ty64_ok, ty68_ok, ty75_ok, ty87_ok, ty92_ok, ty94_ok, ty97_ok, ty98_ok, ty99_ok, ty101_ok, ty104_ok, ty116_ok, ty133_ok, ty146_ok, ty147_ok, ty150_ok, ty155_ok, ty157_ok, ty167_ok, ty169_ok, ty172_ok, ty174_ok, ty176_ok, ty177_ok, ty180_ok, ty182_ok, ty184_ok, ty189_ok, ty192_ok, ty199_ok, ty201_ok, ty202_ok, trivial⟩
end Go.Proofs.Try

/- The data of the program, and how the executor sees it. -/
namespace Go.Ch
open Go Go.Ax Go.Proofs Go.Proofs.Try

theorem mix : Try.prog.follows .mixedOrders = true := by kernel_rfl

structure Pt where
  x : Int
  y : Int
  deriving DecidableEq, Inhabited
structure Ap where
  x : Int
  y : Int
  half : Int
  level : Int
  run : Int
  deriving DecidableEq, Inhabited
structure Reg where
  name : ByteArray
  kind : Int
  corners : List Pt
  deriving Inhabited
structure Chan where
  name : ByteArray
  axis : List Ap
  over : Int
  buffer : Int
  regions : List Reg
  deriving Inhabited
structure Grid where
  x : Int
  y : Int
  side : Int
  cols : Int
  rows : Int
  levels : List Int
  deriving Inhabited

abbrev dS (s : ByteArray) : DV := .val (.string s)
abbrev vS (s : ByteArray) : AV := .s (.d (dS s))
abbrev pt (p : Pt) : AV := .g [.d (dI p.x), .d (dI p.y)]
abbrev ap (p : Ap) : AV := .g [.d (dI p.x), .d (dI p.y), .d (dI p.half), .d (dI p.level), .d (dI p.run)]
def ptD (p : Pt) : Nat → DV
  | 0 => dI p.x
  | 1 => dI p.y
  | _ => .junk
def apD (p : Ap) : Nat → DV
  | 0 => dI p.x
  | 1 => dI p.y
  | 2 => dI p.half
  | 3 => dI p.level
  | 4 => dI p.run
  | _ => .junk
def ptEl (l : List Pt) : Nat → Nat → DV := fun i => ptD (l.getD i default)
def dPts (l : List Pt) : DV := .slc l.length 2 (ptEl l)
abbrev pts (l : List Pt) : AV := .s (.d (dPts l))
def apEl (l : List Ap) : Nat → Nat → DV := fun i => apD (l.getD i default)
def dAps (l : List Ap) : DV := .slc l.length 5 (apEl l)
def regD (p : Reg) : Nat → DV
  | 0 => dS p.name
  | 1 => dI p.kind
  | 2 => dPts p.corners
  | _ => .junk
abbrev reg (p : Reg) : AV := .g [.d (dS p.name), .d (dI p.kind), .d (dPts p.corners)]
def regEl (l : List Reg) : Nat → Nat → DV := fun i => regD (l.getD i default)
def dRegs (l : List Reg) : DV := .slc l.length 3 (regEl l)
abbrev vRegs (l : List Reg) : AV := .s (.d (dRegs l))
abbrev vAps (l : List Ap) : AV := .s (.d (dAps l))
abbrev chan (c : Chan) : AV := .g [.d (dS c.name), .d (dAps c.axis), .d (dI c.over), .d (dI c.buffer), .d (dRegs c.regions)]
abbrev grid (g : Grid) : AV := .g [.d (dI g.x), .d (dI g.y), .d (dI g.side), .d (dI g.cols), .d (dI g.rows), .d (dInts g.levels)]

theorem natOf {i : Nat} : ((i : Int)).toNat = i := rfl
theorem getD_of {α : Type} [Inhabited α] {l : List α} {i : Nat} (h : i < l.length) {d : α} : l.getD i d = l[i] := by simp [List.getElem?_eq_getElem h]
theorem decT {p : Prop} [Decidable p] (h : decide p = true) : p := of_decide_eq_true h
theorem decF {p : Prop} [Decidable p] (h : decide p = false) : ¬ p := of_decide_eq_false h

/-- What the program computes. -/
def within (n lo hi : Int) : Bool := decide (n ≥ lo) && decide (n ≤ hi)
def cross (a b c : Pt) : Int := w64 (w64 (w64 (b.x - a.x) * w64 (c.y - a.y)) - w64 (w64 (b.y - a.y) * w64 (c.x - a.x)))
def dot (a b c : Pt) : Int := w64 (w64 (w64 (b.x - a.x) * w64 (c.x - a.x)) + w64 (w64 (b.y - a.y) * w64 (c.y - a.y)))
def between (a b p : Pt) : Bool := cross a b p == 0 && within p.x (mm false a.x b.x) (mm true a.x b.x) && within p.y (mm false a.y b.y) (mm true a.y b.y)
def sgn (n : Int) : Int := if n < 0 then -1 else if n > 0 then 1 else 0
def meet (a b c d : Pt) : Bool :=
  (((between a b c || between a b d) || between c d a) || between c d b) || (decide (w64 (sgn (cross a b c) * sgn (cross a b d)) < 0) && decide (w64 (sgn (cross c d a) * sgn (cross c d b)) < 0))
def good (p : Pt) : Bool := within p.x (-1000000) 1000000 && within p.y (-1000000) 1000000
def Ap.pt (a : Ap) : Pt := ⟨a.x, a.y⟩
end Go.Ch

namespace Go.Ch
open Go Go.Ax Go.Proofs Go.Proofs.Try

set_option maxRecDepth 100000
set_option pp.maxSteps 400

theorem Within (n lo hi : Int) : CallP Try.prog 80 [vI n, vI lo, vI hi] (vB (within n lo hi)) := by
  refine callP_of_ex (rc := []) (N := 15) Try.func80 rfl rfl Try.call80 tab_ok mix rfl rfl (fun cx _ => ?_)
  exact ⟨fun h => h, fun h => h, fun h => h, trivial, SubR.refl _⟩
theorem Cross (a b c : Pt) : CallP Try.prog 144 [pt a, pt b, pt c] (vI (cross a b c)) := by
  refine callP_of_ex (rc := []) (N := 30) Try.func144 rfl rfl Try.call144 tab_ok mix rfl rfl (fun cx _ => ?_)
  exact SubR.refl _
theorem gcross (a b c : Pt) : CallP Try.prog 148 [pt a, pt b, pt c] (vI (cross a b c)) := by
  refine callP_of_ex (rc := []) (N := 30) Try.func148 rfl rfl Try.call148 tab_ok mix rfl rfl (fun cx _ => ?_)
  exact SubR.refl _
theorem Sign (n : Int) : CallP Try.prog 161 [vI n] (vI (sgn n)) := by
  refine callP_of_ex (rc := []) (N := 7) Try.func161 rfl rfl Try.call161 tab_ok mix rfl rfl (fun cx _ => ?_)
  refine And.intro (fun h => ?_) (fun h => And.intro (fun h' => ?_) (fun h' => ?_))
  · exact SubR.of_eq (by rw [sgn, if_pos (decT h)]; rfl)
  · exact SubR.of_eq (by rw [sgn, if_neg (decF h), if_pos (decT h')]; rfl)
  · exact SubR.of_eq (by rw [sgn, if_neg (decF h), if_neg (decF h')]; rfl)
theorem Orient (a b c : Pt) : CallP Try.prog 145 [pt a, pt b, pt c] (vI (sgn (cross a b c))) := by
  refine callP_of_ex (rc := []) (N := 12) Try.func145 rfl rfl Try.call145 tab_ok mix rfl rfl (fun cx _ => ?_)
  exact callN (Cross a b c) (callN (Sign _) (SubR.refl _))
theorem isNaN (n : Int) : CallP Try.prog 183 [vI n] (vB false) := by
  refine callP_of_ex (rc := []) (N := 6) Try.func183 rfl rfl Try.call183 tab_ok mix rfl rfl (fun cx _ => ?_)
  exact SubR.of_eq (by show vB (n != n) = vB false; simp)
theorem Between (a b p : Pt) : CallP Try.prog 105 [pt a, pt b, pt p] (vB (between a b p)) := by
  refine callP_of_ex (rc := []) (N := 42) Try.func105 rfl rfl Try.call105 tab_ok mix rfl rfl (fun cx _ => ?_)
  refine callN (Cross a b p) ?_
  repeat first | refine sk ?_ | refine st ?_ | refine sg ?_
  refine callG (Within _ _ _) ?_
  repeat first | refine sk ?_ | refine st ?_ | refine sg ?_
  refine callG (Within _ _ _) ?_
  repeat first | refine sk ?_ | refine st ?_ | refine sg ?_
  exact SubR.refl _
theorem Meet (a b c d : Pt) : CallP Try.prog 106 [pt a, pt b, pt c, pt d] (vB (meet a b c d)) := by
  refine callP_of_ex (rc := []) (N := 53) Try.func106 rfl rfl Try.call106 tab_ok mix rfl rfl (fun cx _ => ?_)
  refine callN (Between a b c) ?_
  repeat first | refine sk ?_ | refine st ?_ | refine sg ?_
  refine callG (Between a b d) ?_
  repeat first | refine sk ?_ | refine st ?_ | refine sg ?_
  refine callG (Between c d a) ?_
  repeat first | refine sk ?_ | refine st ?_ | refine sg ?_
  refine callG (Between c d b) ?_
  repeat first | refine sk ?_ | refine st ?_ | refine sg ?_
  refine And.intro (fun h => ?_) (fun h => ?_)
  · exact SubR.lit (by rw [meet, h]; rfl)
  · refine callN (Orient a b c) ?_
    refine callN (Orient a b d) ?_
    repeat first | refine sk ?_ | refine st ?_ | refine sg ?_
    refine callG (Orient c d a) ?_
    repeat first | refine sk ?_ | refine st ?_ | refine sg ?_
    refine callG (Orient c d b) ?_
    repeat first | refine sk ?_ | refine st ?_ | refine sg ?_
    refine And.intro (by kernel_rfl) ?_
    exact SubR.of_eq (by rw [meet, h]; rfl)
theorem on (a b p : Pt) : CallP Try.prog 160 [pt a, pt b, pt p] (vB (between a b p)) := by
  refine callP_of_ex (rc := []) (N := 52) Try.func160 rfl rfl Try.call160 tab_ok mix rfl rfl (fun cx _ => ?_)
  refine callN (gcross a b p) ?_
  repeat first | refine sk ?_ | refine st ?_ | refine sg ?_
  refine SubR.of_eq ?_
  show vB _ = vB _
  simp only [between, within, ge_iff_le, Bool.and_assoc]
theorem Compare (n m : Int) : CallP Try.prog 184 [vI n, vI m] (vI (sgn (n - m))) := by
  refine callP_of_ex (rc := []) (N := 20) Try.func184 rfl rfl Try.call184 tab_ok mix rfl rfl (fun cx _ => ?_)
  refine callN (isNaN n) ?_
  refine callN (isNaN m) ?_
  refine And.intro (fun h => by cases h) (fun _ => And.intro (fun h => by cases h) (fun _ => And.intro (fun h => ?_) (fun h => And.intro (fun h' => ?_) (fun h' => ?_))))
  · have := decT h
    exact SubR.of_eq (by rw [sgn, if_pos (by omega)]; rfl)
  · have := decT h'
    exact SubR.of_eq (by rw [sgn, if_neg (by omega), if_pos (by omega)]; rfl)
  · have := decF h
    have := decF h'
    exact SubR.of_eq (by rw [sgn, if_neg (by omega), if_neg (by omega)]; rfl)
theorem side (a b c : Pt) : CallP Try.prog 177 [pt a, pt b, pt c] (vI (sgn (cross a b c))) := by
  refine callP_of_ex (rc := []) (N := 12) Try.func177 rfl rfl Try.call177 tab_ok mix rfl rfl (fun cx _ => ?_)
  refine callN (gcross a b c) ?_
  refine callN (Compare _ 0) ?_
  exact SubR.of_eq (by show vI _ = vI _; rw [Int.sub_zero])
theorem gout1 (p : Pt) : CallP Try.prog 158 [pt p] (vB (!good p)) := by
  refine callP_of_ex (rc := []) (N := 21) Try.func158 rfl rfl Try.call158 tab_ok mix rfl rfl (fun cx _ => ?_)
  repeat first | refine sk ?_ | refine st ?_ | refine sg ?_
  refine SubR.of_eq ?_
  show vB _ = vB _
  refine congrArg vB ?_
  rw [Bool.eq_iff_iff]
  simp [good, within]
  omega
theorem gmeet (a b c d : Pt) : CallP Try.prog 164 [pt a, pt b, pt c, pt d] (vB (meet a b c d)) := by
  refine callP_of_ex (rc := []) (N := 53) Try.func164 rfl rfl Try.call164 tab_ok mix rfl rfl (fun cx _ => ?_)
  refine callN (on a b c) ?_
  repeat first | refine sk ?_ | refine st ?_ | refine sg ?_
  refine callG (on a b d) ?_
  repeat first | refine sk ?_ | refine st ?_ | refine sg ?_
  refine callG (on c d a) ?_
  repeat first | refine sk ?_ | refine st ?_ | refine sg ?_
  refine callG (on c d b) ?_
  repeat first | refine sk ?_ | refine st ?_ | refine sg ?_
  refine And.intro (fun h => ?_) (fun h => ?_)
  · exact SubR.lit (by rw [meet, h]; rfl)
  · refine callN (side a b c) ?_
    refine callN (side a b d) ?_
    repeat first | refine sk ?_ | refine st ?_ | refine sg ?_
    refine callG (side c d a) ?_
    repeat first | refine sk ?_ | refine st ?_ | refine sg ?_
    refine callG (side c d b) ?_
    repeat first | refine sk ?_ | refine st ?_ | refine sg ?_
    refine And.intro (by kernel_rfl) ?_
    exact SubR.of_eq (by rw [meet, h]; rfl)
theorem Good (p : Pt) : CallP Try.prog 103 [pt p] (vB (good p)) := by
  refine callP_of_ex (rc := []) (N := 11) Try.func103 rfl rfl Try.call103 tab_ok mix rfl rfl (fun cx _ => ?_)
  refine callN (Within _ _ _) ?_
  repeat first | refine sk ?_ | refine st ?_ | refine sg ?_
  refine callG (Within _ _ _) ?_
  repeat first | refine sk ?_ | refine st ?_ | refine sg ?_
  exact SubR.refl _
theorem Abs (n : Int) : CallP Try.prog 133 [vI n] (vI (if n < 0 then w64 (0 - n) else n)) := by
  refine callP_of_ex (rc := []) (N := 8) Try.func133 rfl rfl Try.call133 tab_ok mix rfl rfl (fun cx _ => ?_)
  refine And.intro (fun h => ?_) (fun h => ?_)
  · exact SubR.of_eq (by rw [if_pos (decT h)]; rfl)
  · exact SubR.of_eq (by rw [if_neg (decF h)]; rfl)
theorem rMod (a b : Int) (hb : b ≠ 0) : CallP Try.prog 140 [vI a, vI b] (vI (if a.tmod b < 0 then w64 (a.tmod b + b) else a.tmod b)) := by
  refine callP_of_ex (rc := []) (N := 15) Try.func140 rfl rfl Try.call140 tab_ok mix rfl rfl (fun cx _ => ?_)
  refine ob hb ?_
  refine And.intro (fun h => ?_) (fun h => ?_)
  · exact SubR.of_eq (by rw [if_pos (decT h)]; rfl)
  · exact SubR.of_eq (by rw [if_neg (decF h)]; rfl)
end Go.Ch

namespace Go.Ch
open Go Go.Ax Go.Proofs Go.Proofs.Try
set_option maxRecDepth 100000
set_option pp.maxSteps 400

theorem Floor0 (a b : Int) (hb : b ≠ 0) : CallP Try.prog 98 [vI a, vI b] (vI (w64 (Int.tdiv (w64 (a - (if a.tmod b < 0 then w64 (a.tmod b + b) else a.tmod b))) b))) := by
  refine callP_of_ex (rc := []) (N := 12) Try.func98 rfl rfl Try.call98 tab_ok mix rfl rfl (fun cx _ => ?_)
  refine callN (rMod a b hb) ?_
  refine oi hb ?_
  exact SubR.refl _
/-- The level of a part: the number, and whether there is one. -/
def lvl (off half bottom run : Int) : Int × Bool :=
  bif decide (off ≤ half) then (bottom, true) else bif run == 0 then (0, false) else (w64 (bottom + w64 (Int.tdiv (w64 (off - half)) run)), decide (w64 (bottom + w64 (Int.tdiv (w64 (off - half)) run)) ≤ 20000))
abbrev part (off half bottom run : Int) : AV := .g [.d (dI off), .d (dI half), .d (dI bottom), .d (dI run)]
abbrev rIB (r : Int × Bool) : AV := .t [.s (.d (.val (.int .i64 r.1))), .s (.d (.val (.bool r.2)))]
theorem SubR.ib {n m : Int} {b c : Bool} (h : n = m) (k : b = c) : SubR (.t [.s (.d (.val (.int .i64 n))), .s (.d (.lit b))]) (.t [.s (.d (.val (.int .i64 m))), .s (.d (.val (.bool c)))]) := by
  subst h; subst k; exact SubR.t ⟨LeD.refl _, fun _ _ r => r, trivial⟩
def cornerG (g : Grid) (i : Int) : Pt := ⟨w64 (g.x + w64 (i.tmod g.cols * g.side)), w64 (g.y + w64 (w64 (i.tdiv g.cols) * g.side))⟩
def centreG (g : Grid) (i : Int) : Pt := ⟨w64 ((cornerG g i).x + w64 (g.side.tdiv 2)), w64 ((cornerG g i).y + w64 (g.side.tdiv 2))⟩
theorem bcorner (g : Grid) (i : Int) (h : g.cols ≠ 0) : CallP Try.prog 111 [grid g, vI i] (pt (cornerG g i)) := by
  refine callP_of_ex (rc := []) (N := 26) Try.func111 rfl rfl Try.call111 tab_ok mix rfl rfl (fun cx _ => ?_)
  refine oi h ?_
  refine oi h ?_
  refine And.intro (by kernel_rfl) ?_
  refine SubR.of_eq ?_
  rfl
theorem bcentre (g : Grid) (i : Int) (h : g.cols ≠ 0) : CallP Try.prog 77 [grid g, vI i] (pt (centreG g i)) := by
  refine callP_of_ex (rc := []) (N := 22) Try.func77 rfl rfl Try.call77 tab_ok mix rfl rfl (fun cx _ => ?_)
  refine callN (bcorner g i h) ?_
  refine oi (by decide) ?_
  refine oi (by decide) ?_
  refine SubR.of_eq ?_
  rfl
theorem Centre (g : Grid) (i : Int) (h : g.cols ≠ 0) : CallP Try.prog 26 [grid g, vI i] (pt (centreG g i)) := by
  refine callP_of_ex (rc := []) (N := 34) Try.func26 rfl rfl Try.call26 tab_ok mix rfl rfl (fun cx _ => ?_)
  refine oi h ?_
  refine oi (by decide) ?_
  refine oi h ?_
  refine oi (by decide) ?_
  refine And.intro (by kernel_rfl) ?_
  refine SubR.of_eq ?_
  rfl
def alike (a b : Grid) : Bool := a.x == b.x && a.y == b.y && a.side == b.side && a.cols == b.cols && a.rows == b.rows
theorem Alike (a b : Grid) : CallP Try.prog 33 [grid a, grid b] (vB (alike a b)) := by
  refine callP_of_ex (rc := []) (N := 38) Try.func33 rfl rfl Try.call33 tab_ok mix rfl rfl (fun cx _ => ?_)
  repeat first | refine sk ?_ | refine st ?_ | refine sg ?_
  exact SubR.refl _
theorem CopyInts (l : List Int) (hl : l.length ≤ 1000000) : CallP Try.prog 40 [vInts l] (vInts l) := by
  refine callP_of_ex (rc := []) (N := 6) Try.func40 rfl rfl Try.call40 tab_ok mix rfl rfl (fun cx _ => ?_)
  refine ob (show (0 + l.length) * 8 ≤ _ by omega) ?_
  refine ob ?_ ?_
  · exact fun k j hk hj => rfl
  refine SubR.le (LeD.slc' (by omega) ?_)
  intro i j hi hj
  exact LeD.of_eq (by simp [catF])
theorem CopyGrid (g : Grid) (hl : g.levels.length ≤ 1000000) : CallP Try.prog 30 [grid g] (grid g) := by
  refine callP_of_ex (rc := []) (N := 8) Try.func30 rfl rfl Try.call30 tab_ok mix rfl rfl (fun cx _ => ?_)
  refine callN (CopyInts g.levels hl) ?_
  exact SubR.of_eq rfl
theorem corner (l : List Pt) (i : Nat) (hl : l ≠ []) : CallP Try.prog 104 [pts l, vI i] (pt (l.getD (i % l.length) default)) := by
  have hlen : 0 < l.length := List.length_pos_iff.2 hl
  have hm := Nat.mod_lt i hlen
  have e : (i : Int).tmod l.length = ((i % l.length : Nat) : Int) := by
    rw [Int.tmod_eq_emod_of_nonneg (by omega)]; rfl
  refine callP_of_ex (rc := []) (N := 12) Try.func104 rfl rfl Try.call104 tab_ok mix rfl rfl (fun cx _ => ?_)
  refine oi (by omega) ?_
  refine oi (by rw [e]; exact ⟨by omega, by omega⟩) ?_
  refine SubR.of_eq ?_
  show pt (l.getD ((i : Int).tmod l.length).toNat default) = _
  rw [e]; rfl
theorem gcorner (l : List Pt) (i : Nat) (hl : l ≠ []) : CallP Try.prog 159 [pts l, vI i] (pt (l.getD (i % l.length) default)) := by
  have hlen : 0 < l.length := List.length_pos_iff.2 hl
  have hm := Nat.mod_lt i hlen
  have e : (i : Int).tmod l.length = ((i % l.length : Nat) : Int) := by
    rw [Int.tmod_eq_emod_of_nonneg (by omega)]; rfl
  refine callP_of_ex (rc := []) (N := 12) Try.func159 rfl rfl Try.call159 tab_ok mix rfl rfl (fun cx _ => ?_)
  refine oi (by omega) ?_
  refine oi (by rw [e]; exact ⟨by omega, by omega⟩) ?_
  refine SubR.of_eq ?_
  show pt (l.getD ((i : Int).tmod l.length).toNat default) = _
  rw [e]; rfl
end Go.Ch

namespace Go.Ch
open Go Go.Ax Go.Proofs Go.Proofs.Try
set_option maxRecDepth 100000
set_option pp.maxSteps 400
def idxF {α : Type} (p : α → Bool) : List α → Nat → Int
  | [], _ => -1
  | x :: r, k => bif p x then k else idxF p r (k + 1)
theorem idxF_any {α : Type} (p : α → Bool) : ∀ (l : List α) (k : Nat), decide (idxF p l k ≥ 0) = l.any p
  | [], _ => rfl
  | x :: r, k => by
    rw [idxF, List.any_cons]
    cases h : p x with
    | true => simp
    | false => simpa using idxF_any p r (k + 1)
theorem indexFuncI (l : List Int) (hl : l.length ≤ 9223372036854775807) (f k : Nat) (c : Nat → DV) (p : Int → Bool) (hp : ∀ x ∈ l, CallP Try.prog f (vI x :: capD c k 0) (vB (p x))) :
    CallP Try.prog 135 [vInts l, .s (.d (.clo f k c))] (vI (idxF p l 0)) := by
  refine callP_of_ex (rc := []) (N := 19) Try.func135 rfl rfl Try.call135 tab_ok mix rfl rfl (fun cx href => ?_)
  refine AW.loop (fun i : Nat => ⟨[(0, vInts l), (1, .s (.d (.clo f k c))), (7, vI l.length), (8, vI i), (4, vI 0)], []⟩) (fun i => i ≤ l.length ∧ idxF p l 0 = idxF p (l.drop i) i) (fun i => l.length - i) 0 ⟨Nat.zero_le _, rfl⟩ ?_ ?_
  · refine Sub.of0 href trivial ⟨⟨rfl, rfl⟩, ⟨rfl, rfl⟩, ⟨rfl, rfl⟩, ⟨rfl, rfl⟩, ⟨rfl, rfl⟩, trivial⟩
  · rintro i ⟨hi, he⟩
    refine ex.sound (rc := []) tab_ok mix href _ ?_
    refine And.intro (fun h => ?_) (fun h => ?_)
    · have h : (i : Int) < l.length := decT h
      have hi' : i < l.length := by omega
      have hd : l.drop i = l[i] :: l.drop (i + 1) := List.drop_eq_getElem_cons hi'
      have hg : l.getD i default = l[i] := getD_of hi'
      refine oi ⟨by omega, by omega⟩ ?_
      refine callN ((hp (l.getD i default) (by rw [hg]; simp)).conv (args' := _) ⟨LeD.refl _, LeAs.capD⟩) ?_
      rw [hd, idxF] at he
      rw [hg]
      refine And.intro (fun h => ?_) (fun h => ?_)
      · refine SubR.of_eq ?_
        rw [he, h]; rfl
      · refine ⟨i + 1, ⟨by omega, ?_⟩, by omega, ?_⟩
        · rw [he, h]; rfl
        · refine Sub.of0 href trivial ⟨⟨rfl, rfl⟩, ⟨rfl, rfl⟩, ⟨rfl, rfl⟩, ⟨rfl, ?_⟩, ⟨rfl, rfl⟩, trivial⟩
          exact congrArg vI (w64_of (by omega) (by omega))
    · have h : ¬ (i : Int) < l.length := decF h
      have hi' : i = l.length := by omega
      subst hi'
      refine SubR.of_eq ?_
      rw [he, List.drop_length]; rfl
theorem containsI (l : List Int) (hl : l.length ≤ 9223372036854775807) (f k : Nat) (c : Nat → DV) (p : Int → Bool) (hp : ∀ x ∈ l, CallP Try.prog f (vI x :: capD c k 0) (vB (p x))) :
    CallP Try.prog 85 [vInts l, .s (.d (.clo f k c))] (vB (l.any p)) := by
  refine callP_of_ex (rc := []) (N := 9) Try.func85 rfl rfl Try.call85 tab_ok mix rfl rfl (fun cx href => ?_)
  refine callN (indexFuncI l hl f k c p hp) ?_
  exact SubR.of_eq (congrArg vB (idxF_any p l 0))
theorem indexFuncP (l : List Pt) (hl : l.length ≤ 9223372036854775807) (f k : Nat) (c : Nat → DV) (p : Pt → Bool) (hp : ∀ x ∈ l, CallP Try.prog f (pt x :: capD c k 0) (vB (p x))) :
    CallP Try.prog 165 [pts l, .s (.d (.clo f k c))] (vI (idxF p l 0)) := by
  refine callP_of_ex (rc := []) (N := 19) Try.func165 rfl rfl Try.call165 tab_ok mix rfl rfl (fun cx href => ?_)
  refine AW.loop (fun i : Nat => ⟨[(0, pts l), (1, .s (.d (.clo f k c))), (7, vI l.length), (8, vI i), (4, vI 0)], []⟩) (fun i => i ≤ l.length ∧ idxF p l 0 = idxF p (l.drop i) i) (fun i => l.length - i) 0 ⟨Nat.zero_le _, rfl⟩ ?_ ?_
  · refine Sub.of0 href trivial ⟨⟨rfl, rfl⟩, ⟨rfl, rfl⟩, ⟨rfl, rfl⟩, ⟨rfl, rfl⟩, ⟨rfl, rfl⟩, trivial⟩
  · rintro i ⟨hi, he⟩
    refine ex.sound (rc := []) tab_ok mix href _ ?_
    refine And.intro (fun h => ?_) (fun h => ?_)
    · have h : (i : Int) < l.length := decT h
      have hi' : i < l.length := by omega
      have hd : l.drop i = l[i] :: l.drop (i + 1) := List.drop_eq_getElem_cons hi'
      have hg : l.getD i default = l[i] := getD_of hi'
      refine oi ⟨by omega, by omega⟩ ?_
      refine callN ((hp (l.getD i default) (by rw [hg]; simp)).conv (args' := _) ⟨⟨LeD.refl _, LeD.refl _, trivial⟩, LeAs.capD⟩) ?_
      rw [hd, idxF] at he
      rw [hg]
      refine And.intro (fun h => ?_) (fun h => ?_)
      · refine SubR.of_eq ?_
        rw [he, h]; rfl
      · refine ⟨i + 1, ⟨by omega, ?_⟩, by omega, ?_⟩
        · rw [he, h]; rfl
        · refine Sub.of0 href trivial ⟨⟨rfl, rfl⟩, ⟨rfl, rfl⟩, ⟨rfl, rfl⟩, ⟨rfl, ?_⟩, ⟨rfl, rfl⟩, trivial⟩
          exact congrArg vI (w64_of (by omega) (by omega))
    · have h : ¬ (i : Int) < l.length := decF h
      have hi' : i = l.length := by omega
      subst hi'
      refine SubR.of_eq ?_
      rw [he, List.drop_length]; rfl
theorem containsP (l : List Pt) (hl : l.length ≤ 9223372036854775807) (f k : Nat) (c : Nat → DV) (p : Pt → Bool) (hp : ∀ x ∈ l, CallP Try.prog f (pt x :: capD c k 0) (vB (p x))) :
    CallP Try.prog 157 [pts l, .s (.d (.clo f k c))] (vB (l.any p)) := by
  refine callP_of_ex (rc := []) (N := 9) Try.func157 rfl rfl Try.call157 tab_ok mix rfl rfl (fun cx href => ?_)
  refine callN (indexFuncP l hl f k c p hp) ?_
  exact SubR.of_eq (congrArg vB (idxF_any p l 0))
end Go.Ch

namespace Go.Ch
open Go Go.Ax Go.Proofs Go.Proofs.Try
set_option maxRecDepth 100000
set_option pp.maxSteps 400

theorem bbetween1 (n lo hi : Int) (f g : Nat → DV) (hf : f 0 = dI lo) (hg : g 0 = dI hi) : CallP Try.prog 134 [vI n, .s (.d (.rp 1 f)), .s (.d (.rp 1 g))] (vB (!within n lo hi)) := by
  have h1 : LeAs [vI n, .s (.d (.rp 1 f)), .s (.d (.rp 1 g))] [vI n, .s (.d (.rp 1 fun _ => dI lo)), .s (.d (.rp 1 fun _ => dI hi))] :=
    ⟨LeD.refl _, LeD.rp fun j hj => LeD.of_eq (by rw [show j = 0 by omega]; exact hf), LeD.rp fun j hj => LeD.of_eq (by rw [show j = 0 by omega]; exact hg), trivial⟩
  refine CallP.conv ?_ h1
  refine callP_of_ex (rc := []) (N := 13) Try.func134 rfl rfl Try.call134 tab_ok mix rfl rfl (fun cx _ => ?_)
  repeat first | refine sk ?_ | refine st ?_ | refine sg ?_
  refine SubR.of_eq ?_
  show vB _ = vB _
  refine congrArg vB ?_
  rw [Bool.eq_iff_iff]
  simp [within]
def outL (lo hi : Int) (l : List Int) : Bool := l.any fun n => !within n lo hi
theorem bbetween (lo hi : Int) (l : List Int) (hl : l.length ≤ 9223372036854775807) : CallP Try.prog 84 [vI lo, vI hi, vInts l] (vB (!outL lo hi l)) := by
  refine callP_of_ex (rc := []) (N := 11) Try.func84 rfl rfl Try.call84 tab_ok mix rfl rfl (fun cx _ => ?_)
  refine callN (containsI l hl 134 2 _ (fun n => !within n lo hi) (fun x _ => bbetween1 x lo hi _ _ rfl rfl)) ?_
  exact SubR.refl _
theorem isLevel (n : Int) : CallP Try.prog 87 [vI n] (vB (within n (-20000) 20000)) := by
  refine callP_of_ex (rc := []) (N := 6) Try.func87 rfl rfl Try.call87 tab_ok mix rfl rfl (fun cx _ => ?_)
  refine callN ((bbetween (-20000) 20000 [n] (by simp)).conv (args' := _) ⟨LeD.refl _, LeD.refl _, LeD.slc fun i j hi hj => ?_, trivial⟩) ?_
  · have : i = 0 := by have : i < 1 := hi; omega
    have : j = 0 := by have : j < 1 := hj; omega
    subst i j; exact LeD.refl _
  exact SubR.of_eq (by show vB _ = vB _; simp [outL])
def badL (n : Int) : Bool := n != 30000 && !within n (-20000) 20000
theorem bcheck1 (n : Int) : CallP Try.prog 86 [vI n] (vB (badL n)) := by
  refine callP_of_ex (rc := []) (N := 10) Try.func86 rfl rfl Try.call86 tab_ok mix rfl rfl (fun cx _ => ?_)
  repeat first | refine sk ?_ | refine st ?_ | refine sg ?_
  refine callG (isLevel n) ?_
  repeat first | refine sk ?_ | refine st ?_ | refine sg ?_
  exact SubR.refl _
def e1 (g : Grid) : Bool := !(within g.x (-1000000) 1000000) || !(within g.y (-1000000) 1000000) || !(within g.side 100 10000) || !(within g.cols 1 1024) || !(within g.rows 1 1024)
def errG (g : Grid) : Int :=
  bif e1 g then 2
  else bif decide (w64 (g.cols * g.rows) > 1024) then 8
  else bif decide (w64 (g.x + w64 (g.cols * g.side)) > 1000000) || decide (w64 (g.y + w64 (g.rows * g.side)) > 1000000) then 2
  else bif (g.levels.length : Int) != w64 (g.cols * g.rows) then 10
  else bif g.levels.any badL then 2 else 0
theorem bcheck (g : Grid) (hl : g.levels.length ≤ 9223372036854775807) : CallP Try.prog 31 [grid g] (vI (errG g)) := by
  refine callP_of_ex (rc := []) (N := 69) Try.func31 rfl rfl Try.call31 tab_ok mix rfl rfl (fun cx _ => ?_)
  have two : ∀ (a b : Int) (f : Nat → Nat → DV) (h0 : f 0 0 = dI a) (h1 : f 1 0 = dI b), LeD (.slc 2 1 f) (dInts [a, b]) := by
    intro a b f h0 h1
    refine LeD.slc fun i j hi hj => ?_
    have : j = 0 := by omega
    subst j
    match i, hi with
    | 0, _ => exact LeD.of_eq h0
    | 1, _ => exact LeD.of_eq h1
  have one : ∀ (a : Int) (f : Nat → Nat → DV) (h0 : f 0 0 = dI a), LeD (.slc 1 1 f) (dInts [a]) := by
    intro a f h0
    refine LeD.slc fun i j hi hj => ?_
    have : j = 0 := by omega
    have : i = 0 := by omega
    subst i j
    exact LeD.of_eq h0
  refine callN ((bbetween (-1000000) 1000000 [g.x, g.y] (by simp)).conv (args' := _) ⟨LeD.refl _, LeD.refl _, two _ _ _ rfl rfl, trivial⟩) ?_
  repeat first | refine sk ?_ | refine st ?_ | refine sg ?_
  refine And.intro (fun h1 => ?_) (fun h1 => ?_)
  · refine ob (by rw [h1]; rfl) ?_
    refine callN ((bbetween 100 10000 [g.side] (by simp)).conv (args' := _) ⟨LeD.refl _, LeD.refl _, one _ _ rfl, trivial⟩) ?_
    repeat first | refine sk ?_ | refine st ?_ | refine sg ?_
    refine And.intro (fun h2 => ?_) (fun h2 => ?_)
    · skip
      refine ob (by rw [h2]; rfl) ?_
      refine ob (by rw [h2]; rfl) ?_
      refine callN ((bbetween 1 1024 [g.cols, g.rows] (by simp)).conv (args' := _) ⟨LeD.refl _, LeD.refl _, two _ _ _ rfl rfl, trivial⟩) ?_
      refine And.intro (fun h3 => ?_) (fun h3 => ?_)
      · exact SubR.of_eq (by rw [errG, show e1 g = true by simp [outL] at h1 h2 h3; simp [e1, h1, h2, h3]]; rfl)
      have he : e1 g = false := by simp [outL] at h1 h2 h3; simp [e1, h1, h2, h3]
      refine And.intro (fun h4 => ?_) (fun h4 => ?_)
      · exact SubR.of_eq (by rw [errG, he, h4]; rfl)
      repeat first | refine sk ?_ | refine st ?_ | refine sg ?_
      refine And.intro (fun h5 => ?_) (fun h5 => ?_)
      · exact SubR.of_eq (by rw [errG, he, h4, h5]; rfl)
      refine And.intro (fun h6 => ?_) (fun h6 => ?_)
      · exact SubR.of_eq (by rw [errG, he, h4, h5, h6]; rfl)
      refine callN ((containsI g.levels hl 86 0 (fun _ => .junk) badL (fun x _ => bcheck1 x)).conv (args' := _) ⟨LeD.refl _, LeD.clo fun j hj => absurd hj (Nat.not_lt_zero j), trivial⟩) ?_
      refine And.intro (fun h7 => ?_) (fun h7 => ?_)
      · exact SubR.of_eq (by rw [errG, he, h4, h5, h6, h7]; rfl)
      · exact SubR.of_eq (by rw [errG, he, h4, h5, h6, h7]; rfl)
    · exact SubR.of_eq (by rw [errG, show e1 g = true by simp [outL] at h1 h2; simp [e1, h1, h2]]; rfl)
  · exact SubR.of_eq (by rw [errG, show e1 g = true by simp [outL] at h1; simp [e1, h1]]; rfl)
theorem Leveled (n : Int) : CallP Try.prog 58 [vI n] (vB (within n (-20000) 20000)) := by
  refine callP_of_ex (rc := []) (N := 5) Try.func58 rfl rfl Try.call58 tab_ok mix rfl rfl (fun cx _ => ?_)
  refine callN (Within _ _ _) ?_
  exact SubR.refl _
theorem RCheck (g : Grid) (hl : g.levels.length ≤ 9223372036854775807) : CallP Try.prog 23 [grid g] (vI (errG g)) := by
  refine callP_of_ex (rc := []) (N := 89) Try.func23 rfl rfl Try.call23 tab_ok mix rfl rfl (fun cx _ => ?_)
  refine callN (Within _ _ _) ?_
  repeat first | refine sk ?_ | refine st ?_ | refine sg ?_
  refine callG (Within _ _ _) ?_
  repeat first | refine sk ?_ | refine st ?_ | refine sg ?_
  refine callG (Within _ _ _) ?_
  repeat first | refine sk ?_ | refine st ?_ | refine sg ?_
  refine callG (Within _ _ _) ?_
  repeat first | refine sk ?_ | refine st ?_ | refine sg ?_
  refine callG (Within _ _ _) ?_
  repeat first | refine sk ?_ | refine st ?_ | refine sg ?_
  refine And.intro (fun h => ?_) (fun h => ?_)
  · exact SubR.of_eq (by rw [errG, e1, h]; rfl)
  refine And.intro (fun h2 => ?_) (fun h2 => ?_)
  · exact SubR.of_eq (by rw [errG, e1, h, h2]; rfl)
  repeat first | refine sk ?_ | refine st ?_ | refine sg ?_
  refine And.intro (fun h3 => ?_) (fun h3 => ?_)
  · exact SubR.of_eq (by rw [errG, e1, h, h2, h3]; rfl)
  refine And.intro (fun h4 => ?_) (fun h4 => ?_)
  · exact SubR.of_eq (by rw [errG, e1, h, h2, h3, h4]; rfl)
  refine AW.loop (fun i : Nat => ⟨[(1, .s (.ptr 1 0)), (3, vI i)], [(1, some (.cells [.d (dI g.x), .d (dI g.y), .d (dI g.side), .d (dI g.cols), .d (dI g.rows), .d (dInts g.levels)]))]⟩) (fun i => i ≤ g.levels.length ∧ g.levels.any badL = (g.levels.drop i).any badL) (fun i => g.levels.length - i) 0 ⟨Nat.zero_le _, rfl⟩ ?_ ?_
  · refine Sub.of0 (by assumption) ⟨⟨rfl, rfl⟩, trivial⟩ ⟨⟨rfl, rfl⟩, ⟨rfl, rfl⟩, trivial⟩
  · rintro i ⟨hi, hj⟩
    refine ex.sound (rc := []) tab_ok mix (by assumption) _ ?_
    refine And.intro (fun h5 => ?_) (fun h5 => ?_)
    · have h5 : (i : Int) < g.levels.length := decT h5
      have hi' : i < g.levels.length := by omega
      have hd : g.levels.drop i = g.levels[i] :: g.levels.drop (i + 1) := List.drop_eq_getElem_cons hi'
      have hg : g.levels.getD i 0 = g.levels[i] := getD_of hi'
      refine oi ⟨by omega, by omega⟩ ?_
      repeat first | refine sk ?_ | refine st ?_ | refine sg ?_
      refine oi ?_ ?_
      · exact fun _ => ⟨by omega, by omega⟩
      repeat first | refine sk ?_ | refine st ?_ | refine sg ?_
      refine callG (Leveled _) ?_
      repeat first | refine sk ?_ | refine st ?_ | refine sg ?_
      rw [hd, List.any_cons] at hj
      refine And.intro (fun h6 => ?_) (fun h6 => ?_)
      · have h6 : badL g.levels[i] = true := hg ▸ h6
        refine SubR.of_eq ?_
        rw [errG, e1, h, h2, h3, h4, hj, h6]; rfl
      · have h6 : badL g.levels[i] = false := hg ▸ h6
        refine ⟨i + 1, ⟨by omega, by rw [hj, h6]; rfl⟩, by omega, ?_⟩
        refine Sub.of0 (by assumption) ⟨⟨rfl, rfl⟩, trivial⟩ ⟨⟨rfl, rfl⟩, ⟨rfl, ?_⟩, trivial⟩
        exact congrArg vI (w64_of (by omega) (by omega))
    · have h5 : ¬ (i : Int) < g.levels.length := decF h5
      have hi' : i = g.levels.length := by omega
      refine SubR.of_eq ?_
      rw [errG, e1, h, h2, h3, h4, hj, hi', List.drop_length]; rfl
end Go.Ch

namespace Go.Ch
open Go Go.Ax Go.Proofs Go.Proofs.Try
set_option maxRecDepth 100000
set_option pp.maxSteps 400

theorem errG_cols {g : Grid} (h : errG g = 0) : 1 ≤ g.cols ∧ g.cols ≤ 1024 := by
  cases he : e1 g with
  | true => rw [errG, he] at h; cases h
  | false =>
    simp [e1, within] at he
    omega
theorem bhas (g : Grid) (i : Int) (he : errG g = 0) (h0 : 0 ≤ i) (hi : i < g.levels.length) (hl : g.levels.length ≤ 9223372036854775807) : CallP Try.prog 76 [grid g, vI i] (vI 0) := by
  refine callP_of_ex (rc := []) (N := 19) Try.func76 rfl rfl Try.call76 tab_ok mix rfl rfl (fun cx _ => ?_)
  refine callN (bcheck g hl) ?_
  refine And.intro (fun h => ?_) (fun h => ?_)
  · rw [he] at h; cases h
  refine callN ((bbetween 0 (w64 (g.levels.length - 1)) [i] (by simp)).conv (args' := _) ⟨LeD.refl _, LeD.refl _, LeD.slc fun i j hi hj => ?_, trivial⟩) ?_
  · have : i = 0 := by have : i < 1 := hi; omega
    have : j = 0 := by have : j < 1 := hj; omega
    subst i j; exact LeD.refl _
  refine And.intro (fun h => ?_) (fun h => ?_)
  · rw [w64_of (by omega) (by omega)] at h
    simp [outL, within] at h
    omega
  · exact SubR.of_eq rfl
theorem bCentre (g : Grid) (i : Int) (he : errG g = 0) (h0 : 0 ≤ i) (hi : i < g.levels.length) (hl : g.levels.length ≤ 9223372036854775807) : CallP Try.prog 20 [grid g, vI i] (.t [.g [.d (dI (centreG g i).x), .d (dI (centreG g i).y)], .s (.d (dI 0))]) := by
  refine callP_of_ex (rc := []) (N := 17) Try.func20 rfl rfl Try.call20 tab_ok mix rfl rfl (fun cx _ => ?_)
  refine callN (bhas g i he h0 hi hl) ?_
  refine And.intro (fun h => by cases h) (fun _ => ?_)
  refine callN (bcentre g i (by have := errG_cols he; omega)) ?_
  exact SubR.of_eq rfl
def few (g : Grid) : Bool := (decide ((g.levels.length : Int) ≤ 40) && ((decide (g.cols ≤ 40) && decide (g.rows ≤ 40)) || (g.levels.length : Int) != w64 (g.cols * g.rows))) || (decide ((g.levels.length : Int) ≤ 1100) && errG g != 0)
attribute [local irreducible] errG in
theorem Few (g : Grid) (hl : g.levels.length ≤ 9223372036854775807) : CallP Try.prog 18 [grid g] (vB (few g)) := by
  refine callP_of_ex (rc := []) (N := 39) Try.func18 rfl rfl Try.call18 tab_ok mix rfl rfl (fun cx _ => ?_)
  repeat first | refine sk ?_ | refine st ?_ | refine sg ?_ | refine sh ?_ | refine su ?_ | refine sn1 ?_ | refine sn0 ?_
  refine callG (RCheck g hl) ?_
  repeat first | refine sk ?_ | refine st ?_ | refine sg ?_ | refine sh ?_ | refine su ?_ | refine sn1 ?_ | refine sn0 ?_
  exact SubR.of_eq (by show vB _ = vB _; rw [few])
end Go.Ch

namespace Go.Ch
open Go Go.Ax Go.Proofs Go.Proofs.Try
set_option maxRecDepth 100000
set_option pp.maxSteps 400

def u8 (s : ByteArray) (i : Nat) : Int := (s[i]!.toNat : Int)
def letter (c : Int) : Bool := (decide (c ≥ 97) && decide (c ≤ 122)) || (decide (c ≥ 65) && decide (c ≤ 90))
def badC (i : Int) (c : Int) : Bool := !letter c && (i == 0 || !((decide (c ≥ 48) && decide (c ≤ 57)) || c == 45))
theorem badC_eq (i c : Int) : (!letter c && (i == 0 || (c != 45 && (decide (c < 48) || decide (c > 57))))) = badC i c := by
  rw [badC, Bool.eq_iff_iff]
  simp
  intro _
  omega
def badFrom (s : ByteArray) : Nat → Nat → Bool
  | 0, _ => false
  | n + 1, i => badC i (u8 s i) || badFrom s n (i + 1)
def isName (s : ByteArray) : Bool := !(decide ((s.size : Int) < 1) || decide ((s.size : Int) > 12)) && !badFrom s s.size 0
theorem isName' (s : ByteArray) : isName s = (!(s.toList == (ByteArray.mk #[]).toList || decide ((s.size : Int) > 12)) && !badFrom s s.size 0) := by
  have : decide ((s.size : Int) < 1) = (s.toList == (ByteArray.mk #[]).toList) := by
    rw [Bool.eq_iff_iff]
    rw [show ((s.toList == (ByteArray.mk #[]).toList) = true) = (s.data.toList = []) by rw [ByteArray.toList_eq, ByteArray.toList_eq]; simp]
    have h1 : s.size = s.data.toList.length := by show s.data.size = _; simp
    rw [← List.length_eq_zero_iff, ← h1]
    rw [decide_eq_true_iff]
    omega
  rw [isName, this]
end Go.Ch

namespace Go.Ch
open Go Go.Ax Go.Proofs Go.Proofs.Try
set_option maxRecDepth 100000
set_option pp.maxSteps 400

def halve (s : Int) : Nat → Int → Int → Int
  | 0, lo, _ => lo
  | k + 1, lo, hi => bif decide (lo < hi) then (bif decide (((lo + hi) / 2) * ((lo + hi) / 2) ≥ s) then halve s k lo ((lo + hi) / 2) else halve s k ((lo + hi) / 2 + 1) hi) else lo
def span (a b : Pt) : Int := halve (dot a b b) 23 0 4000000

theorem goutside (l : List Pt) (hl : l.length ≤ 9223372036854775807) : CallP Try.prog 142 [pts l] (vB (l.any fun p => !good p)) := by
  refine callP_of_ex (rc := []) (N := 5) Try.func142 rfl rfl Try.call142 tab_ok mix rfl rfl (fun cx _ => ?_)
  refine callN ((containsP l hl 158 0 (fun _ => .junk) (fun p => !good p) (fun x _ => gout1 x)).conv (args' := _) ⟨LeD.refl _, LeD.clo fun j hj => absurd hj (Nat.not_lt_zero j), trivial⟩) ?_
  exact SubR.refl _
end Go.Ch

namespace Go.Ch
open Go Go.Ax Go.Proofs Go.Proofs.Try Go.RowKit
set_option maxRecDepth 100000

end Go.Ch

/- What came in: channels, grids. -/
namespace Go.Ch
open Go Go.Ax Go.Proofs Go.Proofs.Try
set_option maxRecDepth 100000

abbrev i64ok (n : Int) : Prop := (Lit.int .i64 n).wf = true
theorem rI : Rd Try.prog 3 1 (fun n : Int => [.d (dI n)]) i64ok := rd_int Try.underlying3 (by kernel_rfl)
theorem rErr : Rd Try.prog 29 1 (fun n : Int => [.d (dI n)]) i64ok := rd_int Try.underlying29 (by kernel_rfl)
theorem rS : Rd Try.prog 9 1 (fun s : ByteArray => [.d (dS s)]) (fun s => s.size ≤ 9223372036854775807) := rd_str Try.underlying9 (by kernel_rfl)
def Pt.ok (p : Pt) : Prop := i64ok p.x ∧ i64ok p.y
theorem rPt : Rd Try.prog 26 2 (fun p : Pt => [.d (dI p.x), .d (dI p.y)]) Pt.ok :=
  (rd_struct Try.underlying26 rfl (by kernel_rfl) (rdf_cons rfl rI (rdf_cons rfl rI rdf_nil))).to (fun a => ⟨a.1, a.2.1⟩) (fun _ => rfl) (fun _ h => ⟨h.1, h.2.1⟩)
def Ap.ok (p : Ap) : Prop := i64ok p.x ∧ i64ok p.y ∧ i64ok p.half ∧ i64ok p.level ∧ i64ok p.run
theorem rPts : Rd Try.prog 75 1 (fun l : List Pt => [.d (dPts l)]) (fun l => l.length ≤ 9223372036854775807 ∧ ∀ a ∈ l, a.ok) :=
  rd_slice Try.underlying75 (by kernel_rfl) rPt (by decide) ptD (fun _ => rfl) (fun a j hj => by match j, hj with | 0, _ => rfl | 1, _ => rfl)
theorem rInts : Rd Try.prog 22 1 (fun l : List Int => [.d (dInts l)]) (fun l => l.length ≤ 9223372036854775807 ∧ ∀ a ∈ l, i64ok a) :=
  rd_slice Try.underlying22 (by kernel_rfl) rI (by decide) (fun n _ => dI n) (fun _ => rfl) (fun a j hj => by match j, hj with | 0, _ => rfl)
def Reg.ok (p : Reg) : Prop := p.name.size ≤ 9223372036854775807 ∧ i64ok p.kind ∧ p.corners.length ≤ 9223372036854775807 ∧ ∀ a ∈ p.corners, a.ok
structure Chan.ok (c : Chan) : Prop where
  name : c.name.size ≤ 9223372036854775807
  axis : c.axis.length ≤ 9223372036854775807
  aps : ∀ a ∈ c.axis, a.ok
  over : i64ok c.over
  buffer : i64ok c.buffer
  regions : c.regions.length ≤ 9223372036854775807
  regs : ∀ a ∈ c.regions, a.ok
structure Grid.ok (g : Grid) : Prop where
  x : i64ok g.x
  y : i64ok g.y
  side : i64ok g.side
  cols : i64ok g.cols
  rows : i64ok g.rows
  levels : g.levels.length ≤ 9223372036854775807
  lev : ∀ a ∈ g.levels, i64ok a
theorem rGrid : RdA Try.prog 24 grid Grid.ok :=
  rda_agg (k := 6) Try.underlying24 ((rd_struct Try.underlying24 rfl (by kernel_rfl) (rdf_cons rfl rI (rdf_cons rfl rI (rdf_cons rfl rI (rdf_cons rfl rI (rdf_cons rfl rI (rdf_cons rfl rInts rdf_nil))))))).to (fun a => ⟨a.1, a.2.1, a.2.2.1, a.2.2.2.1, a.2.2.2.2.1, a.2.2.2.2.2.1⟩) (fun _ => rfl)
    (fun _ h => ⟨h.1, h.2.1, h.2.2.1, h.2.2.2.1, h.2.2.2.2.1, h.2.2.2.2.2.1.1, h.2.2.2.2.2.1.2⟩))
end Go.Ch
