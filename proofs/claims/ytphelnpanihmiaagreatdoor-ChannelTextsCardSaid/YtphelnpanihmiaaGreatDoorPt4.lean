/- Part 4: lemmas that the proofs of this seat share; by itself it claims nothing. -/
import Derived.Test.YtphelnpanihmiaaGreatDoorChecked
import Derived.Lib.ItoaNum
import Derived.WalkKit
import Derived.Laws.Externs
import Derived.Test.YtphelnpanihmiaaGreatDoorPt3
/- The shapes of the types of this seat: by a program. -/
namespace Go.Proofs.Tryz
open Go Go.Ax

def ty1 : TyI := { und := .func, size := 1, bytes := 8, agg := false, zero := [.nilFunc], flds := [], ints := false }
theorem ty1_ok : TyOK Tryz.prog 1 ty1 where
  und := ⟨_, Tryz.underlying1, rfl⟩
  info := ⟨Tryz.t1, by kernel_rfl, rfl, rfl, _, rfl, rfl⟩
  agg := rfl
  flds := fun fs h => by rw [Tryz.underlying1] at h; cases h
  eqg := fun h => by cases h
  ints := fun h => by cases h
def ty2 : TyI := { und := .int .i64, size := 1, bytes := 8, agg := false, zero := [.int .i64 0], flds := [], ints := false }
theorem ty2_ok : TyOK Tryz.prog 2 ty2 where
  und := ⟨_, Tryz.underlying2, rfl⟩
  info := ⟨Tryz.t2, by kernel_rfl, rfl, rfl, _, rfl, rfl⟩
  agg := rfl
  flds := fun fs h => by rw [Tryz.underlying2] at h; cases h
  eqg := fun h => by cases h
  ints := fun h => by cases h
def ty3 : TyI := { und := .int .i64, size := 1, bytes := 8, agg := false, zero := [.int .i64 0], flds := [], ints := false }
theorem ty3_ok : TyOK Tryz.prog 3 ty3 where
  und := ⟨_, Tryz.underlying3, rfl⟩
  info := ⟨Tryz.t3, by kernel_rfl, rfl, rfl, _, rfl, rfl⟩
  agg := rfl
  flds := fun fs h => by rw [Tryz.underlying3] at h; cases h
  eqg := fun h => by cases h
  ints := fun h => by cases h
def ty4 : TyI := { und := .bool, size := 1, bytes := 1, agg := false, zero := [.bool false], flds := [], ints := false }
theorem ty4_ok : TyOK Tryz.prog 4 ty4 where
  und := ⟨_, Tryz.underlying4, rfl⟩
  info := ⟨Tryz.t4, by kernel_rfl, rfl, rfl, _, rfl, rfl⟩
  agg := rfl
  flds := fun fs h => by rw [Tryz.underlying4] at h; cases h
  eqg := fun h => by cases h
  ints := fun h => by cases h
def ty5 : TyI := { und := .int .u8, size := 1, bytes := 1, agg := false, zero := [.int .u8 0], flds := [], ints := false }
theorem ty5_ok : TyOK Tryz.prog 5 ty5 where
  und := ⟨_, Tryz.underlying5, rfl⟩
  info := ⟨Tryz.t5, by kernel_rfl, rfl, rfl, _, rfl, rfl⟩
  agg := rfl
  flds := fun fs h => by rw [Tryz.underlying5] at h; cases h
  eqg := fun h => by cases h
  ints := fun h => by cases h
def ty6 : TyI := { und := .int .u8, size := 1, bytes := 1, agg := false, zero := [.int .u8 0], flds := [], ints := false }
theorem ty6_ok : TyOK Tryz.prog 6 ty6 where
  und := ⟨_, Tryz.underlying6, rfl⟩
  info := ⟨Tryz.t6, by kernel_rfl, rfl, rfl, _, rfl, rfl⟩
  agg := rfl
  flds := fun fs h => by rw [Tryz.underlying6] at h; cases h
  eqg := fun h => by cases h
  ints := fun h => by cases h
theorem cmp7 : CmpT Tryz.prog 2 7 true [.int .i64 0, .int .i64 0, .bool false, .int .u8 0] := cmp_struct Tryz.underlying7 (by kernel_rfl) (size_of (ti := Tryz.t7) (by kernel_rfl) rfl) ⟨by decide, rfl, false, [.int .i64 0], [.int .i64 0, .bool false, .int .u8 0], rfl, (cmp_int 0 Tryz.underlying2), by decide, rfl, false, [.int .i64 0], [.bool false, .int .u8 0], rfl, (cmp_int 0 Tryz.underlying3), by decide, rfl, false, [.bool false], [.int .u8 0], rfl, (cmp_bool false Tryz.underlying4), by decide, rfl, false, [.int .u8 0], [], rfl, (cmp_int 0 Tryz.underlying6), rfl⟩
def ty7 : TyI := { und := .struct, size := 4, bytes := 24, agg := true, zero := [.int .i64 0, .int .i64 0, .bool false, .int .u8 0], flds := [(0, 1), (1, 1), (2, 1), (3, 1)], ints := true }
theorem ty7_ok : TyOK Tryz.prog 7 ty7 where
  und := ⟨_, Tryz.underlying7, rfl⟩
  info := ⟨Tryz.t7, by kernel_rfl, rfl, rfl, _, rfl, rfl⟩
  agg := rfl
  flds := fun fs h => by
    rw [Tryz.underlying7] at h; cases h
    exact ⟨rfl, ⟨Tryz.t2, by kernel_rfl, rfl⟩, rfl, ⟨Tryz.t3, by kernel_rfl, rfl⟩, rfl, ⟨Tryz.t4, by kernel_rfl, rfl⟩, rfl, ⟨Tryz.t6, by kernel_rfl, rfl⟩, trivial⟩
  eqg := fun _ => by kernel_rfl
  ints := fun _ => ints_struct cmp7 (by decide)
def ty9 : TyI := { und := .string, size := 1, bytes := 16, agg := false, zero := [.string ⟨#[]⟩], flds := [], ints := false }
theorem ty9_ok : TyOK Tryz.prog 9 ty9 where
  und := ⟨_, Tryz.underlying9, rfl⟩
  info := ⟨Tryz.t9, by kernel_rfl, rfl, rfl, _, rfl, rfl⟩
  agg := rfl
  flds := fun fs h => by rw [Tryz.underlying9] at h; cases h
  eqg := fun h => by cases h
  ints := fun h => by cases h
def ty21 : TyI := { und := .int .i32, size := 1, bytes := 4, agg := false, zero := [.int .i32 0], flds := [], ints := false }
theorem ty21_ok : TyOK Tryz.prog 21 ty21 where
  und := ⟨_, Tryz.underlying21, rfl⟩
  info := ⟨Tryz.t21, by kernel_rfl, rfl, rfl, _, rfl, rfl⟩
  agg := rfl
  flds := fun fs h => by rw [Tryz.underlying21] at h; cases h
  eqg := fun h => by cases h
  ints := fun h => by cases h
def ty22 : TyI := { und := .slice 3, size := 1, bytes := 24, agg := false, zero := [.slice none 0 0], flds := [], ints := false }
theorem ty22_ok : TyOK Tryz.prog 22 ty22 where
  und := ⟨_, Tryz.underlying22, rfl⟩
  info := ⟨Tryz.t22, by kernel_rfl, rfl, rfl, _, rfl, rfl⟩
  agg := rfl
  flds := fun fs h => by rw [Tryz.underlying22] at h; cases h
  eqg := fun h => by cases h
  ints := fun h => by cases h
def ty24 : TyI := { und := .struct, size := 6, bytes := 64, agg := true, zero := [.int .i64 0, .int .i64 0, .int .i64 0, .int .i64 0, .int .i64 0, .slice none 0 0], flds := [(0, 1), (1, 1), (2, 1), (3, 1), (4, 1), (5, 1)], ints := false }
theorem ty24_ok : TyOK Tryz.prog 24 ty24 where
  und := ⟨_, Tryz.underlying24, rfl⟩
  info := ⟨Tryz.t24, by kernel_rfl, rfl, rfl, _, rfl, rfl⟩
  agg := rfl
  flds := fun fs h => by
    rw [Tryz.underlying24] at h; cases h
    exact ⟨rfl, ⟨Tryz.t3, by kernel_rfl, rfl⟩, rfl, ⟨Tryz.t3, by kernel_rfl, rfl⟩, rfl, ⟨Tryz.t3, by kernel_rfl, rfl⟩, rfl, ⟨Tryz.t3, by kernel_rfl, rfl⟩, rfl, ⟨Tryz.t3, by kernel_rfl, rfl⟩, rfl, ⟨Tryz.t22, by kernel_rfl, rfl⟩, trivial⟩
  eqg := fun h => by cases h
  ints := fun h => by cases h
def ty27 : TyI := { und := .int .i64, size := 1, bytes := 8, agg := false, zero := [.int .i64 0], flds := [], ints := false }
theorem ty27_ok : TyOK Tryz.prog 27 ty27 where
  und := ⟨_, Tryz.underlying27, rfl⟩
  info := ⟨Tryz.t27, by kernel_rfl, rfl, rfl, _, rfl, rfl⟩
  agg := rfl
  flds := fun fs h => by rw [Tryz.underlying27] at h; cases h
  eqg := fun h => by cases h
  ints := fun h => by cases h
def ty38 : TyI := { und := .slice 98, size := 1, bytes := 24, agg := false, zero := [.slice none 0 0], flds := [], ints := false }
theorem ty38_ok : TyOK Tryz.prog 38 ty38 where
  und := ⟨_, Tryz.underlying38, rfl⟩
  info := ⟨Tryz.t38, by kernel_rfl, rfl, rfl, _, rfl, rfl⟩
  agg := rfl
  flds := fun fs h => by rw [Tryz.underlying38] at h; cases h
  eqg := fun h => by cases h
  ints := fun h => by cases h
def ty39 : TyI := { und := .slice 90, size := 1, bytes := 24, agg := false, zero := [.slice none 0 0], flds := [], ints := false }
theorem ty39_ok : TyOK Tryz.prog 39 ty39 where
  und := ⟨_, Tryz.underlying39, rfl⟩
  info := ⟨Tryz.t39, by kernel_rfl, rfl, rfl, _, rfl, rfl⟩
  agg := rfl
  flds := fun fs h => by rw [Tryz.underlying39] at h; cases h
  eqg := fun h => by cases h
  ints := fun h => by cases h
def ty41 : TyI := { und := .struct, size := 5, bytes := 80, agg := true, zero := [.string ⟨#[]⟩, .slice none 0 0, .int .i64 0, .int .i64 0, .slice none 0 0], flds := [(0, 1), (1, 1), (2, 1), (3, 1), (4, 1)], ints := false }
theorem ty41_ok : TyOK Tryz.prog 41 ty41 where
  und := ⟨_, Tryz.underlying41, rfl⟩
  info := ⟨Tryz.t41, by kernel_rfl, rfl, rfl, _, rfl, rfl⟩
  agg := rfl
  flds := fun fs h => by
    rw [Tryz.underlying41] at h; cases h
    exact ⟨rfl, ⟨Tryz.t9, by kernel_rfl, rfl⟩, rfl, ⟨Tryz.t38, by kernel_rfl, rfl⟩, rfl, ⟨Tryz.t3, by kernel_rfl, rfl⟩, rfl, ⟨Tryz.t3, by kernel_rfl, rfl⟩, rfl, ⟨Tryz.t39, by kernel_rfl, rfl⟩, trivial⟩
  eqg := fun h => by cases h
  ints := fun h => by cases h
theorem cmp55 : CmpT Tryz.prog 2 55 true [.int .i64 0, .int .i64 0, .int .i64 0] := cmp_struct Tryz.underlying55 (by kernel_rfl) (size_of (ti := Tryz.t55) (by kernel_rfl) rfl) ⟨by decide, rfl, false, [.int .i64 0], [.int .i64 0, .int .i64 0], rfl, (cmp_int 0 Tryz.underlying3), by decide, rfl, false, [.int .i64 0], [.int .i64 0], rfl, (cmp_int 0 Tryz.underlying3), by decide, rfl, false, [.int .i64 0], [], rfl, (cmp_int 0 Tryz.underlying3), rfl⟩
def ty55 : TyI := { und := .struct, size := 3, bytes := 24, agg := true, zero := [.int .i64 0, .int .i64 0, .int .i64 0], flds := [(0, 1), (1, 1), (2, 1)], ints := true }
theorem ty55_ok : TyOK Tryz.prog 55 ty55 where
  und := ⟨_, Tryz.underlying55, rfl⟩
  info := ⟨Tryz.t55, by kernel_rfl, rfl, rfl, _, rfl, rfl⟩
  agg := rfl
  flds := fun fs h => by
    rw [Tryz.underlying55] at h; cases h
    exact ⟨rfl, ⟨Tryz.t3, by kernel_rfl, rfl⟩, rfl, ⟨Tryz.t3, by kernel_rfl, rfl⟩, rfl, ⟨Tryz.t3, by kernel_rfl, rfl⟩, trivial⟩
  eqg := fun _ => by kernel_rfl
  ints := fun _ => ints_struct cmp55 (by decide)
def ty59 : TyI := { und := .struct, size := 3, bytes := 56, agg := true, zero := [.int .i64 0, .slice none 0 0, .slice none 0 0], flds := [(0, 1), (1, 1), (2, 1)], ints := false }
theorem ty59_ok : TyOK Tryz.prog 59 ty59 where
  und := ⟨_, Tryz.underlying59, rfl⟩
  info := ⟨Tryz.t59, by kernel_rfl, rfl, rfl, _, rfl, rfl⟩
  agg := rfl
  flds := fun fs h => by
    rw [Tryz.underlying59] at h; cases h
    exact ⟨rfl, ⟨Tryz.t3, by kernel_rfl, rfl⟩, rfl, ⟨Tryz.t22, by kernel_rfl, rfl⟩, rfl, ⟨Tryz.t22, by kernel_rfl, rfl⟩, trivial⟩
  eqg := fun h => by cases h
  ints := fun h => by cases h
def ty64 : TyI := { und := .struct, size := 5, bytes := 104, agg := true, zero := [.slice none 0 0, .slice none 0 0, .int .i64 0, .slice none 0 0, .slice none 0 0], flds := [(0, 1), (1, 1), (2, 3)], ints := false }
theorem ty64_ok : TyOK Tryz.prog 64 ty64 where
  und := ⟨_, Tryz.underlying64, rfl⟩
  info := ⟨Tryz.t64, by kernel_rfl, rfl, rfl, _, rfl, rfl⟩
  agg := rfl
  flds := fun fs h => by
    rw [Tryz.underlying64] at h; cases h
    exact ⟨rfl, ⟨Tryz.t22, by kernel_rfl, rfl⟩, rfl, ⟨Tryz.t22, by kernel_rfl, rfl⟩, rfl, ⟨Tryz.t59, by kernel_rfl, rfl⟩, trivial⟩
  eqg := fun h => by cases h
  ints := fun h => by cases h
def ty68 : TyI := { und := .slice 9, size := 1, bytes := 24, agg := false, zero := [.slice none 0 0], flds := [], ints := false }
theorem ty68_ok : TyOK Tryz.prog 68 ty68 where
  und := ⟨_, Tryz.underlying68, rfl⟩
  info := ⟨Tryz.t68, by kernel_rfl, rfl, rfl, _, rfl, rfl⟩
  agg := rfl
  flds := fun fs h => by rw [Tryz.underlying68] at h; cases h
  eqg := fun h => by cases h
  ints := fun h => by cases h
def ty71 : TyI := { und := .iface, size := 1, bytes := 16, agg := false, zero := [.nilIface], flds := [], ints := false }
theorem ty71_ok : TyOK Tryz.prog 71 ty71 where
  und := ⟨_, Tryz.underlying71, rfl⟩
  info := ⟨Tryz.t71, by kernel_rfl, rfl, rfl, _, rfl, rfl⟩
  agg := rfl
  flds := fun fs h => by rw [Tryz.underlying71] at h; cases h
  eqg := fun h => by cases h
  ints := fun h => by cases h
def ty78 : TyI := { und := .array 5 3, size := 5, bytes := 40, agg := true, zero := [.int .i64 0, .int .i64 0, .int .i64 0, .int .i64 0, .int .i64 0], flds := [], ints := false }
theorem ty78_ok : TyOK Tryz.prog 78 ty78 where
  und := ⟨_, Tryz.underlying78, rfl⟩
  info := ⟨Tryz.t78, by kernel_rfl, rfl, rfl, _, rfl, rfl⟩
  agg := rfl
  flds := fun fs h => by rw [Tryz.underlying78] at h; cases h
  eqg := fun h => by cases h
  ints := fun h => by cases h
theorem cmp85 : CmpT Tryz.prog 2 85 true [.int .i64 0, .int .i64 0] := cmp_struct Tryz.underlying85 (by kernel_rfl) (size_of (ti := Tryz.t85) (by kernel_rfl) rfl) ⟨by decide, rfl, false, [.int .i64 0], [.int .i64 0], rfl, (cmp_int 0 Tryz.underlying3), by decide, rfl, false, [.int .i64 0], [], rfl, (cmp_int 0 Tryz.underlying3), rfl⟩
def ty85 : TyI := { und := .struct, size := 2, bytes := 16, agg := true, zero := [.int .i64 0, .int .i64 0], flds := [(0, 1), (1, 1)], ints := true }
theorem ty85_ok : TyOK Tryz.prog 85 ty85 where
  und := ⟨_, Tryz.underlying85, rfl⟩
  info := ⟨Tryz.t85, by kernel_rfl, rfl, rfl, _, rfl, rfl⟩
  agg := rfl
  flds := fun fs h => by
    rw [Tryz.underlying85] at h; cases h
    exact ⟨rfl, ⟨Tryz.t3, by kernel_rfl, rfl⟩, rfl, ⟨Tryz.t3, by kernel_rfl, rfl⟩, trivial⟩
  eqg := fun _ => by kernel_rfl
  ints := fun _ => ints_struct cmp85 (by decide)
def ty88 : TyI := { und := .slice 85, size := 1, bytes := 24, agg := false, zero := [.slice none 0 0], flds := [], ints := false }
theorem ty88_ok : TyOK Tryz.prog 88 ty88 where
  und := ⟨_, Tryz.underlying88, rfl⟩
  info := ⟨Tryz.t88, by kernel_rfl, rfl, rfl, _, rfl, rfl⟩
  agg := rfl
  flds := fun fs h => by rw [Tryz.underlying88] at h; cases h
  eqg := fun h => by cases h
  ints := fun h => by cases h
def ty90 : TyI := { und := .struct, size := 3, bytes := 48, agg := true, zero := [.string ⟨#[]⟩, .int .i64 0, .slice none 0 0], flds := [(0, 1), (1, 1), (2, 1)], ints := false }
theorem ty90_ok : TyOK Tryz.prog 90 ty90 where
  und := ⟨_, Tryz.underlying90, rfl⟩
  info := ⟨Tryz.t90, by kernel_rfl, rfl, rfl, _, rfl, rfl⟩
  agg := rfl
  flds := fun fs h => by
    rw [Tryz.underlying90] at h; cases h
    exact ⟨rfl, ⟨Tryz.t9, by kernel_rfl, rfl⟩, rfl, ⟨Tryz.t3, by kernel_rfl, rfl⟩, rfl, ⟨Tryz.t88, by kernel_rfl, rfl⟩, trivial⟩
  eqg := fun h => by cases h
  ints := fun h => by cases h
def ty92 : TyI := { und := .pointer, size := 1, bytes := 8, agg := false, zero := [.pointer none], flds := [], ints := false }
theorem ty92_ok : TyOK Tryz.prog 92 ty92 where
  und := ⟨_, Tryz.underlying92, rfl⟩
  info := ⟨Tryz.t92, by kernel_rfl, rfl, rfl, _, rfl, rfl⟩
  agg := rfl
  flds := fun fs h => by rw [Tryz.underlying92] at h; cases h
  eqg := fun h => by cases h
  ints := fun h => by cases h
def ty93 : TyI := { und := .slice 5, size := 1, bytes := 24, agg := false, zero := [.slice none 0 0], flds := [], ints := false }
theorem ty93_ok : TyOK Tryz.prog 93 ty93 where
  und := ⟨_, Tryz.underlying93, rfl⟩
  info := ⟨Tryz.t93, by kernel_rfl, rfl, rfl, _, rfl, rfl⟩
  agg := rfl
  flds := fun fs h => by rw [Tryz.underlying93] at h; cases h
  eqg := fun h => by cases h
  ints := fun h => by cases h
def ty95 : TyI := { und := .struct, size := 2, bytes := 32, agg := true, zero := [.pointer none, .slice none 0 0], flds := [(0, 1), (1, 1)], ints := false }
theorem ty95_ok : TyOK Tryz.prog 95 ty95 where
  und := ⟨_, Tryz.underlying95, rfl⟩
  info := ⟨Tryz.t95, by kernel_rfl, rfl, rfl, _, rfl, rfl⟩
  agg := rfl
  flds := fun fs h => by
    rw [Tryz.underlying95] at h; cases h
    exact ⟨rfl, ⟨Tryz.t92, by kernel_rfl, rfl⟩, rfl, ⟨Tryz.t93, by kernel_rfl, rfl⟩, trivial⟩
  eqg := fun h => by cases h
  ints := fun h => by cases h
theorem cmp98 : CmpT Tryz.prog 2 98 true [.int .i64 0, .int .i64 0, .int .i64 0, .int .i64 0, .int .i64 0] := cmp_struct Tryz.underlying98 (by kernel_rfl) (size_of (ti := Tryz.t98) (by kernel_rfl) rfl) ⟨by decide, rfl, false, [.int .i64 0], [.int .i64 0, .int .i64 0, .int .i64 0, .int .i64 0], rfl, (cmp_int 0 Tryz.underlying3), by decide, rfl, false, [.int .i64 0], [.int .i64 0, .int .i64 0, .int .i64 0], rfl, (cmp_int 0 Tryz.underlying3), by decide, rfl, false, [.int .i64 0], [.int .i64 0, .int .i64 0], rfl, (cmp_int 0 Tryz.underlying3), by decide, rfl, false, [.int .i64 0], [.int .i64 0], rfl, (cmp_int 0 Tryz.underlying3), by decide, rfl, false, [.int .i64 0], [], rfl, (cmp_int 0 Tryz.underlying3), rfl⟩
def ty98 : TyI := { und := .struct, size := 5, bytes := 40, agg := true, zero := [.int .i64 0, .int .i64 0, .int .i64 0, .int .i64 0, .int .i64 0], flds := [(0, 1), (1, 1), (2, 1), (3, 1), (4, 1)], ints := true }
theorem ty98_ok : TyOK Tryz.prog 98 ty98 where
  und := ⟨_, Tryz.underlying98, rfl⟩
  info := ⟨Tryz.t98, by kernel_rfl, rfl, rfl, _, rfl, rfl⟩
  agg := rfl
  flds := fun fs h => by
    rw [Tryz.underlying98] at h; cases h
    exact ⟨rfl, ⟨Tryz.t3, by kernel_rfl, rfl⟩, rfl, ⟨Tryz.t3, by kernel_rfl, rfl⟩, rfl, ⟨Tryz.t3, by kernel_rfl, rfl⟩, rfl, ⟨Tryz.t3, by kernel_rfl, rfl⟩, rfl, ⟨Tryz.t3, by kernel_rfl, rfl⟩, trivial⟩
  eqg := fun _ => by kernel_rfl
  ints := fun _ => ints_struct cmp98 (by decide)
theorem cmp119 : CmpT Tryz.prog 2 119 true [.int .i64 0, .int .i64 0] := cmp_struct Tryz.underlying119 (by kernel_rfl) (size_of (ti := Tryz.t119) (by kernel_rfl) rfl) ⟨by decide, rfl, false, [.int .i64 0], [.int .i64 0], rfl, (cmp_int 0 Tryz.underlying3), by decide, rfl, false, [.int .i64 0], [], rfl, (cmp_int 0 Tryz.underlying3), rfl⟩
def ty119 : TyI := { und := .struct, size := 2, bytes := 16, agg := true, zero := [.int .i64 0, .int .i64 0], flds := [(0, 1), (1, 1)], ints := true }
theorem ty119_ok : TyOK Tryz.prog 119 ty119 where
  und := ⟨_, Tryz.underlying119, rfl⟩
  info := ⟨Tryz.t119, by kernel_rfl, rfl, rfl, _, rfl, rfl⟩
  agg := rfl
  flds := fun fs h => by
    rw [Tryz.underlying119] at h; cases h
    exact ⟨rfl, ⟨Tryz.t3, by kernel_rfl, rfl⟩, rfl, ⟨Tryz.t3, by kernel_rfl, rfl⟩, trivial⟩
  eqg := fun _ => by kernel_rfl
  ints := fun _ => ints_struct cmp119 (by decide)
def ty135 : TyI := { und := .func, size := 1, bytes := 8, agg := false, zero := [.nilFunc], flds := [], ints := false }
theorem ty135_ok : TyOK Tryz.prog 135 ty135 where
  und := ⟨_, Tryz.underlying135, rfl⟩
  info := ⟨Tryz.t135, by kernel_rfl, rfl, rfl, _, rfl, rfl⟩
  agg := rfl
  flds := fun fs h => by rw [Tryz.underlying135] at h; cases h
  eqg := fun h => by cases h
  ints := fun h => by cases h
def ty138 : TyI := { und := .pointer, size := 1, bytes := 8, agg := false, zero := [.pointer none], flds := [], ints := false }
theorem ty138_ok : TyOK Tryz.prog 138 ty138 where
  und := ⟨_, Tryz.underlying138, rfl⟩
  info := ⟨Tryz.t138, by kernel_rfl, rfl, rfl, _, rfl, rfl⟩
  agg := rfl
  flds := fun fs h => by rw [Tryz.underlying138] at h; cases h
  eqg := fun h => by cases h
  ints := fun h => by cases h
def ty142 : TyI := { und := .slice 24, size := 1, bytes := 24, agg := false, zero := [.slice none 0 0], flds := [], ints := false }
theorem ty142_ok : TyOK Tryz.prog 142 ty142 where
  und := ⟨_, Tryz.underlying142, rfl⟩
  info := ⟨Tryz.t142, by kernel_rfl, rfl, rfl, _, rfl, rfl⟩
  agg := rfl
  flds := fun fs h => by rw [Tryz.underlying142] at h; cases h
  eqg := fun h => by cases h
  ints := fun h => by cases h
theorem cmp144 : CmpT Tryz.prog 2 144 true [.int .i64 0, .int .i64 0, .int .i64 0, .int .i64 0, .int .i64 0] := cmp_struct Tryz.underlying144 (by kernel_rfl) (size_of (ti := Tryz.t144) (by kernel_rfl) rfl) ⟨by decide, rfl, false, [.int .i64 0], [.int .i64 0, .int .i64 0, .int .i64 0, .int .i64 0], rfl, (cmp_int 0 Tryz.underlying3), by decide, rfl, false, [.int .i64 0], [.int .i64 0, .int .i64 0, .int .i64 0], rfl, (cmp_int 0 Tryz.underlying3), by decide, rfl, false, [.int .i64 0], [.int .i64 0, .int .i64 0], rfl, (cmp_int 0 Tryz.underlying3), by decide, rfl, false, [.int .i64 0], [.int .i64 0], rfl, (cmp_int 0 Tryz.underlying3), by decide, rfl, false, [.int .i64 0], [], rfl, (cmp_int 0 Tryz.underlying3), rfl⟩
def ty144 : TyI := { und := .struct, size := 5, bytes := 40, agg := true, zero := [.int .i64 0, .int .i64 0, .int .i64 0, .int .i64 0, .int .i64 0], flds := [(0, 1), (1, 1), (2, 1), (3, 1), (4, 1)], ints := true }
theorem ty144_ok : TyOK Tryz.prog 144 ty144 where
  und := ⟨_, Tryz.underlying144, rfl⟩
  info := ⟨Tryz.t144, by kernel_rfl, rfl, rfl, _, rfl, rfl⟩
  agg := rfl
  flds := fun fs h => by
    rw [Tryz.underlying144] at h; cases h
    exact ⟨rfl, ⟨Tryz.t3, by kernel_rfl, rfl⟩, rfl, ⟨Tryz.t3, by kernel_rfl, rfl⟩, rfl, ⟨Tryz.t3, by kernel_rfl, rfl⟩, rfl, ⟨Tryz.t3, by kernel_rfl, rfl⟩, rfl, ⟨Tryz.t3, by kernel_rfl, rfl⟩, trivial⟩
  eqg := fun _ => by kernel_rfl
  ints := fun _ => ints_struct cmp144 (by decide)
def ty149 : TyI := { und := .map 3 4, size := 1, bytes := 8, agg := false, zero := [.map none], flds := [], ints := false }
theorem ty149_ok : TyOK Tryz.prog 149 ty149 where
  und := ⟨_, Tryz.underlying149, rfl⟩
  info := ⟨Tryz.t149, by kernel_rfl, rfl, rfl, _, rfl, rfl⟩
  agg := rfl
  flds := fun fs h => by rw [Tryz.underlying149] at h; cases h
  eqg := fun h => by cases h
  ints := fun h => by cases h
def ty151 : TyI := { und := .map 3 3, size := 1, bytes := 8, agg := false, zero := [.map none], flds := [], ints := false }
theorem ty151_ok : TyOK Tryz.prog 151 ty151 where
  und := ⟨_, Tryz.underlying151, rfl⟩
  info := ⟨Tryz.t151, by kernel_rfl, rfl, rfl, _, rfl, rfl⟩
  agg := rfl
  flds := fun fs h => by rw [Tryz.underlying151] at h; cases h
  eqg := fun h => by cases h
  ints := fun h => by cases h
def ty155 : TyI := { und := .slice 157, size := 1, bytes := 24, agg := false, zero := [.slice none 0 0], flds := [], ints := false }
theorem ty155_ok : TyOK Tryz.prog 155 ty155 where
  und := ⟨_, Tryz.underlying155, rfl⟩
  info := ⟨Tryz.t155, by kernel_rfl, rfl, rfl, _, rfl, rfl⟩
  agg := rfl
  flds := fun fs h => by rw [Tryz.underlying155] at h; cases h
  eqg := fun h => by cases h
  ints := fun h => by cases h
theorem cmp157 : CmpT Tryz.prog 2 157 true [.int .i64 0, .int .i64 0] := cmp_struct Tryz.underlying157 (by kernel_rfl) (size_of (ti := Tryz.t157) (by kernel_rfl) rfl) ⟨by decide, rfl, false, [.int .i64 0], [.int .i64 0], rfl, (cmp_int 0 Tryz.underlying3), by decide, rfl, false, [.int .i64 0], [], rfl, (cmp_int 0 Tryz.underlying3), rfl⟩
def ty157 : TyI := { und := .struct, size := 2, bytes := 16, agg := true, zero := [.int .i64 0, .int .i64 0], flds := [(0, 1), (1, 1)], ints := true }
theorem ty157_ok : TyOK Tryz.prog 157 ty157 where
  und := ⟨_, Tryz.underlying157, rfl⟩
  info := ⟨Tryz.t157, by kernel_rfl, rfl, rfl, _, rfl, rfl⟩
  agg := rfl
  flds := fun fs h => by
    rw [Tryz.underlying157] at h; cases h
    exact ⟨rfl, ⟨Tryz.t3, by kernel_rfl, rfl⟩, rfl, ⟨Tryz.t3, by kernel_rfl, rfl⟩, trivial⟩
  eqg := fun _ => by kernel_rfl
  ints := fun _ => ints_struct cmp157 (by decide)
def ty158 : TyI := { und := .int .u32, size := 1, bytes := 4, agg := false, zero := [.int .u32 0], flds := [], ints := false }
theorem ty158_ok : TyOK Tryz.prog 158 ty158 where
  und := ⟨_, Tryz.underlying158, rfl⟩
  info := ⟨Tryz.t158, by kernel_rfl, rfl, rfl, _, rfl, rfl⟩
  agg := rfl
  flds := fun fs h => by rw [Tryz.underlying158] at h; cases h
  eqg := fun h => by cases h
  ints := fun h => by cases h
def ty160 : TyI := { und := .pointer, size := 1, bytes := 8, agg := false, zero := [.pointer none], flds := [], ints := false }
theorem ty160_ok : TyOK Tryz.prog 160 ty160 where
  und := ⟨_, Tryz.underlying160, rfl⟩
  info := ⟨Tryz.t160, by kernel_rfl, rfl, rfl, _, rfl, rfl⟩
  agg := rfl
  flds := fun fs h => by rw [Tryz.underlying160] at h; cases h
  eqg := fun h => by cases h
  ints := fun h => by cases h
def ty167 : TyI := { und := .slice 170, size := 1, bytes := 24, agg := false, zero := [.slice none 0 0], flds := [], ints := false }
theorem ty167_ok : TyOK Tryz.prog 167 ty167 where
  und := ⟨_, Tryz.underlying167, rfl⟩
  info := ⟨Tryz.t167, by kernel_rfl, rfl, rfl, _, rfl, rfl⟩
  agg := rfl
  flds := fun fs h => by rw [Tryz.underlying167] at h; cases h
  eqg := fun h => by cases h
  ints := fun h => by cases h
theorem cmp170 : CmpT Tryz.prog 2 170 true [.int .i64 0, .int .i64 0, .int .i64 0, .int .i64 0] := cmp_struct Tryz.underlying170 (by kernel_rfl) (size_of (ti := Tryz.t170) (by kernel_rfl) rfl) ⟨by decide, rfl, false, [.int .i64 0], [.int .i64 0, .int .i64 0, .int .i64 0], rfl, (cmp_int 0 Tryz.underlying3), by decide, rfl, false, [.int .i64 0], [.int .i64 0, .int .i64 0], rfl, (cmp_int 0 Tryz.underlying3), by decide, rfl, false, [.int .i64 0], [.int .i64 0], rfl, (cmp_int 0 Tryz.underlying3), by decide, rfl, false, [.int .i64 0], [], rfl, (cmp_int 0 Tryz.underlying3), rfl⟩
def ty170 : TyI := { und := .struct, size := 4, bytes := 32, agg := true, zero := [.int .i64 0, .int .i64 0, .int .i64 0, .int .i64 0], flds := [(0, 1), (1, 1), (2, 1), (3, 1)], ints := true }
theorem ty170_ok : TyOK Tryz.prog 170 ty170 where
  und := ⟨_, Tryz.underlying170, rfl⟩
  info := ⟨Tryz.t170, by kernel_rfl, rfl, rfl, _, rfl, rfl⟩
  agg := rfl
  flds := fun fs h => by
    rw [Tryz.underlying170] at h; cases h
    exact ⟨rfl, ⟨Tryz.t3, by kernel_rfl, rfl⟩, rfl, ⟨Tryz.t3, by kernel_rfl, rfl⟩, rfl, ⟨Tryz.t3, by kernel_rfl, rfl⟩, rfl, ⟨Tryz.t3, by kernel_rfl, rfl⟩, trivial⟩
  eqg := fun _ => by kernel_rfl
  ints := fun _ => ints_struct cmp170 (by decide)
def ty184 : TyI := { und := .slice 22, size := 1, bytes := 24, agg := false, zero := [.slice none 0 0], flds := [], ints := false }
theorem ty184_ok : TyOK Tryz.prog 184 ty184 where
  und := ⟨_, Tryz.underlying184, rfl⟩
  info := ⟨Tryz.t184, by kernel_rfl, rfl, rfl, _, rfl, rfl⟩
  agg := rfl
  flds := fun fs h => by rw [Tryz.underlying184] at h; cases h
  eqg := fun h => by cases h
  ints := fun h => by cases h
def ty188 : TyI := { und := .int .u64, size := 1, bytes := 8, agg := false, zero := [.int .u64 0], flds := [], ints := false }
theorem ty188_ok : TyOK Tryz.prog 188 ty188 where
  und := ⟨_, Tryz.underlying188, rfl⟩
  info := ⟨Tryz.t188, by kernel_rfl, rfl, rfl, _, rfl, rfl⟩
  agg := rfl
  flds := fun fs h => by rw [Tryz.underlying188] at h; cases h
  eqg := fun h => by cases h
  ints := fun h => by cases h
def ty189 : TyI := { und := .other, size := 1, bytes := 8, agg := false, zero := [.pointer none], flds := [], ints := false }
theorem ty189_ok : TyOK Tryz.prog 189 ty189 where
  und := ⟨_, Tryz.underlying189, rfl⟩
  info := ⟨Tryz.t189, by kernel_rfl, rfl, rfl, _, rfl, rfl⟩
  agg := rfl
  flds := fun fs h => by rw [Tryz.underlying189] at h; cases h
  eqg := fun h => by cases h
  ints := fun h => by cases h
def ty192 : TyI := { und := .slice 198, size := 1, bytes := 24, agg := false, zero := [.slice none 0 0], flds := [], ints := false }
theorem ty192_ok : TyOK Tryz.prog 192 ty192 where
  und := ⟨_, Tryz.underlying192, rfl⟩
  info := ⟨Tryz.t192, by kernel_rfl, rfl, rfl, _, rfl, rfl⟩
  agg := rfl
  flds := fun fs h => by rw [Tryz.underlying192] at h; cases h
  eqg := fun h => by cases h
  ints := fun h => by cases h
def ty193 : TyI := { und := .slice 201, size := 1, bytes := 24, agg := false, zero := [.slice none 0 0], flds := [], ints := false }
theorem ty193_ok : TyOK Tryz.prog 193 ty193 where
  und := ⟨_, Tryz.underlying193, rfl⟩
  info := ⟨Tryz.t193, by kernel_rfl, rfl, rfl, _, rfl, rfl⟩
  agg := rfl
  flds := fun fs h => by rw [Tryz.underlying193] at h; cases h
  eqg := fun h => by cases h
  ints := fun h => by cases h
def ty195 : TyI := { und := .struct, size := 3, bytes := 56, agg := true, zero := [.slice none 0 0, .slice none 0 0, .int .i64 0], flds := [(0, 1), (1, 1), (2, 1)], ints := false }
theorem ty195_ok : TyOK Tryz.prog 195 ty195 where
  und := ⟨_, Tryz.underlying195, rfl⟩
  info := ⟨Tryz.t195, by kernel_rfl, rfl, rfl, _, rfl, rfl⟩
  agg := rfl
  flds := fun fs h => by
    rw [Tryz.underlying195] at h; cases h
    exact ⟨rfl, ⟨Tryz.t192, by kernel_rfl, rfl⟩, rfl, ⟨Tryz.t193, by kernel_rfl, rfl⟩, rfl, ⟨Tryz.t3, by kernel_rfl, rfl⟩, trivial⟩
  eqg := fun h => by cases h
  ints := fun h => by cases h
def ty196 : TyI := { und := .int .u16, size := 1, bytes := 2, agg := false, zero := [.int .u16 0], flds := [], ints := false }
theorem ty196_ok : TyOK Tryz.prog 196 ty196 where
  und := ⟨_, Tryz.underlying196, rfl⟩
  info := ⟨Tryz.t196, by kernel_rfl, rfl, rfl, _, rfl, rfl⟩
  agg := rfl
  flds := fun fs h => by rw [Tryz.underlying196] at h; cases h
  eqg := fun h => by cases h
  ints := fun h => by cases h
theorem cmp198 : CmpT Tryz.prog 2 198 true [.int .u16 0, .int .u16 0, .int .u16 0] := cmp_struct Tryz.underlying198 (by kernel_rfl) (size_of (ti := Tryz.t198) (by kernel_rfl) rfl) ⟨by decide, rfl, false, [.int .u16 0], [.int .u16 0, .int .u16 0], rfl, (cmp_int 0 Tryz.underlying196), by decide, rfl, false, [.int .u16 0], [.int .u16 0], rfl, (cmp_int 0 Tryz.underlying196), by decide, rfl, false, [.int .u16 0], [], rfl, (cmp_int 0 Tryz.underlying196), rfl⟩
def ty198 : TyI := { und := .struct, size := 3, bytes := 6, agg := true, zero := [.int .u16 0, .int .u16 0, .int .u16 0], flds := [(0, 1), (1, 1), (2, 1)], ints := true }
theorem ty198_ok : TyOK Tryz.prog 198 ty198 where
  und := ⟨_, Tryz.underlying198, rfl⟩
  info := ⟨Tryz.t198, by kernel_rfl, rfl, rfl, _, rfl, rfl⟩
  agg := rfl
  flds := fun fs h => by
    rw [Tryz.underlying198] at h; cases h
    exact ⟨rfl, ⟨Tryz.t196, by kernel_rfl, rfl⟩, rfl, ⟨Tryz.t196, by kernel_rfl, rfl⟩, rfl, ⟨Tryz.t196, by kernel_rfl, rfl⟩, trivial⟩
  eqg := fun _ => by kernel_rfl
  ints := fun _ => ints_struct cmp198 (by decide)
theorem cmp201 : CmpT Tryz.prog 2 201 true [.int .u32 0, .int .u32 0, .int .u32 0] := cmp_struct Tryz.underlying201 (by kernel_rfl) (size_of (ti := Tryz.t201) (by kernel_rfl) rfl) ⟨by decide, rfl, false, [.int .u32 0], [.int .u32 0, .int .u32 0], rfl, (cmp_int 0 Tryz.underlying158), by decide, rfl, false, [.int .u32 0], [.int .u32 0], rfl, (cmp_int 0 Tryz.underlying158), by decide, rfl, false, [.int .u32 0], [], rfl, (cmp_int 0 Tryz.underlying158), rfl⟩
def ty201 : TyI := { und := .struct, size := 3, bytes := 12, agg := true, zero := [.int .u32 0, .int .u32 0, .int .u32 0], flds := [(0, 1), (1, 1), (2, 1)], ints := true }
theorem ty201_ok : TyOK Tryz.prog 201 ty201 where
  und := ⟨_, Tryz.underlying201, rfl⟩
  info := ⟨Tryz.t201, by kernel_rfl, rfl, rfl, _, rfl, rfl⟩
  agg := rfl
  flds := fun fs h => by
    rw [Tryz.underlying201] at h; cases h
    exact ⟨rfl, ⟨Tryz.t158, by kernel_rfl, rfl⟩, rfl, ⟨Tryz.t158, by kernel_rfl, rfl⟩, rfl, ⟨Tryz.t158, by kernel_rfl, rfl⟩, trivial⟩
  eqg := fun _ => by kernel_rfl
  ints := fun _ => ints_struct cmp201 (by decide)
def ty203 : TyI := { und := .int .u64, size := 1, bytes := 8, agg := false, zero := [.int .u64 0], flds := [], ints := false }
theorem ty203_ok : TyOK Tryz.prog 203 ty203 where
  und := ⟨_, Tryz.underlying203, rfl⟩
  info := ⟨Tryz.t203, by kernel_rfl, rfl, rfl, _, rfl, rfl⟩
  agg := rfl
  flds := fun fs h => by rw [Tryz.underlying203] at h; cases h
  eqg := fun h => by cases h
  ints := fun h => by cases h
def ty208 : TyI := { und := .struct, size := 3, bytes := 48, agg := true, zero := [.string ⟨#[]⟩, .string ⟨#[]⟩, .nilIface], flds := [(0, 1), (1, 1), (2, 1)], ints := false }
theorem ty208_ok : TyOK Tryz.prog 208 ty208 where
  und := ⟨_, Tryz.underlying208, rfl⟩
  info := ⟨Tryz.t208, by kernel_rfl, rfl, rfl, _, rfl, rfl⟩
  agg := rfl
  flds := fun fs h => by
    rw [Tryz.underlying208] at h; cases h
    exact ⟨rfl, ⟨Tryz.t9, by kernel_rfl, rfl⟩, rfl, ⟨Tryz.t9, by kernel_rfl, rfl⟩, rfl, ⟨Tryz.t71, by kernel_rfl, rfl⟩, trivial⟩
  eqg := fun h => by cases h
  ints := fun h => by cases h
def ty215 : TyI := { und := .func, size := 1, bytes := 8, agg := false, zero := [.nilFunc], flds := [], ints := false }
theorem ty215_ok : TyOK Tryz.prog 215 ty215 where
  und := ⟨_, Tryz.underlying215, rfl⟩
  info := ⟨Tryz.t215, by kernel_rfl, rfl, rfl, _, rfl, rfl⟩
  agg := rfl
  flds := fun fs h => by rw [Tryz.underlying215] at h; cases h
  eqg := fun h => by cases h
  ints := fun h => by cases h
def ty217 : TyI := { und := .struct, size := 2, bytes := 16, agg := true, zero := [.int .i64 0, .nilFunc], flds := [(0, 1), (1, 1)], ints := false }
theorem ty217_ok : TyOK Tryz.prog 217 ty217 where
  und := ⟨_, Tryz.underlying217, rfl⟩
  info := ⟨Tryz.t217, by kernel_rfl, rfl, rfl, _, rfl, rfl⟩
  agg := rfl
  flds := fun fs h => by
    rw [Tryz.underlying217] at h; cases h
    exact ⟨rfl, ⟨Tryz.t27, by kernel_rfl, rfl⟩, rfl, ⟨Tryz.t215, by kernel_rfl, rfl⟩, trivial⟩
  eqg := fun h => by cases h
  ints := fun h => by cases h
def ty218 : TyI := { und := .array 4 217, size := 8, bytes := 64, agg := true, zero := [.int .i64 0, .nilFunc, .int .i64 0, .nilFunc, .int .i64 0, .nilFunc, .int .i64 0, .nilFunc], flds := [], ints := false }
theorem ty218_ok : TyOK Tryz.prog 218 ty218 where
  und := ⟨_, Tryz.underlying218, rfl⟩
  info := ⟨Tryz.t218, by kernel_rfl, rfl, rfl, _, rfl, rfl⟩
  agg := rfl
  flds := fun fs h => by rw [Tryz.underlying218] at h; cases h
  eqg := fun h => by cases h
  ints := fun h => by cases h
def ty224 : TyI := { und := .int .i64, size := 1, bytes := 8, agg := false, zero := [.int .i64 0], flds := [], ints := false }
theorem ty224_ok : TyOK Tryz.prog 224 ty224 where
  und := ⟨_, Tryz.underlying224, rfl⟩
  info := ⟨Tryz.t224, by kernel_rfl, rfl, rfl, _, rfl, rfl⟩
  agg := rfl
  flds := fun fs h => by rw [Tryz.underlying224] at h; cases h
  eqg := fun h => by cases h
  ints := fun h => by cases h
def ty233 : TyI := { und := .array 24 5, size := 24, bytes := 24, agg := true, zero := [.int .u8 0, .int .u8 0, .int .u8 0, .int .u8 0, .int .u8 0, .int .u8 0, .int .u8 0, .int .u8 0, .int .u8 0, .int .u8 0, .int .u8 0, .int .u8 0, .int .u8 0, .int .u8 0, .int .u8 0, .int .u8 0, .int .u8 0, .int .u8 0, .int .u8 0, .int .u8 0, .int .u8 0, .int .u8 0, .int .u8 0, .int .u8 0], flds := [], ints := false }
theorem ty233_ok : TyOK Tryz.prog 233 ty233 where
  und := ⟨_, Tryz.underlying233, rfl⟩
  info := ⟨Tryz.t233, by kernel_rfl, rfl, rfl, _, rfl, rfl⟩
  agg := rfl
  flds := fun fs h => by rw [Tryz.underlying233] at h; cases h
  eqg := fun h => by cases h
  ints := fun h => by cases h
theorem cmp242 : CmpT Tryz.prog 2 242 true [.string ⟨#[]⟩] := cmp_struct Tryz.underlying242 (by kernel_rfl) (size_of (ti := Tryz.t242) (by kernel_rfl) rfl) ⟨by decide, rfl, false, [.string ⟨#[]⟩], [], rfl, (cmp_string ⟨#[]⟩ Tryz.underlying9), rfl⟩
def ty242 : TyI := { und := .struct, size := 1, bytes := 16, agg := true, zero := [.string ⟨#[]⟩], flds := [(0, 1)], ints := true }
theorem ty242_ok : TyOK Tryz.prog 242 ty242 where
  und := ⟨_, Tryz.underlying242, rfl⟩
  info := ⟨Tryz.t242, by kernel_rfl, rfl, rfl, _, rfl, rfl⟩
  agg := rfl
  flds := fun fs h => by
    rw [Tryz.underlying242] at h; cases h
    exact ⟨rfl, ⟨Tryz.t9, by kernel_rfl, rfl⟩, trivial⟩
  eqg := fun _ => by kernel_rfl
  ints := fun _ => ints_struct cmp242 (by decide)
def ty254 : TyI := { und := .int .u64, size := 1, bytes := 8, agg := false, zero := [.int .u64 0], flds := [], ints := false }
theorem ty254_ok : TyOK Tryz.prog 254 ty254 where
  und := ⟨_, Tryz.underlying254, rfl⟩
  info := ⟨Tryz.t254, by kernel_rfl, rfl, rfl, _, rfl, rfl⟩
  agg := rfl
  flds := fun fs h => by rw [Tryz.underlying254] at h; cases h
  eqg := fun h => by cases h
  ints := fun h => by cases h
def ty261 : TyI := { und := .array 20 203, size := 20, bytes := 160, agg := true, zero := [.int .u64 0, .int .u64 0, .int .u64 0, .int .u64 0, .int .u64 0, .int .u64 0, .int .u64 0, .int .u64 0, .int .u64 0, .int .u64 0, .int .u64 0, .int .u64 0, .int .u64 0, .int .u64 0, .int .u64 0, .int .u64 0, .int .u64 0, .int .u64 0, .int .u64 0, .int .u64 0], flds := [], ints := false }
theorem ty261_ok : TyOK Tryz.prog 261 ty261 where
  und := ⟨_, Tryz.underlying261, rfl⟩
  info := ⟨Tryz.t261, by kernel_rfl, rfl, rfl, _, rfl, rfl⟩
  agg := rfl
  flds := fun fs h => by rw [Tryz.underlying261] at h; cases h
  eqg := fun h => by cases h
  ints := fun h => by cases h
def ty267 : TyI := { und := .float .f64, size := 1, bytes := 8, agg := false, zero := [.float .f64 0], flds := [], ints := false }
theorem ty267_ok : TyOK Tryz.prog 267 ty267 where
  und := ⟨_, Tryz.underlying267, rfl⟩
  info := ⟨Tryz.t267, by kernel_rfl, rfl, rfl, _, rfl, rfl⟩
  agg := rfl
  flds := fun fs h => by rw [Tryz.underlying267] at h; cases h
  eqg := fun h => by cases h
  ints := fun h => by cases h
theorem cmp271 : CmpT Tryz.prog 2 271 true [.int .u8 0, .int .u8 0] := cmp_struct Tryz.underlying271 (by kernel_rfl) (size_of (ti := Tryz.t271) (by kernel_rfl) rfl) ⟨by decide, rfl, false, [.int .u8 0], [.int .u8 0], rfl, (cmp_int 0 Tryz.underlying5), by decide, rfl, false, [.int .u8 0], [], rfl, (cmp_int 0 Tryz.underlying5), rfl⟩
def ty271 : TyI := { und := .struct, size := 2, bytes := 2, agg := true, zero := [.int .u8 0, .int .u8 0], flds := [(0, 1), (1, 1)], ints := true }
theorem ty271_ok : TyOK Tryz.prog 271 ty271 where
  und := ⟨_, Tryz.underlying271, rfl⟩
  info := ⟨Tryz.t271, by kernel_rfl, rfl, rfl, _, rfl, rfl⟩
  agg := rfl
  flds := fun fs h => by
    rw [Tryz.underlying271] at h; cases h
    exact ⟨rfl, ⟨Tryz.t5, by kernel_rfl, rfl⟩, rfl, ⟨Tryz.t5, by kernel_rfl, rfl⟩, trivial⟩
  eqg := fun _ => by kernel_rfl
  ints := fun _ => ints_struct cmp271 (by decide)
def ty272 : TyI := { und := .array 16 271, size := 32, bytes := 32, agg := true, zero := [.int .u8 0, .int .u8 0, .int .u8 0, .int .u8 0, .int .u8 0, .int .u8 0, .int .u8 0, .int .u8 0, .int .u8 0, .int .u8 0, .int .u8 0, .int .u8 0, .int .u8 0, .int .u8 0, .int .u8 0, .int .u8 0, .int .u8 0, .int .u8 0, .int .u8 0, .int .u8 0, .int .u8 0, .int .u8 0, .int .u8 0, .int .u8 0, .int .u8 0, .int .u8 0, .int .u8 0, .int .u8 0, .int .u8 0, .int .u8 0, .int .u8 0, .int .u8 0], flds := [], ints := false }
theorem ty272_ok : TyOK Tryz.prog 272 ty272 where
  und := ⟨_, Tryz.underlying272, rfl⟩
  info := ⟨Tryz.t272, by kernel_rfl, rfl, rfl, _, rfl, rfl⟩
  agg := rfl
  flds := fun fs h => by rw [Tryz.underlying272] at h; cases h
  eqg := fun h => by cases h
  ints := fun h => by cases h
def ty275 : TyI := { und := .array 32 5, size := 32, bytes := 32, agg := true, zero := [.int .u8 0, .int .u8 0, .int .u8 0, .int .u8 0, .int .u8 0, .int .u8 0, .int .u8 0, .int .u8 0, .int .u8 0, .int .u8 0, .int .u8 0, .int .u8 0, .int .u8 0, .int .u8 0, .int .u8 0, .int .u8 0, .int .u8 0, .int .u8 0, .int .u8 0, .int .u8 0, .int .u8 0, .int .u8 0, .int .u8 0, .int .u8 0, .int .u8 0, .int .u8 0, .int .u8 0, .int .u8 0, .int .u8 0, .int .u8 0, .int .u8 0, .int .u8 0], flds := [], ints := false }
theorem ty275_ok : TyOK Tryz.prog 275 ty275 where
  und := ⟨_, Tryz.underlying275, rfl⟩
  info := ⟨Tryz.t275, by kernel_rfl, rfl, rfl, _, rfl, rfl⟩
  agg := rfl
  flds := fun fs h => by rw [Tryz.underlying275] at h; cases h
  eqg := fun h => by cases h
  ints := fun h => by cases h
def ty276 : TyI := { und := .array 64 5, size := 64, bytes := 64, agg := true, zero := [.int .u8 0, .int .u8 0, .int .u8 0, .int .u8 0, .int .u8 0, .int .u8 0, .int .u8 0, .int .u8 0, .int .u8 0, .int .u8 0, .int .u8 0, .int .u8 0, .int .u8 0, .int .u8 0, .int .u8 0, .int .u8 0, .int .u8 0, .int .u8 0, .int .u8 0, .int .u8 0, .int .u8 0, .int .u8 0, .int .u8 0, .int .u8 0, .int .u8 0, .int .u8 0, .int .u8 0, .int .u8 0, .int .u8 0, .int .u8 0, .int .u8 0, .int .u8 0, .int .u8 0, .int .u8 0, .int .u8 0, .int .u8 0, .int .u8 0, .int .u8 0, .int .u8 0, .int .u8 0, .int .u8 0, .int .u8 0, .int .u8 0, .int .u8 0, .int .u8 0, .int .u8 0, .int .u8 0, .int .u8 0, .int .u8 0, .int .u8 0, .int .u8 0, .int .u8 0, .int .u8 0, .int .u8 0, .int .u8 0, .int .u8 0, .int .u8 0, .int .u8 0, .int .u8 0, .int .u8 0, .int .u8 0, .int .u8 0, .int .u8 0, .int .u8 0], flds := [], ints := false }
theorem ty276_ok : TyOK Tryz.prog 276 ty276 where
  und := ⟨_, Tryz.underlying276, rfl⟩
  info := ⟨Tryz.t276, by kernel_rfl, rfl, rfl, _, rfl, rfl⟩
  agg := rfl
  flds := fun fs h => by rw [Tryz.underlying276] at h; cases h
  eqg := fun h => by cases h
  ints := fun h => by cases h

/-- The table. -/
def tab : List (Nat × TyI) := [(1, ty1), (2, ty2), (3, ty3), (4, ty4), (5, ty5), (6, ty6), (7, ty7), (9, ty9), (21, ty21), (22, ty22), (24, ty24), (27, ty27), (38, ty38), (39, ty39), (41, ty41), (55, ty55), (59, ty59), (64, ty64), (68, ty68), (71, ty71), (78, ty78), (85, ty85), (88, ty88), (90, ty90), (92, ty92), (93, ty93), (95, ty95), (98, ty98), (119, ty119), (135, ty135), (138, ty138), (142, ty142), (144, ty144), (149, ty149), (151, ty151), (155, ty155), (157, ty157), (158, ty158), (160, ty160), (167, ty167), (170, ty170), (184, ty184), (188, ty188), (189, ty189), (192, ty192), (193, ty193), (195, ty195), (196, ty196), (198, ty198), (201, ty201), (203, ty203), (208, ty208), (215, ty215), (217, ty217), (218, ty218), (224, ty224), (233, ty233), (242, ty242), (254, ty254), (261, ty261), (267, ty267), (271, ty271), (272, ty272), (275, ty275), (276, ty276)]
theorem tab_ok : TabOK Tryz.prog tab := ⟨ty1_ok, ty2_ok, ty3_ok, ty4_ok, ty5_ok, ty6_ok, ty7_ok, ty9_ok, ty21_ok, ty22_ok, ty24_ok, ty27_ok, ty38_ok, ty39_ok, ty41_ok, ty55_ok, ty59_ok, ty64_ok, ty68_ok, ty71_ok, ty78_ok, ty85_ok, ty88_ok, ty90_ok, ty92_ok, ty93_ok, ty95_ok, ty98_ok, ty119_ok, ty135_ok, ty138_ok, ty142_ok, ty144_ok, ty149_ok, ty151_ok, ty155_ok, ty157_ok, ty158_ok, ty160_ok, ty167_ok, ty170_ok, ty184_ok, ty188_ok, ty189_ok, ty192_ok, ty193_ok, ty195_ok, ty196_ok, ty198_ok, ty201_ok, ty203_ok, ty208_ok, ty215_ok, ty217_ok, ty218_ok, ty224_ok, ty233_ok, ty242_ok, ty254_ok, ty261_ok, ty267_ok, ty271_ok, ty272_ok, ty275_ok, ty276_ok, trivial⟩
end Go.Proofs.Tryz

/- The data of the program, and how the executor sees it. -/
namespace Go.Ch
open Go Go.Ax Go.Proofs Go.Proofs.Tryz

theorem mix : Tryz.prog.follows .mixedOrders = true := by kernel_rfl

structure Pt where
  x : Int
  y : Int
  deriving DecidableEq, Inhabited
structure Ap where
  x : Int
  y : Int
  half : Int
  level : Int
  run : Int
  deriving DecidableEq, Inhabited
structure Reg where
  name : ByteArray
  kind : Int
  corners : List Pt
  deriving Inhabited
structure Chan where
  name : ByteArray
  axis : List Ap
  over : Int
  buffer : Int
  regions : List Reg
  deriving Inhabited
structure Grid where
  x : Int
  y : Int
  side : Int
  cols : Int
  rows : Int
  levels : List Int
  deriving Inhabited

abbrev dS (s : ByteArray) : DV := .val (.string s)
abbrev vS (s : ByteArray) : AV := .s (.d (dS s))
abbrev pt (p : Pt) : AV := .g [.d (dI p.x), .d (dI p.y)]
abbrev ap (p : Ap) : AV := .g [.d (dI p.x), .d (dI p.y), .d (dI p.half), .d (dI p.level), .d (dI p.run)]
def ptD (p : Pt) : Nat → DV
  | 0 => dI p.x
  | 1 => dI p.y
  | _ => .junk
def apD (p : Ap) : Nat → DV
  | 0 => dI p.x
  | 1 => dI p.y
  | 2 => dI p.half
  | 3 => dI p.level
  | 4 => dI p.run
  | _ => .junk
def ptEl (l : List Pt) : Nat → Nat → DV := fun i => ptD (l.getD i default)
def dPts (l : List Pt) : DV := .slc l.length 2 (ptEl l)
abbrev pts (l : List Pt) : AV := .s (.d (dPts l))
def apEl (l : List Ap) : Nat → Nat → DV := fun i => apD (l.getD i default)
def dAps (l : List Ap) : DV := .slc l.length 5 (apEl l)
def regD (p : Reg) : Nat → DV
  | 0 => dS p.name
  | 1 => dI p.kind
  | 2 => dPts p.corners
  | _ => .junk
abbrev reg (p : Reg) : AV := .g [.d (dS p.name), .d (dI p.kind), .d (dPts p.corners)]
def regEl (l : List Reg) : Nat → Nat → DV := fun i => regD (l.getD i default)
def dRegs (l : List Reg) : DV := .slc l.length 3 (regEl l)
abbrev vRegs (l : List Reg) : AV := .s (.d (dRegs l))
abbrev vAps (l : List Ap) : AV := .s (.d (dAps l))
abbrev chan (c : Chan) : AV := .g [.d (dS c.name), .d (dAps c.axis), .d (dI c.over), .d (dI c.buffer), .d (dRegs c.regions)]
abbrev grid (g : Grid) : AV := .g [.d (dI g.x), .d (dI g.y), .d (dI g.side), .d (dI g.cols), .d (dI g.rows), .d (dInts g.levels)]

theorem natOf {i : Nat} : ((i : Int)).toNat = i := rfl
theorem getD_of {α : Type} [Inhabited α] {l : List α} {i : Nat} (h : i < l.length) {d : α} : l.getD i d = l[i] := by simp [List.getElem?_eq_getElem h]
theorem decT {p : Prop} [Decidable p] (h : decide p = true) : p := of_decide_eq_true h
theorem decF {p : Prop} [Decidable p] (h : decide p = false) : ¬ p := of_decide_eq_false h

/-- What the program computes. -/
def within (n lo hi : Int) : Bool := decide (n ≥ lo) && decide (n ≤ hi)
def cross (a b c : Pt) : Int := w64 (w64 (w64 (b.x - a.x) * w64 (c.y - a.y)) - w64 (w64 (b.y - a.y) * w64 (c.x - a.x)))
def dot (a b c : Pt) : Int := w64 (w64 (w64 (b.x - a.x) * w64 (c.x - a.x)) + w64 (w64 (b.y - a.y) * w64 (c.y - a.y)))
def between (a b p : Pt) : Bool := cross a b p == 0 && within p.x (mm false a.x b.x) (mm true a.x b.x) && within p.y (mm false a.y b.y) (mm true a.y b.y)
def sgn (n : Int) : Int := if n < 0 then -1 else if n > 0 then 1 else 0
def meet (a b c d : Pt) : Bool :=
  (((between a b c || between a b d) || between c d a) || between c d b) || (decide (w64 (sgn (cross a b c) * sgn (cross a b d)) < 0) && decide (w64 (sgn (cross c d a) * sgn (cross c d b)) < 0))
def good (p : Pt) : Bool := within p.x (-1000000) 1000000 && within p.y (-1000000) 1000000
def Ap.pt (a : Ap) : Pt := ⟨a.x, a.y⟩
end Go.Ch

/- What came in: channels, grids. -/
namespace Go.Ch
open Go Go.Ax Go.Proofs Go.Proofs.Tryz
set_option maxRecDepth 100000

abbrev i64ok (n : Int) : Prop := (Lit.int .i64 n).wf = true
theorem rI : Rd Tryz.prog 3 1 (fun n : Int => [.d (dI n)]) i64ok := rd_int Tryz.underlying3 (by kernel_rfl)
theorem rErr : Rd Tryz.prog 27 1 (fun n : Int => [.d (dI n)]) i64ok := rd_int Tryz.underlying27 (by kernel_rfl)
theorem rS : Rd Tryz.prog 9 1 (fun s : ByteArray => [.d (dS s)]) (fun s => s.size ≤ 9223372036854775807) := rd_str Tryz.underlying9 (by kernel_rfl)
def Pt.ok (p : Pt) : Prop := i64ok p.x ∧ i64ok p.y
theorem rPt : Rd Tryz.prog 85 2 (fun p : Pt => [.d (dI p.x), .d (dI p.y)]) Pt.ok :=
  (rd_struct Tryz.underlying85 rfl (by kernel_rfl) (rdf_cons rfl rI (rdf_cons rfl rI rdf_nil))).to (fun a => ⟨a.1, a.2.1⟩) (fun _ => rfl) (fun _ h => ⟨h.1, h.2.1⟩)
def Ap.ok (p : Ap) : Prop := i64ok p.x ∧ i64ok p.y ∧ i64ok p.half ∧ i64ok p.level ∧ i64ok p.run
theorem rAp : Rd Tryz.prog 98 5 (fun p : Ap => [.d (dI p.x), .d (dI p.y), .d (dI p.half), .d (dI p.level), .d (dI p.run)]) Ap.ok :=
  (rd_struct Tryz.underlying98 rfl (by kernel_rfl) (rdf_cons rfl rI (rdf_cons rfl rI (rdf_cons rfl rI (rdf_cons rfl rI (rdf_cons rfl rI rdf_nil)))))).to (fun a => ⟨a.1, a.2.1, a.2.2.1, a.2.2.2.1, a.2.2.2.2.1⟩) (fun _ => rfl) (fun _ h => ⟨h.1, h.2.1, h.2.2.1, h.2.2.2.1, h.2.2.2.2.1⟩)
theorem rPts : Rd Tryz.prog 88 1 (fun l : List Pt => [.d (dPts l)]) (fun l => l.length ≤ 9223372036854775807 ∧ ∀ a ∈ l, a.ok) :=
  rd_slice Tryz.underlying88 (by kernel_rfl) rPt (by decide) ptD (fun _ => rfl) (fun a j hj => by match j, hj with | 0, _ => rfl | 1, _ => rfl)
theorem rAps : Rd Tryz.prog 38 1 (fun l : List Ap => [.d (dAps l)]) (fun l => l.length ≤ 9223372036854775807 ∧ ∀ a ∈ l, a.ok) :=
  rd_slice Tryz.underlying38 (by kernel_rfl) rAp (by decide) apD (fun _ => rfl) (fun a j hj => by match j, hj with | 0, _ => rfl | 1, _ => rfl | 2, _ => rfl | 3, _ => rfl | 4, _ => rfl)
theorem rInts : Rd Tryz.prog 22 1 (fun l : List Int => [.d (dInts l)]) (fun l => l.length ≤ 9223372036854775807 ∧ ∀ a ∈ l, i64ok a) :=
  rd_slice Tryz.underlying22 (by kernel_rfl) rI (by decide) (fun n _ => dI n) (fun _ => rfl) (fun a j hj => by match j, hj with | 0, _ => rfl)
def Reg.ok (p : Reg) : Prop := p.name.size ≤ 9223372036854775807 ∧ i64ok p.kind ∧ p.corners.length ≤ 9223372036854775807 ∧ ∀ a ∈ p.corners, a.ok
theorem rReg : Rd Tryz.prog 90 3 (fun p : Reg => [.d (dS p.name), .d (dI p.kind), .d (dPts p.corners)]) Reg.ok :=
  (rd_struct Tryz.underlying90 rfl (by kernel_rfl) (rdf_cons rfl rS (rdf_cons rfl rI (rdf_cons rfl rPts rdf_nil)))).to (fun a => ⟨a.1, a.2.1, a.2.2.1⟩) (fun _ => rfl) (fun _ h => ⟨h.1, h.2.1, h.2.2.1⟩)
theorem rRegs : Rd Tryz.prog 39 1 (fun l : List Reg => [.d (dRegs l)]) (fun l => l.length ≤ 9223372036854775807 ∧ ∀ a ∈ l, a.ok) :=
  rd_slice Tryz.underlying39 (by kernel_rfl) rReg (by decide) regD (fun _ => rfl) (fun a j hj => by match j, hj with | 0, _ => rfl | 1, _ => rfl | 2, _ => rfl)
structure Chan.ok (c : Chan) : Prop where
  name : c.name.size ≤ 9223372036854775807
  axis : c.axis.length ≤ 9223372036854775807
  aps : ∀ a ∈ c.axis, a.ok
  over : i64ok c.over
  buffer : i64ok c.buffer
  regions : c.regions.length ≤ 9223372036854775807
  regs : ∀ a ∈ c.regions, a.ok
theorem rChan : RdA Tryz.prog 41 chan Chan.ok :=
  rda_agg (k := 5) Tryz.underlying41 ((rd_struct Tryz.underlying41 rfl (by kernel_rfl) (rdf_cons rfl rS (rdf_cons rfl rAps (rdf_cons rfl rI (rdf_cons rfl rI (rdf_cons rfl rRegs rdf_nil)))))).to (fun a => ⟨a.1, a.2.1, a.2.2.1, a.2.2.2.1, a.2.2.2.2.1⟩) (fun _ => rfl)
    (fun _ h => ⟨h.1, h.2.1.1, h.2.1.2, h.2.2.1, h.2.2.2.1, h.2.2.2.2.1.1, h.2.2.2.2.1.2⟩))
structure Grid.ok (g : Grid) : Prop where
  x : i64ok g.x
  y : i64ok g.y
  side : i64ok g.side
  cols : i64ok g.cols
  rows : i64ok g.rows
  levels : g.levels.length ≤ 9223372036854775807
  lev : ∀ a ∈ g.levels, i64ok a
theorem rGrid : RdA Tryz.prog 24 grid Grid.ok :=
  rda_agg (k := 6) Tryz.underlying24 ((rd_struct Tryz.underlying24 rfl (by kernel_rfl) (rdf_cons rfl rI (rdf_cons rfl rI (rdf_cons rfl rI (rdf_cons rfl rI (rdf_cons rfl rI (rdf_cons rfl rInts rdf_nil))))))).to (fun a => ⟨a.1, a.2.1, a.2.2.1, a.2.2.2.1, a.2.2.2.2.1, a.2.2.2.2.2.1⟩) (fun _ => rfl)
    (fun _ h => ⟨h.1, h.2.1, h.2.2.1, h.2.2.2.1, h.2.2.2.2.1, h.2.2.2.2.2.1.1, h.2.2.2.2.2.1.2⟩))
end Go.Ch

/- Texts: bytes, numerals. -/
namespace Go.Ch
open Go Go.Ax Go.Proofs Go.Proofs.Tryz
set_option maxRecDepth 100000
set_option pp.maxSteps 400
set_option maxHeartbeats 1000000

def bs (l : List UInt8) : ByteArray := ⟨l.toArray⟩
abbrev dT (l : List UInt8) : DV := .val (.string (bs l))
abbrev vT (l : List UInt8) : AV := .s (.d (dT l))
theorem bs_size (l : List UInt8) : (bs l).size = l.length := by simp [bs, ByteArray.size]
theorem bs_add (a b : List UInt8) : bs a ++ bs b = bs (a ++ b) := by
  apply ByteArray.ext
  simp [bs, ByteArray.data_append]
theorem bs_extract (l : List UInt8) (i j : Nat) : (bs l).extract i j = bs ((l.take j).drop i) := by
  apply ByteArray.ext
  simp [bs, ByteArray.data_extract, List.drop_take]
theorem bs_toList (l : List UInt8) : (bs l).toList = l := by
  rw [ByteArray.toList_eq]; rfl

open Go.Lib in
theorem nDigits_le : ∀ (n u : Nat), u ≤ n → nDigits u ≤ u / 10 + 2
  | n, u, h => by
    by_cases hu : u < 10
    · rw [nDigits_small hu]; omega
    · rw [nDigits_big hu]
      match n with
      | 0 => omega
      | n + 1 =>
        have := nDigits_le n (u / 10) (by omega)
        omega
def chr10 (d : Nat) : UInt8 := UInt8.ofNat (48 + d)
abbrev tenS : ByteArray := ⟨#[48, 49, 50, 51, 52, 53, 54, 55, 56, 57]⟩
theorem ten_piece : ∀ d : Fin 10, tenS.extract d.val (d.val + 1) = bs [chr10 d.val] := by decide +kernel
theorem bs_beq (l : List UInt8) : ((bs l).toList == (bs []).toList) = l.isEmpty := by
  rw [bs_toList, bs_toList]; cases l <;> rfl
open Go.Lib in
theorem dec_step {u : Nat} (h : ¬ u < 10) : decDigits u = decDigits (u / 10) ++ [chr10 (u % 10)] := by rw [decDigits, dif_neg h]; rfl
open Go.Lib in
theorem dec_one {u : Nat} (h : u < 10) : decDigits u = [chr10 u] := by rw [decDigits, dif_pos h]; rfl
open Go.Lib in
theorem dec_ne (u : Nat) : decDigits u ≠ [] := by
  by_cases h : u < 10
  · rw [dec_one h]; simp
  · rw [dec_step h]; simp
open Go.Lib in
/-- What holds at each step of Decimal. -/
def DecJ (n0 : Int) (q : Int × List UInt8) : Prop := (q.2 ≠ [] ∧ q.1 = 0 ∧ q.2 = decDigits n0.natAbs) ∨ ((q.1 ≠ 0 ∨ q.2 = []) ∧ decDigits q.1.natAbs ++ q.2 = decDigits n0.natAbs ∧ q.1.natAbs ≤ n0.natAbs)
def digD (n : Int) : Int := mm true (n.tmod 10) (w64 (0 - n.tmod 10))
theorem digD_eq (n : Int) : digD n = ((n.natAbs % 10 : Nat) : Int) := by
  have h1 := Int.tmod_add_mul_tdiv n 10
  have h2 := Int.tmod_lt_of_pos n (show (0 : Int) < 10 by decide)
  have h3 : -10 < n.tmod 10 := by
    have := Int.tmod_lt_of_pos (-n) (show (0 : Int) < 10 by decide)
    rw [Int.neg_tmod] at this; omega
  unfold digD
  rw [w64_of (by omega) (by omega)]
  unfold mm
  simp only
  rcases Int.le_total 0 n with h | h
  · rw [Int.tmod_eq_emod_of_nonneg h] at *
    split <;> omega
  · have e : n.tmod 10 = -((-n) % 10) := by rw [← Int.tmod_eq_emod_of_nonneg (by omega : (0 : Int) ≤ -n), Int.neg_tmod, Int.neg_neg]
    rw [e] at *
    split <;> omega
theorem divD_eq (n : Int) : (n.tdiv 10).natAbs = n.natAbs / 10 := by
  rw [Int.natAbs_tdiv]; rfl
open Go.Lib in
theorem Decimal (n : Int) (h0 : -9223372036854775808 < n) (h1 : n ≤ 9223372036854775807) : CallP Tryz.prog 34 [vI n] (vT (itoa n)) := by
  refine callP_of_ex (rc := []) (N := 31) Tryz.func34 rfl rfl Tryz.call34 tab_ok mix rfl rfl (fun cx href => ?_)
  refine And.intro (fun h => ?_) (fun h => ?_)
  · have h : n < 0 := decT h
    refine AW.loopI (fun q : Int × List UInt8 => ⟨[(0, vI q.1), (3, vT [45]), (4, vT q.2)], []⟩) (DecJ n) (fun q => q.1.natAbs + (if q.2 = [] then 1 else 0)) (n, []) (.inr ⟨.inr rfl, by simp, Nat.le_refl _⟩) ?_ ?_
    · exact SubI.of0 href [] rfl trivial ⟨⟨rfl, LeQ.rfl⟩, ⟨rfl, LeQ.rfl⟩, ⟨rfl, LeQ.rfl⟩, trivial⟩
    · rintro ⟨m, s⟩ hJ
      refine ex.sound (rc := []) tab_ok mix href _ ?_
      repeat first | refine sk ?_ | refine st ?_ | refine sg ?_ | refine sh ?_ | refine su ?_ | refine sn1 ?_ | refine sn0 ?_
      refine And.intro (fun h2 => ?_) (fun h2 => ?_)
      · have h2 : (((bs s).toList == (bs []).toList) || (m != 0)) = true := h2
        rw [bs_beq] at h2
        obtain ⟨hd, e, hle⟩ : (m ≠ 0 ∨ s = []) ∧ decDigits m.natAbs ++ s = decDigits n.natAbs ∧ m.natAbs ≤ n.natAbs := by
          rcases hJ with ⟨q1, q2, _⟩ | h
          · exfalso
            simp only at q1 q2
            rw [q2] at h2
            cases s with
            | nil => exact q1 rfl
            | cons _ _ => cases h2
          · exact h
        have hdg := digD_eq m
        have hlen : s.length ≤ n.natAbs / 10 + 2 := by
          have := congrArg List.length e
          rw [List.length_append, decDigits_length n.natAbs] at this
          have := nDigits_le n.natAbs n.natAbs (Nat.le_refl _)
          omega
        have hw : w64 (digD m + 1) = digD m + 1 := w64_of (by omega) (by omega)
        have hp : tenS.extract (digD m).toNat (w64 (digD m + 1)).toNat = bs [chr10 (m.natAbs % 10)] := by
          rw [hw, hdg]
          exact ten_piece ⟨m.natAbs % 10, by omega⟩
        refine oi (by decide) ?_
        refine oi (by decide) ?_
        refine oi ⟨by show 0 ≤ digD m; omega, by show digD m ≤ w64 (digD m + 1); omega, by show w64 (digD m + 1) ≤ 10; omega⟩ ?_
        refine oi (show (tenS.extract (digD m).toNat (w64 (digD m + 1)).toNat).size + (bs s).size ≤ 9223372036854775807 by rw [hp, bs_size, bs_size]; simp; omega) ?_
        refine oi (by decide) ?_
        have hdv := divD_eq m
        have hr : m.tdiv 10 = w64 (m.tdiv 10) := (w64_of (by omega) (by omega)).symm
        refine ⟨(m.tdiv 10, chr10 (m.natAbs % 10) :: s), ?_, ?_, ?_⟩
        · by_cases h10 : m.natAbs < 10
          · left
            refine ⟨by simp, by show m.tdiv 10 = 0; omega, ?_⟩
            show chr10 (m.natAbs % 10) :: s = _
            rw [← e, dec_one h10, Nat.mod_eq_of_lt h10]; rfl
          · right
            refine ⟨.inl (by show m.tdiv 10 ≠ 0; omega), ?_, by show (m.tdiv 10).natAbs ≤ _; omega⟩
            show decDigits (m.tdiv 10).natAbs ++ chr10 (m.natAbs % 10) :: s = _
            rw [← e, dec_step h10, hdv]; simp
        · show (m.tdiv 10).natAbs + (if chr10 (m.natAbs % 10) :: s = [] then 1 else 0) < m.natAbs + (if s = [] then 1 else 0)
          rw [if_neg (by simp), hdv]
          rcases hd with h | h
          · split <;> omega
          · rw [if_pos h]; omega
        · exact SubI.of0 href [] rfl trivial ⟨⟨rfl, LeQ.int hr.symm⟩, ⟨rfl, LeQ.rfl⟩, ⟨rfl, LeQ.of_eq (congrArg (fun x => AV.s (.d (.val (.string x)))) ((congrArg (· ++ bs s) hp).trans (bs_add _ _)))⟩, trivial⟩
      · have h2 : (((bs s).toList == (bs []).toList) || (m != 0)) = false := h2
        rw [bs_beq, Bool.or_eq_false_iff] at h2
        have hs : s = decDigits n.natAbs := by
          rcases hJ with ⟨_, _, q3⟩ | ⟨q1, _, _⟩
          · exact q3
          · exfalso
            simp only at q1
            rcases q1 with q1 | q1
            · have := h2.2; simp at this; exact q1 this
            · rw [q1] at h2; cases h2.1
        have hlen : s.length ≤ n.natAbs / 10 + 2 := by
          rw [hs, decDigits_length]
          exact nDigits_le n.natAbs n.natAbs (Nat.le_refl _)
        refine oi (show (bs [45]).size + (bs s).size ≤ 9223372036854775807 by rw [bs_size, bs_size]; simp; omega) ?_
        refine SubR.of_eq (congrArg (fun x => AV.s (.d (.val (.string x)))) ((bs_add _ _).trans (congrArg bs ?_)))
        rw [hs]
        unfold itoa
        rw [if_pos h]; rfl
  · have h : ¬ n < 0 := decF h
    refine AW.loopI (fun q : Int × List UInt8 => ⟨[(0, vI q.1), (3, vT []), (4, vT q.2)], []⟩) (DecJ n) (fun q => q.1.natAbs + (if q.2 = [] then 1 else 0)) (n, []) (.inr ⟨.inr rfl, by simp, Nat.le_refl _⟩) ?_ ?_
    · exact SubI.of0 href [] rfl trivial ⟨⟨rfl, LeQ.rfl⟩, ⟨rfl, LeQ.rfl⟩, ⟨rfl, LeQ.rfl⟩, trivial⟩
    · rintro ⟨m, s⟩ hJ
      refine ex.sound (rc := []) tab_ok mix href _ ?_
      repeat first | refine sk ?_ | refine st ?_ | refine sg ?_ | refine sh ?_ | refine su ?_ | refine sn1 ?_ | refine sn0 ?_
      refine And.intro (fun h2 => ?_) (fun h2 => ?_)
      · have h2 : (((bs s).toList == (bs []).toList) || (m != 0)) = true := h2
        rw [bs_beq] at h2
        obtain ⟨hd, e, hle⟩ : (m ≠ 0 ∨ s = []) ∧ decDigits m.natAbs ++ s = decDigits n.natAbs ∧ m.natAbs ≤ n.natAbs := by
          rcases hJ with ⟨q1, q2, _⟩ | h
          · exfalso
            simp only at q1 q2
            rw [q2] at h2
            cases s with
            | nil => exact q1 rfl
            | cons _ _ => cases h2
          · exact h
        have hdg := digD_eq m
        have hlen : s.length ≤ n.natAbs / 10 + 2 := by
          have := congrArg List.length e
          rw [List.length_append, decDigits_length n.natAbs] at this
          have := nDigits_le n.natAbs n.natAbs (Nat.le_refl _)
          omega
        have hw : w64 (digD m + 1) = digD m + 1 := w64_of (by omega) (by omega)
        have hp : tenS.extract (digD m).toNat (w64 (digD m + 1)).toNat = bs [chr10 (m.natAbs % 10)] := by
          rw [hw, hdg]
          exact ten_piece ⟨m.natAbs % 10, by omega⟩
        refine oi (by decide) ?_
        refine oi (by decide) ?_
        refine oi ⟨by show 0 ≤ digD m; omega, by show digD m ≤ w64 (digD m + 1); omega, by show w64 (digD m + 1) ≤ 10; omega⟩ ?_
        refine oi (show (tenS.extract (digD m).toNat (w64 (digD m + 1)).toNat).size + (bs s).size ≤ 9223372036854775807 by rw [hp, bs_size, bs_size]; simp; omega) ?_
        refine oi (by decide) ?_
        have hdv := divD_eq m
        have hr : m.tdiv 10 = w64 (m.tdiv 10) := (w64_of (by omega) (by omega)).symm
        refine ⟨(m.tdiv 10, chr10 (m.natAbs % 10) :: s), ?_, ?_, ?_⟩
        · by_cases h10 : m.natAbs < 10
          · left
            refine ⟨by simp, by show m.tdiv 10 = 0; omega, ?_⟩
            show chr10 (m.natAbs % 10) :: s = _
            rw [← e, dec_one h10, Nat.mod_eq_of_lt h10]; rfl
          · right
            refine ⟨.inl (by show m.tdiv 10 ≠ 0; omega), ?_, by show (m.tdiv 10).natAbs ≤ _; omega⟩
            show decDigits (m.tdiv 10).natAbs ++ chr10 (m.natAbs % 10) :: s = _
            rw [← e, dec_step h10, hdv]; simp
        · show (m.tdiv 10).natAbs + (if chr10 (m.natAbs % 10) :: s = [] then 1 else 0) < m.natAbs + (if s = [] then 1 else 0)
          rw [if_neg (by simp), hdv]
          rcases hd with h | h
          · split <;> omega
          · rw [if_pos h]; omega
        · exact SubI.of0 href [] rfl trivial ⟨⟨rfl, LeQ.int hr.symm⟩, ⟨rfl, LeQ.rfl⟩, ⟨rfl, LeQ.of_eq (congrArg (fun x => AV.s (.d (.val (.string x)))) ((congrArg (· ++ bs s) hp).trans (bs_add _ _)))⟩, trivial⟩
      · have h2 : (((bs s).toList == (bs []).toList) || (m != 0)) = false := h2
        rw [bs_beq, Bool.or_eq_false_iff] at h2
        have hs : s = decDigits n.natAbs := by
          rcases hJ with ⟨_, _, q3⟩ | ⟨q1, _, _⟩
          · exact q3
          · exfalso
            simp only at q1
            rcases q1 with q1 | q1
            · have := h2.2; simp at this; exact q1 this
            · rw [q1] at h2; cases h2.1
        have hlen : s.length ≤ n.natAbs / 10 + 2 := by
          rw [hs, decDigits_length]
          exact nDigits_le n.natAbs n.natAbs (Nat.le_refl _)
        refine oi (show (bs []).size + (bs s).size ≤ 9223372036854775807 by rw [bs_size, bs_size]; simp; omega) ?_
        refine SubR.of_eq (congrArg (fun x => AV.s (.d (.val (.string x)))) ((bs_add _ _).trans (congrArg bs ?_)))
        rw [hs]
        unfold itoa
        rw [if_neg h, show n.natAbs = n.toNat by omega]; rfl
end Go.Ch

namespace Go.Ch
open Go Go.Ax Go.Proofs Go.Proofs.Tryz

set_option maxRecDepth 100000
set_option pp.maxSteps 400

theorem Within (n lo hi : Int) : CallP Tryz.prog 29 [vI n, vI lo, vI hi] (vB (within n lo hi)) := by
  refine callP_of_ex (rc := []) (N := 15) Tryz.func29 rfl rfl Tryz.call29 tab_ok mix rfl rfl (fun cx _ => ?_)
  exact ⟨fun h => h, fun h => h, fun h => h, trivial, SubR.refl _⟩
theorem Cross (a b c : Pt) : CallP Tryz.prog 146 [pt a, pt b, pt c] (vI (cross a b c)) := by
  refine callP_of_ex (rc := []) (N := 30) Tryz.func146 rfl rfl Tryz.call146 tab_ok mix rfl rfl (fun cx _ => ?_)
  exact SubR.refl _
theorem gcross (a b c : Pt) : CallP Tryz.prog 213 [pt a, pt b, pt c] (vI (cross a b c)) := by
  refine callP_of_ex (rc := []) (N := 30) Tryz.func213 rfl rfl Tryz.call213 tab_ok mix rfl rfl (fun cx _ => ?_)
  exact SubR.refl _
theorem gdot (a b c : Pt) : CallP Tryz.prog 214 [pt a, pt b, pt c] (vI (dot a b c)) := by
  refine callP_of_ex (rc := []) (N := 30) Tryz.func214 rfl rfl Tryz.call214 tab_ok mix rfl rfl (fun cx _ => ?_)
  exact SubR.refl _
theorem Sign (n : Int) : CallP Tryz.prog 181 [vI n] (vI (sgn n)) := by
  refine callP_of_ex (rc := []) (N := 7) Tryz.func181 rfl rfl Tryz.call181 tab_ok mix rfl rfl (fun cx _ => ?_)
  refine And.intro (fun h => ?_) (fun h => And.intro (fun h' => ?_) (fun h' => ?_))
  · exact SubR.of_eq (by rw [sgn, if_pos (decT h)]; rfl)
  · exact SubR.of_eq (by rw [sgn, if_neg (decF h), if_pos (decT h')]; rfl)
  · exact SubR.of_eq (by rw [sgn, if_neg (decF h), if_neg (decF h')]; rfl)
theorem Orient (a b c : Pt) : CallP Tryz.prog 147 [pt a, pt b, pt c] (vI (sgn (cross a b c))) := by
  refine callP_of_ex (rc := []) (N := 12) Tryz.func147 rfl rfl Tryz.call147 tab_ok mix rfl rfl (fun cx _ => ?_)
  exact callN (Cross a b c) (callN (Sign _) (SubR.refl _))
theorem isNaN (n : Int) : CallP Tryz.prog 192 [vI n] (vB false) := by
  refine callP_of_ex (rc := []) (N := 6) Tryz.func192 rfl rfl Tryz.call192 tab_ok mix rfl rfl (fun cx _ => ?_)
  exact SubR.of_eq (by show vB (n != n) = vB false; simp)
theorem Between (a b p : Pt) : CallP Tryz.prog 124 [pt a, pt b, pt p] (vB (between a b p)) := by
  refine callP_of_ex (rc := []) (N := 42) Tryz.func124 rfl rfl Tryz.call124 tab_ok mix rfl rfl (fun cx _ => ?_)
  refine callN (Cross a b p) ?_
  repeat first | refine sk ?_ | refine st ?_ | refine sg ?_
  refine callG (Within _ _ _) ?_
  repeat first | refine sk ?_ | refine st ?_ | refine sg ?_
  refine callG (Within _ _ _) ?_
  repeat first | refine sk ?_ | refine st ?_ | refine sg ?_
  exact SubR.refl _
theorem Meet (a b c d : Pt) : CallP Tryz.prog 125 [pt a, pt b, pt c, pt d] (vB (meet a b c d)) := by
  refine callP_of_ex (rc := []) (N := 53) Tryz.func125 rfl rfl Tryz.call125 tab_ok mix rfl rfl (fun cx _ => ?_)
  refine callN (Between a b c) ?_
  repeat first | refine sk ?_ | refine st ?_ | refine sg ?_
  refine callG (Between a b d) ?_
  repeat first | refine sk ?_ | refine st ?_ | refine sg ?_
  refine callG (Between c d a) ?_
  repeat first | refine sk ?_ | refine st ?_ | refine sg ?_
  refine callG (Between c d b) ?_
  repeat first | refine sk ?_ | refine st ?_ | refine sg ?_
  refine And.intro (fun h => ?_) (fun h => ?_)
  · exact SubR.lit (by rw [meet, h]; rfl)
  · refine callN (Orient a b c) ?_
    refine callN (Orient a b d) ?_
    repeat first | refine sk ?_ | refine st ?_ | refine sg ?_
    refine callG (Orient c d a) ?_
    repeat first | refine sk ?_ | refine st ?_ | refine sg ?_
    refine callG (Orient c d b) ?_
    repeat first | refine sk ?_ | refine st ?_ | refine sg ?_
    refine And.intro (by kernel_rfl) ?_
    exact SubR.of_eq (by rw [meet, h]; rfl)
theorem on (a b p : Pt) : CallP Tryz.prog 204 [pt a, pt b, pt p] (vB (between a b p)) := by
  refine callP_of_ex (rc := []) (N := 52) Tryz.func204 rfl rfl Tryz.call204 tab_ok mix rfl rfl (fun cx _ => ?_)
  refine callN (gcross a b p) ?_
  repeat first | refine sk ?_ | refine st ?_ | refine sg ?_
  refine SubR.of_eq ?_
  show vB _ = vB _
  simp only [between, within, ge_iff_le, Bool.and_assoc]
theorem Compare (n m : Int) : CallP Tryz.prog 221 [vI n, vI m] (vI (sgn (n - m))) := by
  refine callP_of_ex (rc := []) (N := 20) Tryz.func221 rfl rfl Tryz.call221 tab_ok mix rfl rfl (fun cx _ => ?_)
  refine callN (isNaN n) ?_
  refine callN (isNaN m) ?_
  refine And.intro (fun h => by cases h) (fun _ => And.intro (fun h => by cases h) (fun _ => And.intro (fun h => ?_) (fun h => And.intro (fun h' => ?_) (fun h' => ?_))))
  · have := decT h
    exact SubR.of_eq (by rw [sgn, if_pos (by omega)]; rfl)
  · have := decT h'
    exact SubR.of_eq (by rw [sgn, if_neg (by omega), if_pos (by omega)]; rfl)
  · have := decF h
    have := decF h'
    exact SubR.of_eq (by rw [sgn, if_neg (by omega), if_neg (by omega)]; rfl)
theorem side (a b c : Pt) : CallP Tryz.prog 218 [pt a, pt b, pt c] (vI (sgn (cross a b c))) := by
  refine callP_of_ex (rc := []) (N := 12) Tryz.func218 rfl rfl Tryz.call218 tab_ok mix rfl rfl (fun cx _ => ?_)
  refine callN (gcross a b c) ?_
  refine callN (Compare _ 0) ?_
  exact SubR.of_eq (by show vI _ = vI _; rw [Int.sub_zero])
theorem gout1 (p : Pt) : CallP Tryz.prog 202 [pt p] (vB (!good p)) := by
  refine callP_of_ex (rc := []) (N := 21) Tryz.func202 rfl rfl Tryz.call202 tab_ok mix rfl rfl (fun cx _ => ?_)
  repeat first | refine sk ?_ | refine st ?_ | refine sg ?_
  refine SubR.of_eq ?_
  show vB _ = vB _
  refine congrArg vB ?_
  rw [Bool.eq_iff_iff]
  simp [good, within]
  omega
theorem outside (n lo hi : Int) : CallP Tryz.prog 85 [vI n, vI lo, vI hi] (vB (!within n lo hi)) := by
  refine callP_of_ex (rc := []) (N := 15) Tryz.func85 rfl rfl Tryz.call85 tab_ok mix rfl rfl (fun cx _ => ?_)
  repeat first | refine sk ?_ | refine st ?_ | refine sg ?_
  refine SubR.of_eq ?_
  show vB _ = vB _
  refine congrArg vB ?_
  rw [Bool.eq_iff_iff]
  simp [within]
theorem gmeet (a b c d : Pt) : CallP Tryz.prog 205 [pt a, pt b, pt c, pt d] (vB (meet a b c d)) := by
  refine callP_of_ex (rc := []) (N := 53) Tryz.func205 rfl rfl Tryz.call205 tab_ok mix rfl rfl (fun cx _ => ?_)
  refine callN (on a b c) ?_
  repeat first | refine sk ?_ | refine st ?_ | refine sg ?_
  refine callG (on a b d) ?_
  repeat first | refine sk ?_ | refine st ?_ | refine sg ?_
  refine callG (on c d a) ?_
  repeat first | refine sk ?_ | refine st ?_ | refine sg ?_
  refine callG (on c d b) ?_
  repeat first | refine sk ?_ | refine st ?_ | refine sg ?_
  refine And.intro (fun h => ?_) (fun h => ?_)
  · exact SubR.lit (by rw [meet, h]; rfl)
  · refine callN (side a b c) ?_
    refine callN (side a b d) ?_
    repeat first | refine sk ?_ | refine st ?_ | refine sg ?_
    refine callG (side c d a) ?_
    repeat first | refine sk ?_ | refine st ?_ | refine sg ?_
    refine callG (side c d b) ?_
    repeat first | refine sk ?_ | refine st ?_ | refine sg ?_
    refine And.intro (by kernel_rfl) ?_
    exact SubR.of_eq (by rw [meet, h]; rfl)
theorem place (a : Ap) : CallP Tryz.prog 119 [ap a] (pt a.pt) := by
  refine callP_of_ex (rc := []) (N := 8) Tryz.func119 rfl rfl Tryz.call119 tab_ok mix rfl rfl (fun cx _ => ?_)
  exact SubR.refl _
theorem Place (a : Ap) : CallP Tryz.prog 48 [ap a] (pt a.pt) := by
  refine callP_of_ex (rc := []) (N := 8) Tryz.func48 rfl rfl Tryz.call48 tab_ok mix rfl rfl (fun cx _ => ?_)
  exact SubR.refl _
theorem inRange (p : Pt) : CallP Tryz.prog 79 [pt p] (vB (good p)) := by
  refine callP_of_ex (rc := []) (N := 13) Tryz.func79 rfl rfl Tryz.call79 tab_ok mix rfl rfl (fun cx _ => ?_)
  refine callN (outside _ _ _) ?_
  repeat first | refine sk ?_ | refine st ?_ | refine sg ?_
  refine callG (outside _ _ _) ?_
  repeat first | refine sk ?_ | refine st ?_ | refine sg ?_
  refine SubR.of_eq ?_
  show vB _ = vB _
  simp [good]
theorem Good (p : Pt) : CallP Tryz.prog 47 [pt p] (vB (good p)) := by
  refine callP_of_ex (rc := []) (N := 11) Tryz.func47 rfl rfl Tryz.call47 tab_ok mix rfl rfl (fun cx _ => ?_)
  refine callN (Within _ _ _) ?_
  repeat first | refine sk ?_ | refine st ?_ | refine sg ?_
  refine callG (Within _ _ _) ?_
  repeat first | refine sk ?_ | refine st ?_ | refine sg ?_
  exact SubR.refl _
theorem down (a b : Int) (hb : b ≠ 0) : CallP Tryz.prog 172 [vI a, vI b] (vI (if a.tmod b < 0 then w64 (w64 (a.tdiv b) - 1) else w64 (a.tdiv b))) := by
  refine callP_of_ex (rc := []) (N := 18) Tryz.func172 rfl rfl Tryz.call172 tab_ok mix rfl rfl (fun cx _ => ?_)
  refine ob hb ?_
  refine ob hb ?_
  refine And.intro (by kernel_rfl) ?_
  refine And.intro (fun h => ?_) (fun h => ?_)
  · refine SubR.of_eq ?_
    rw [if_pos (decT h)]; rfl
  · exact SubR.of_eq (by rw [if_neg (decF h)]; rfl)
end Go.Ch

namespace Go.Ch
open Go Go.Ax Go.Proofs Go.Proofs.Tryz
set_option maxRecDepth 100000
set_option pp.maxSteps 400

/-- The level of a part: the number, and whether there is one. -/
def lvl (off half bottom run : Int) : Int × Bool :=
  bif decide (off ≤ half) then (bottom, true) else bif run == 0 then (0, false) else (w64 (bottom + w64 (Int.tdiv (w64 (off - half)) run)), decide (w64 (bottom + w64 (Int.tdiv (w64 (off - half)) run)) ≤ 20000))
abbrev part (off half bottom run : Int) : AV := .g [.d (dI off), .d (dI half), .d (dI bottom), .d (dI run)]
abbrev rIB (r : Int × Bool) : AV := .t [.s (.d (.val (.int .i64 r.1))), .s (.d (.val (.bool r.2)))]
theorem SubR.ib {n m : Int} {b c : Bool} (h : n = m) (k : b = c) : SubR (.t [.s (.d (.val (.int .i64 n))), .s (.d (.lit b))]) (.t [.s (.d (.val (.int .i64 m))), .s (.d (.val (.bool c)))]) := by
  subst h; subst k; exact SubR.t ⟨LeD.refl _, fun _ _ r => r, trivial⟩
theorem level (o h b r : Int) : CallP Tryz.prog 115 [part o h b r] (rIB (lvl o h b r)) := by
  refine callP_of_ex (rc := []) (N := 29) Tryz.func115 rfl rfl Tryz.call115 tab_ok mix rfl rfl (fun cx _ => ?_)
  refine And.intro (fun h => ?_) (fun h => ?_)
  · exact SubR.ib (by rw [lvl, h]; rfl) (by rw [lvl, h]; rfl)
  refine And.intro (fun h' => ?_) (fun h' => ?_)
  · exact SubR.ib (by rw [lvl, h, h']; rfl) (by rw [lvl, h, h']; rfl)
  refine oi (by simpa using h') ?_
  refine And.intro (by kernel_rfl) ?_
  exact SubR.of_eq (by rw [lvl, h, h']; rfl)
def cornerG (g : Grid) (i : Int) : Pt := ⟨w64 (g.x + w64 (i.tmod g.cols * g.side)), w64 (g.y + w64 (w64 (i.tdiv g.cols) * g.side))⟩
def centreG (g : Grid) (i : Int) : Pt := ⟨w64 ((cornerG g i).x + w64 (g.side.tdiv 2)), w64 ((cornerG g i).y + w64 (g.side.tdiv 2))⟩
theorem bcorner (g : Grid) (i : Int) (h : g.cols ≠ 0) : CallP Tryz.prog 216 [grid g, vI i] (pt (cornerG g i)) := by
  refine callP_of_ex (rc := []) (N := 26) Tryz.func216 rfl rfl Tryz.call216 tab_ok mix rfl rfl (fun cx _ => ?_)
  refine oi h ?_
  refine oi h ?_
  refine And.intro (by kernel_rfl) ?_
  refine SubR.of_eq ?_
  rfl
theorem bcentre (g : Grid) (i : Int) (h : g.cols ≠ 0) : CallP Tryz.prog 200 [grid g, vI i] (pt (centreG g i)) := by
  refine callP_of_ex (rc := []) (N := 22) Tryz.func200 rfl rfl Tryz.call200 tab_ok mix rfl rfl (fun cx _ => ?_)
  refine callN (bcorner g i h) ?_
  refine oi (by decide) ?_
  refine oi (by decide) ?_
  refine SubR.of_eq ?_
  rfl
def alike (a b : Grid) : Bool := a.x == b.x && a.y == b.y && a.side == b.side && a.cols == b.cols && a.rows == b.rows
theorem corner (l : List Pt) (i : Nat) (hl : l ≠ []) : CallP Tryz.prog 123 [pts l, vI i] (pt (l.getD (i % l.length) default)) := by
  have hlen : 0 < l.length := List.length_pos_iff.2 hl
  have hm := Nat.mod_lt i hlen
  have e : (i : Int).tmod l.length = ((i % l.length : Nat) : Int) := by
    rw [Int.tmod_eq_emod_of_nonneg (by omega)]; rfl
  refine callP_of_ex (rc := []) (N := 12) Tryz.func123 rfl rfl Tryz.call123 tab_ok mix rfl rfl (fun cx _ => ?_)
  refine oi (by omega) ?_
  refine oi (by rw [e]; exact ⟨by omega, by omega⟩) ?_
  refine SubR.of_eq ?_
  show pt (l.getD ((i : Int).tmod l.length).toNat default) = _
  rw [e]; rfl
theorem gcorner (l : List Pt) (i : Nat) (hl : l ≠ []) : CallP Tryz.prog 203 [pts l, vI i] (pt (l.getD (i % l.length) default)) := by
  have hlen : 0 < l.length := List.length_pos_iff.2 hl
  have hm := Nat.mod_lt i hlen
  have e : (i : Int).tmod l.length = ((i % l.length : Nat) : Int) := by
    rw [Int.tmod_eq_emod_of_nonneg (by omega)]; rfl
  refine callP_of_ex (rc := []) (N := 12) Tryz.func203 rfl rfl Tryz.call203 tab_ok mix rfl rfl (fun cx _ => ?_)
  refine oi (by omega) ?_
  refine oi (by rw [e]; exact ⟨by omega, by omega⟩) ?_
  refine SubR.of_eq ?_
  show pt (l.getD ((i : Int).tmod l.length).toNat default) = _
  rw [e]; rfl
theorem paid1 (a b n : Int) : CallP Tryz.prog 82 [vI a, vI b, vI n] (vI (w64 (a - mm true b n))) := by
  refine callP_of_ex (rc := []) (N := 12) Tryz.func82 rfl rfl Tryz.call82 tab_ok mix rfl rfl (fun cx _ => ?_)
  exact SubR.refl _
theorem over1 (a b n : Int) : CallP Tryz.prog 83 [vI a, vI b, vI n] (vI (w64 (mm false a n - b))) := by
  refine callP_of_ex (rc := []) (N := 12) Tryz.func83 rfl rfl Tryz.call83 tab_ok mix rfl rfl (fun cx _ => ?_)
  exact SubR.refl _
end Go.Ch

namespace Go.Ch
open Go Go.Ax Go.Proofs Go.Proofs.Tryz
set_option maxRecDepth 100000
set_option pp.maxSteps 400
def idxF {α : Type} (p : α → Bool) : List α → Nat → Int
  | [], _ => -1
  | x :: r, k => bif p x then k else idxF p r (k + 1)
theorem idxF_any {α : Type} (p : α → Bool) : ∀ (l : List α) (k : Nat), decide (idxF p l k ≥ 0) = l.any p
  | [], _ => rfl
  | x :: r, k => by
    rw [idxF, List.any_cons]
    cases h : p x with
    | true => simp
    | false => simpa using idxF_any p r (k + 1)
theorem indexFuncI (l : List Int) (hl : l.length ≤ 9223372036854775807) (f k : Nat) (c : Nat → DV) (p : Int → Bool) (hp : ∀ x ∈ l, CallP Tryz.prog f (vI x :: capD c k 0) (vB (p x))) :
    CallP Tryz.prog 105 [vInts l, .s (.d (.clo f k c))] (vI (idxF p l 0)) := by
  refine callP_of_ex (rc := []) (N := 19) Tryz.func105 rfl rfl Tryz.call105 tab_ok mix rfl rfl (fun cx href => ?_)
  refine AW.loop (fun i : Nat => ⟨[(0, vInts l), (1, .s (.d (.clo f k c))), (7, vI l.length), (8, vI i), (4, vI 0)], []⟩) (fun i => i ≤ l.length ∧ idxF p l 0 = idxF p (l.drop i) i) (fun i => l.length - i) 0 ⟨Nat.zero_le _, rfl⟩ ?_ ?_
  · refine Sub.of0 href trivial ⟨⟨rfl, rfl⟩, ⟨rfl, rfl⟩, ⟨rfl, rfl⟩, ⟨rfl, rfl⟩, ⟨rfl, rfl⟩, trivial⟩
  · rintro i ⟨hi, he⟩
    refine ex.sound (rc := []) tab_ok mix href _ ?_
    refine And.intro (fun h => ?_) (fun h => ?_)
    · have h : (i : Int) < l.length := decT h
      have hi' : i < l.length := by omega
      have hd : l.drop i = l[i] :: l.drop (i + 1) := List.drop_eq_getElem_cons hi'
      have hg : l.getD i default = l[i] := getD_of hi'
      refine oi ⟨by omega, by omega⟩ ?_
      refine callN ((hp (l.getD i default) (by rw [hg]; simp)).conv (args' := _) ⟨LeD.refl _, LeAs.capD⟩) ?_
      rw [hd, idxF] at he
      rw [hg]
      refine And.intro (fun h => ?_) (fun h => ?_)
      · refine SubR.of_eq ?_
        rw [he, h]; rfl
      · refine ⟨i + 1, ⟨by omega, ?_⟩, by omega, ?_⟩
        · rw [he, h]; rfl
        · refine Sub.of0 href trivial ⟨⟨rfl, rfl⟩, ⟨rfl, rfl⟩, ⟨rfl, rfl⟩, ⟨rfl, ?_⟩, ⟨rfl, rfl⟩, trivial⟩
          exact congrArg vI (w64_of (by omega) (by omega))
    · have h : ¬ (i : Int) < l.length := decF h
      have hi' : i = l.length := by omega
      subst hi'
      refine SubR.of_eq ?_
      rw [he, List.drop_length]; rfl
theorem containsI (l : List Int) (hl : l.length ≤ 9223372036854775807) (f k : Nat) (c : Nat → DV) (p : Int → Bool) (hp : ∀ x ∈ l, CallP Tryz.prog f (vI x :: capD c k 0) (vB (p x))) :
    CallP Tryz.prog 70 [vInts l, .s (.d (.clo f k c))] (vB (l.any p)) := by
  refine callP_of_ex (rc := []) (N := 9) Tryz.func70 rfl rfl Tryz.call70 tab_ok mix rfl rfl (fun cx href => ?_)
  refine callN (indexFuncI l hl f k c p hp) ?_
  exact SubR.of_eq (congrArg vB (idxF_any p l 0))
theorem indexFuncP (l : List Pt) (hl : l.length ≤ 9223372036854775807) (f k : Nat) (c : Nat → DV) (p : Pt → Bool) (hp : ∀ x ∈ l, CallP Tryz.prog f (pt x :: capD c k 0) (vB (p x))) :
    CallP Tryz.prog 217 [pts l, .s (.d (.clo f k c))] (vI (idxF p l 0)) := by
  refine callP_of_ex (rc := []) (N := 19) Tryz.func217 rfl rfl Tryz.call217 tab_ok mix rfl rfl (fun cx href => ?_)
  refine AW.loop (fun i : Nat => ⟨[(0, pts l), (1, .s (.d (.clo f k c))), (7, vI l.length), (8, vI i), (4, vI 0)], []⟩) (fun i => i ≤ l.length ∧ idxF p l 0 = idxF p (l.drop i) i) (fun i => l.length - i) 0 ⟨Nat.zero_le _, rfl⟩ ?_ ?_
  · refine Sub.of0 href trivial ⟨⟨rfl, rfl⟩, ⟨rfl, rfl⟩, ⟨rfl, rfl⟩, ⟨rfl, rfl⟩, ⟨rfl, rfl⟩, trivial⟩
  · rintro i ⟨hi, he⟩
    refine ex.sound (rc := []) tab_ok mix href _ ?_
    refine And.intro (fun h => ?_) (fun h => ?_)
    · have h : (i : Int) < l.length := decT h
      have hi' : i < l.length := by omega
      have hd : l.drop i = l[i] :: l.drop (i + 1) := List.drop_eq_getElem_cons hi'
      have hg : l.getD i default = l[i] := getD_of hi'
      refine oi ⟨by omega, by omega⟩ ?_
      refine callN ((hp (l.getD i default) (by rw [hg]; simp)).conv (args' := _) ⟨⟨LeD.refl _, LeD.refl _, trivial⟩, LeAs.capD⟩) ?_
      rw [hd, idxF] at he
      rw [hg]
      refine And.intro (fun h => ?_) (fun h => ?_)
      · refine SubR.of_eq ?_
        rw [he, h]; rfl
      · refine ⟨i + 1, ⟨by omega, ?_⟩, by omega, ?_⟩
        · rw [he, h]; rfl
        · refine Sub.of0 href trivial ⟨⟨rfl, rfl⟩, ⟨rfl, rfl⟩, ⟨rfl, rfl⟩, ⟨rfl, ?_⟩, ⟨rfl, rfl⟩, trivial⟩
          exact congrArg vI (w64_of (by omega) (by omega))
    · have h : ¬ (i : Int) < l.length := decF h
      have hi' : i = l.length := by omega
      subst hi'
      refine SubR.of_eq ?_
      rw [he, List.drop_length]; rfl
theorem containsP (l : List Pt) (hl : l.length ≤ 9223372036854775807) (f k : Nat) (c : Nat → DV) (p : Pt → Bool) (hp : ∀ x ∈ l, CallP Tryz.prog f (pt x :: capD c k 0) (vB (p x))) :
    CallP Tryz.prog 201 [pts l, .s (.d (.clo f k c))] (vB (l.any p)) := by
  refine callP_of_ex (rc := []) (N := 9) Tryz.func201 rfl rfl Tryz.call201 tab_ok mix rfl rfl (fun cx href => ?_)
  refine callN (indexFuncP l hl f k c p hp) ?_
  exact SubR.of_eq (congrArg vB (idxF_any p l 0))
theorem indexFuncR (l : List Reg) (hl : l.length ≤ 9223372036854775807) (f k : Nat) (c : Nat → DV) (p : Reg → Bool) (hp : ∀ x ∈ l, CallP Tryz.prog f (reg x :: capD c k 0) (vB (p x))) :
    CallP Tryz.prog 144 [vRegs l, .s (.d (.clo f k c))] (vI (idxF p l 0)) := by
  refine callP_of_ex (rc := []) (N := 19) Tryz.func144 rfl rfl Tryz.call144 tab_ok mix rfl rfl (fun cx href => ?_)
  refine AW.loop (fun i : Nat => ⟨[(0, vRegs l), (1, .s (.d (.clo f k c))), (7, vI l.length), (8, vI i), (4, vI 0)], []⟩) (fun i => i ≤ l.length ∧ idxF p l 0 = idxF p (l.drop i) i) (fun i => l.length - i) 0 ⟨Nat.zero_le _, rfl⟩ ?_ ?_
  · refine Sub.of0 href trivial ⟨⟨rfl, rfl⟩, ⟨rfl, rfl⟩, ⟨rfl, rfl⟩, ⟨rfl, rfl⟩, ⟨rfl, rfl⟩, trivial⟩
  · rintro i ⟨hi, he⟩
    refine ex.sound (rc := []) tab_ok mix href _ ?_
    refine And.intro (fun h => ?_) (fun h => ?_)
    · have h : (i : Int) < l.length := decT h
      have hi' : i < l.length := by omega
      have hd : l.drop i = l[i] :: l.drop (i + 1) := List.drop_eq_getElem_cons hi'
      have hg : l.getD i default = l[i] := getD_of hi'
      refine oi ⟨by omega, by omega⟩ ?_
      refine callN ((hp (l.getD i default) (by rw [hg]; simp)).conv (args' := _) ⟨⟨LeD.refl _, LeD.refl _, LeD.refl _, trivial⟩, LeAs.capD⟩) ?_
      rw [hd, idxF] at he
      rw [hg]
      refine And.intro (fun h => ?_) (fun h => ?_)
      · refine SubR.of_eq ?_
        rw [he, h]; rfl
      · refine ⟨i + 1, ⟨by omega, ?_⟩, by omega, ?_⟩
        · rw [he, h]; rfl
        · refine Sub.of0 href trivial ⟨⟨rfl, rfl⟩, ⟨rfl, rfl⟩, ⟨rfl, rfl⟩, ⟨rfl, ?_⟩, ⟨rfl, rfl⟩, trivial⟩
          exact congrArg vI (w64_of (by omega) (by omega))
    · have h : ¬ (i : Int) < l.length := decF h
      have hi' : i = l.length := by omega
      subst hi'
      refine SubR.of_eq ?_
      rw [he, List.drop_length]; rfl
theorem containsR (l : List Reg) (hl : l.length ≤ 9223372036854775807) (f k : Nat) (c : Nat → DV) (p : Reg → Bool) (hp : ∀ x ∈ l, CallP Tryz.prog f (reg x :: capD c k 0) (vB (p x))) :
    CallP Tryz.prog 120 [vRegs l, .s (.d (.clo f k c))] (vB (l.any p)) := by
  refine callP_of_ex (rc := []) (N := 9) Tryz.func120 rfl rfl Tryz.call120 tab_ok mix rfl rfl (fun cx href => ?_)
  refine callN (indexFuncR l hl f k c p hp) ?_
  exact SubR.of_eq (congrArg vB (idxF_any p l 0))
end Go.Ch

namespace Go.Ch
open Go Go.Ax Go.Proofs Go.Proofs.Tryz
set_option maxRecDepth 100000
set_option pp.maxSteps 400

theorem bbetween1 (n lo hi : Int) (f g : Nat → DV) (hf : f 0 = dI lo) (hg : g 0 = dI hi) : CallP Tryz.prog 104 [vI n, .s (.d (.rp 1 f)), .s (.d (.rp 1 g))] (vB (!within n lo hi)) := by
  have h1 : LeAs [vI n, .s (.d (.rp 1 f)), .s (.d (.rp 1 g))] [vI n, .s (.d (.rp 1 fun _ => dI lo)), .s (.d (.rp 1 fun _ => dI hi))] :=
    ⟨LeD.refl _, LeD.rp fun j hj => LeD.of_eq (by rw [show j = 0 by omega]; exact hf), LeD.rp fun j hj => LeD.of_eq (by rw [show j = 0 by omega]; exact hg), trivial⟩
  refine CallP.conv ?_ h1
  refine callP_of_ex (rc := []) (N := 13) Tryz.func104 rfl rfl Tryz.call104 tab_ok mix rfl rfl (fun cx _ => ?_)
  repeat first | refine sk ?_ | refine st ?_ | refine sg ?_
  refine SubR.of_eq ?_
  show vB _ = vB _
  refine congrArg vB ?_
  rw [Bool.eq_iff_iff]
  simp [within]
def outL (lo hi : Int) (l : List Int) : Bool := l.any fun n => !within n lo hi
theorem bbetween (lo hi : Int) (l : List Int) (hl : l.length ≤ 9223372036854775807) : CallP Tryz.prog 69 [vI lo, vI hi, vInts l] (vB (!outL lo hi l)) := by
  refine callP_of_ex (rc := []) (N := 11) Tryz.func69 rfl rfl Tryz.call69 tab_ok mix rfl rfl (fun cx _ => ?_)
  refine callN (containsI l hl 104 2 _ (fun n => !within n lo hi) (fun x _ => bbetween1 x lo hi _ _ rfl rfl)) ?_
  exact SubR.refl _
theorem isLevel (n : Int) : CallP Tryz.prog 72 [vI n] (vB (within n (-20000) 20000)) := by
  refine callP_of_ex (rc := []) (N := 6) Tryz.func72 rfl rfl Tryz.call72 tab_ok mix rfl rfl (fun cx _ => ?_)
  refine callN ((bbetween (-20000) 20000 [n] (by simp)).conv (args' := _) ⟨LeD.refl _, LeD.refl _, LeD.slc fun i j hi hj => ?_, trivial⟩) ?_
  · have : i = 0 := by have : i < 1 := hi; omega
    have : j = 0 := by have : j < 1 := hj; omega
    subst i j; exact LeD.refl _
  exact SubR.of_eq (by show vB _ = vB _; simp [outL])
def badL (n : Int) : Bool := n != 30000 && !within n (-20000) 20000
theorem bcheck1 (n : Int) : CallP Tryz.prog 71 [vI n] (vB (badL n)) := by
  refine callP_of_ex (rc := []) (N := 10) Tryz.func71 rfl rfl Tryz.call71 tab_ok mix rfl rfl (fun cx _ => ?_)
  repeat first | refine sk ?_ | refine st ?_ | refine sg ?_
  refine callG (isLevel n) ?_
  repeat first | refine sk ?_ | refine st ?_ | refine sg ?_
  exact SubR.refl _
def e1 (g : Grid) : Bool := !(within g.x (-1000000) 1000000) || !(within g.y (-1000000) 1000000) || !(within g.side 100 10000) || !(within g.cols 1 1024) || !(within g.rows 1 1024)
def errG (g : Grid) : Int :=
  bif e1 g then 2
  else bif decide (w64 (g.cols * g.rows) > 1024) then 8
  else bif decide (w64 (g.x + w64 (g.cols * g.side)) > 1000000) || decide (w64 (g.y + w64 (g.rows * g.side)) > 1000000) then 2
  else bif (g.levels.length : Int) != w64 (g.cols * g.rows) then 10
  else bif g.levels.any badL then 2 else 0
theorem bcheck (g : Grid) (hl : g.levels.length ≤ 9223372036854775807) : CallP Tryz.prog 27 [grid g] (vI (errG g)) := by
  refine callP_of_ex (rc := []) (N := 69) Tryz.func27 rfl rfl Tryz.call27 tab_ok mix rfl rfl (fun cx _ => ?_)
  have two : ∀ (a b : Int) (f : Nat → Nat → DV) (h0 : f 0 0 = dI a) (h1 : f 1 0 = dI b), LeD (.slc 2 1 f) (dInts [a, b]) := by
    intro a b f h0 h1
    refine LeD.slc fun i j hi hj => ?_
    have : j = 0 := by omega
    subst j
    match i, hi with
    | 0, _ => exact LeD.of_eq h0
    | 1, _ => exact LeD.of_eq h1
  have one : ∀ (a : Int) (f : Nat → Nat → DV) (h0 : f 0 0 = dI a), LeD (.slc 1 1 f) (dInts [a]) := by
    intro a f h0
    refine LeD.slc fun i j hi hj => ?_
    have : j = 0 := by omega
    have : i = 0 := by omega
    subst i j
    exact LeD.of_eq h0
  refine callN ((bbetween (-1000000) 1000000 [g.x, g.y] (by simp)).conv (args' := _) ⟨LeD.refl _, LeD.refl _, two _ _ _ rfl rfl, trivial⟩) ?_
  repeat first | refine sk ?_ | refine st ?_ | refine sg ?_
  refine And.intro (fun h1 => ?_) (fun h1 => ?_)
  · refine ob (by rw [h1]; rfl) ?_
    refine callN ((bbetween 100 10000 [g.side] (by simp)).conv (args' := _) ⟨LeD.refl _, LeD.refl _, one _ _ rfl, trivial⟩) ?_
    repeat first | refine sk ?_ | refine st ?_ | refine sg ?_
    refine And.intro (fun h2 => ?_) (fun h2 => ?_)
    · skip
      refine ob (by rw [h2]; rfl) ?_
      refine ob (by rw [h2]; rfl) ?_
      refine callN ((bbetween 1 1024 [g.cols, g.rows] (by simp)).conv (args' := _) ⟨LeD.refl _, LeD.refl _, two _ _ _ rfl rfl, trivial⟩) ?_
      refine And.intro (fun h3 => ?_) (fun h3 => ?_)
      · exact SubR.of_eq (by rw [errG, show e1 g = true by simp [outL] at h1 h2 h3; simp [e1, h1, h2, h3]]; rfl)
      have he : e1 g = false := by simp [outL] at h1 h2 h3; simp [e1, h1, h2, h3]
      refine And.intro (fun h4 => ?_) (fun h4 => ?_)
      · exact SubR.of_eq (by rw [errG, he, h4]; rfl)
      repeat first | refine sk ?_ | refine st ?_ | refine sg ?_
      refine And.intro (fun h5 => ?_) (fun h5 => ?_)
      · exact SubR.of_eq (by rw [errG, he, h4, h5]; rfl)
      refine And.intro (fun h6 => ?_) (fun h6 => ?_)
      · exact SubR.of_eq (by rw [errG, he, h4, h5, h6]; rfl)
      refine callN ((containsI g.levels hl 71 0 (fun _ => .junk) badL (fun x _ => bcheck1 x)).conv (args' := _) ⟨LeD.refl _, LeD.clo fun j hj => absurd hj (Nat.not_lt_zero j), trivial⟩) ?_
      refine And.intro (fun h7 => ?_) (fun h7 => ?_)
      · exact SubR.of_eq (by rw [errG, he, h4, h5, h6, h7]; rfl)
      · exact SubR.of_eq (by rw [errG, he, h4, h5, h6, h7]; rfl)
    · exact SubR.of_eq (by rw [errG, show e1 g = true by simp [outL] at h1 h2; simp [e1, h1, h2]]; rfl)
  · exact SubR.of_eq (by rw [errG, show e1 g = true by simp [outL] at h1; simp [e1, h1]]; rfl)
theorem Leveled (n : Int) : CallP Tryz.prog 30 [vI n] (vB (within n (-20000) 20000)) := by
  refine callP_of_ex (rc := []) (N := 5) Tryz.func30 rfl rfl Tryz.call30 tab_ok mix rfl rfl (fun cx _ => ?_)
  refine callN (Within _ _ _) ?_
  exact SubR.refl _
theorem RCheck (g : Grid) (hl : g.levels.length ≤ 9223372036854775807) : CallP Tryz.prog 8 [grid g] (vI (errG g)) := by
  refine callP_of_ex (rc := []) (N := 89) Tryz.func8 rfl rfl Tryz.call8 tab_ok mix rfl rfl (fun cx _ => ?_)
  refine callN (Within _ _ _) ?_
  repeat first | refine sk ?_ | refine st ?_ | refine sg ?_
  refine callG (Within _ _ _) ?_
  repeat first | refine sk ?_ | refine st ?_ | refine sg ?_
  refine callG (Within _ _ _) ?_
  repeat first | refine sk ?_ | refine st ?_ | refine sg ?_
  refine callG (Within _ _ _) ?_
  repeat first | refine sk ?_ | refine st ?_ | refine sg ?_
  refine callG (Within _ _ _) ?_
  repeat first | refine sk ?_ | refine st ?_ | refine sg ?_
  refine And.intro (fun h => ?_) (fun h => ?_)
  · exact SubR.of_eq (by rw [errG, e1, h]; rfl)
  refine And.intro (fun h2 => ?_) (fun h2 => ?_)
  · exact SubR.of_eq (by rw [errG, e1, h, h2]; rfl)
  repeat first | refine sk ?_ | refine st ?_ | refine sg ?_
  refine And.intro (fun h3 => ?_) (fun h3 => ?_)
  · exact SubR.of_eq (by rw [errG, e1, h, h2, h3]; rfl)
  refine And.intro (fun h4 => ?_) (fun h4 => ?_)
  · exact SubR.of_eq (by rw [errG, e1, h, h2, h3, h4]; rfl)
  refine AW.loop (fun i : Nat => ⟨[(1, .s (.ptr 1 0)), (3, vI i)], [(1, some (.cells [.d (dI g.x), .d (dI g.y), .d (dI g.side), .d (dI g.cols), .d (dI g.rows), .d (dInts g.levels)]))]⟩) (fun i => i ≤ g.levels.length ∧ g.levels.any badL = (g.levels.drop i).any badL) (fun i => g.levels.length - i) 0 ⟨Nat.zero_le _, rfl⟩ ?_ ?_
  · refine Sub.of0 (by assumption) ⟨⟨rfl, rfl⟩, trivial⟩ ⟨⟨rfl, rfl⟩, ⟨rfl, rfl⟩, trivial⟩
  · rintro i ⟨hi, hj⟩
    refine ex.sound (rc := []) tab_ok mix (by assumption) _ ?_
    refine And.intro (fun h5 => ?_) (fun h5 => ?_)
    · have h5 : (i : Int) < g.levels.length := decT h5
      have hi' : i < g.levels.length := by omega
      have hd : g.levels.drop i = g.levels[i] :: g.levels.drop (i + 1) := List.drop_eq_getElem_cons hi'
      have hg : g.levels.getD i 0 = g.levels[i] := getD_of hi'
      refine oi ⟨by omega, by omega⟩ ?_
      repeat first | refine sk ?_ | refine st ?_ | refine sg ?_
      refine oi ?_ ?_
      · exact fun _ => ⟨by omega, by omega⟩
      repeat first | refine sk ?_ | refine st ?_ | refine sg ?_
      refine callG (Leveled _) ?_
      repeat first | refine sk ?_ | refine st ?_ | refine sg ?_
      rw [hd, List.any_cons] at hj
      refine And.intro (fun h6 => ?_) (fun h6 => ?_)
      · have h6 : badL g.levels[i] = true := hg ▸ h6
        refine SubR.of_eq ?_
        rw [errG, e1, h, h2, h3, h4, hj, h6]; rfl
      · have h6 : badL g.levels[i] = false := hg ▸ h6
        refine ⟨i + 1, ⟨by omega, by rw [hj, h6]; rfl⟩, by omega, ?_⟩
        refine Sub.of0 (by assumption) ⟨⟨rfl, rfl⟩, trivial⟩ ⟨⟨rfl, rfl⟩, ⟨rfl, ?_⟩, trivial⟩
        exact congrArg vI (w64_of (by omega) (by omega))
    · have h5 : ¬ (i : Int) < g.levels.length := decF h5
      have hi' : i = g.levels.length := by omega
      refine SubR.of_eq ?_
      rw [errG, e1, h, h2, h3, h4, hj, hi', List.drop_length]; rfl
end Go.Ch

namespace Go.Ch
open Go Go.Ax Go.Proofs Go.Proofs.Tryz
set_option maxRecDepth 100000
set_option pp.maxSteps 400

theorem errG_cols {g : Grid} (h : errG g = 0) : 1 ≤ g.cols ∧ g.cols ≤ 1024 := by
  cases he : e1 g with
  | true => rw [errG, he] at h; cases h
  | false =>
    simp [e1, within] at he
    omega
theorem bhas (g : Grid) (i : Int) (he : errG g = 0) (h0 : 0 ≤ i) (hi : i < g.levels.length) (hl : g.levels.length ≤ 9223372036854775807) : CallP Tryz.prog 99 [grid g, vI i] (vI 0) := by
  refine callP_of_ex (rc := []) (N := 19) Tryz.func99 rfl rfl Tryz.call99 tab_ok mix rfl rfl (fun cx _ => ?_)
  refine callN (bcheck g hl) ?_
  refine And.intro (fun h => ?_) (fun h => ?_)
  · rw [he] at h; cases h
  refine callN ((bbetween 0 (w64 (g.levels.length - 1)) [i] (by simp)).conv (args' := _) ⟨LeD.refl _, LeD.refl _, LeD.slc fun i j hi hj => ?_, trivial⟩) ?_
  · have : i = 0 := by have : i < 1 := hi; omega
    have : j = 0 := by have : j < 1 := hj; omega
    subst i j; exact LeD.refl _
  refine And.intro (fun h => ?_) (fun h => ?_)
  · rw [w64_of (by omega) (by omega)] at h
    simp [outL, within] at h
    omega
  · exact SubR.of_eq rfl
theorem bCentre (g : Grid) (i : Int) (he : errG g = 0) (h0 : 0 ≤ i) (hi : i < g.levels.length) (hl : g.levels.length ≤ 9223372036854775807) : CallP Tryz.prog 174 [grid g, vI i] (.t [.g [.d (dI (centreG g i).x), .d (dI (centreG g i).y)], .s (.d (dI 0))]) := by
  refine callP_of_ex (rc := []) (N := 17) Tryz.func174 rfl rfl Tryz.call174 tab_ok mix rfl rfl (fun cx _ => ?_)
  refine callN (bhas g i he h0 hi hl) ?_
  refine And.intro (fun h => by cases h) (fun _ => ?_)
  refine callN (bcentre g i (by have := errG_cols he; omega)) ?_
  exact SubR.of_eq rfl
theorem ccentre (g : Grid) (i : Int) (he : errG g = 0) (h0 : 0 ≤ i) (hi : i < g.levels.length) (hl : g.levels.length ≤ 9223372036854775807) : CallP Tryz.prog 143 [grid g, vI i] (pt (centreG g i)) := by
  refine callP_of_ex (rc := []) (N := 14) Tryz.func143 rfl rfl Tryz.call143 tab_ok mix rfl rfl (fun cx _ => ?_)
  refine callN (bCentre g i he h0 hi hl) ?_
  exact SubR.of_eq rfl
def few (g : Grid) : Bool := (decide ((g.levels.length : Int) ≤ 40) && ((decide (g.cols ≤ 40) && decide (g.rows ≤ 40)) || (g.levels.length : Int) != w64 (g.cols * g.rows))) || (decide ((g.levels.length : Int) ≤ 1100) && errG g != 0)
attribute [local irreducible] errG in
theorem Few (g : Grid) (hl : g.levels.length ≤ 9223372036854775807) : CallP Tryz.prog 6 [grid g] (vB (few g)) := by
  refine callP_of_ex (rc := []) (N := 39) Tryz.func6 rfl rfl Tryz.call6 tab_ok mix rfl rfl (fun cx _ => ?_)
  repeat first | refine sk ?_ | refine st ?_ | refine sg ?_ | refine sh ?_ | refine su ?_ | refine sn1 ?_ | refine sn0 ?_
  refine callG (RCheck g hl) ?_
  repeat first | refine sk ?_ | refine st ?_ | refine sg ?_ | refine sh ?_ | refine su ?_ | refine sn1 ?_ | refine sn0 ?_
  exact SubR.of_eq (by show vB _ = vB _; rw [few])
end Go.Ch

namespace Go.Ch
open Go Go.Ax Go.Proofs Go.Proofs.Tryz
set_option maxRecDepth 100000
set_option pp.maxSteps 400

def u8 (s : ByteArray) (i : Nat) : Int := (s[i]!.toNat : Int)
def letter (c : Int) : Bool := (decide (c ≥ 97) && decide (c ≤ 122)) || (decide (c ≥ 65) && decide (c ≤ 90))
def badC (i : Int) (c : Int) : Bool := !letter c && (i == 0 || !((decide (c ≥ 48) && decide (c ≤ 57)) || c == 45))
theorem badC_eq (i c : Int) : (!letter c && (i == 0 || (c != 45 && (decide (c < 48) || decide (c > 57))))) = badC i c := by
  rw [badC, Bool.eq_iff_iff]
  simp
  intro _
  omega
def badFrom (s : ByteArray) : Nat → Nat → Bool
  | 0, _ => false
  | n + 1, i => badC i (u8 s i) || badFrom s n (i + 1)
def isName (s : ByteArray) : Bool := !(decide ((s.size : Int) < 1) || decide ((s.size : Int) > 12)) && !badFrom s s.size 0
theorem isName' (s : ByteArray) : isName s = (!(s.toList == (ByteArray.mk #[]).toList || decide ((s.size : Int) > 12)) && !badFrom s s.size 0) := by
  have : decide ((s.size : Int) < 1) = (s.toList == (ByteArray.mk #[]).toList) := by
    rw [Bool.eq_iff_iff]
    rw [show ((s.toList == (ByteArray.mk #[]).toList) = true) = (s.data.toList = []) by rw [ByteArray.toList_eq, ByteArray.toList_eq]; simp]
    have h1 : s.size = s.data.toList.length := by show s.data.size = _; simp
    rw [← List.length_eq_zero_iff, ← h1]
    rw [decide_eq_true_iff]
    omega
  rw [isName, this]
theorem named (s : ByteArray) (hl : s.size ≤ 9223372036854775807) : CallP Tryz.prog 84 [vS s] (vB (isName s)) := by
  refine callP_of_ex (rc := []) (N := 57) Tryz.func84 rfl rfl Tryz.call84 tab_ok mix rfl rfl (fun cx href => ?_)
  repeat first | refine sk ?_ | refine st ?_ | refine sg ?_ | refine sh ?_ | refine su ?_ | refine sn1 ?_ | refine sn0 ?_
  refine And.intro (fun h => ?_) (fun h => ?_)
  · exact SubR.lit (by rw [isName', h]; rfl)
  refine AW.loop (fun i : Nat => ⟨[(0, vS s), (15, vI s.size), (16, vI i), (2, .s (.d (.lit false)))], []⟩) (fun i => i ≤ s.size ∧ badFrom s s.size 0 = badFrom s (s.size - i) i) (fun i => s.size - i) 0 ⟨Nat.zero_le _, rfl⟩ ?_ ?_
  · refine Sub.of0 href trivial ⟨⟨rfl, rfl⟩, ⟨rfl, rfl⟩, ⟨rfl, rfl⟩, ⟨rfl, rfl⟩, trivial⟩
  · rintro i ⟨hi, hj⟩
    refine ex.sound (rc := []) tab_ok mix href _ ?_
    refine And.intro (fun h5 => ?_) (fun h5 => ?_)
    · have h5 : (i : Int) < s.size := decT h5
      rw [show s.size - i = (s.size - (i + 1)) + 1 by omega, badFrom] at hj
      refine oi ⟨by omega, by omega⟩ ?_
      repeat first | refine sk ?_ | refine st ?_ | refine sg ?_ | refine sh ?_ | refine su ?_ | refine sn1 ?_ | refine sn0 ?_
      refine And.intro (fun h6 => ?_) (fun h6 => ?_)
      · have h6 : badC i (u8 s i) = true := h6
        exact SubR.lit (by rw [isName', h, hj, h6]; rfl)
      · have h6 : badC i (u8 s i) = false := h6
        refine ⟨i + 1, ⟨by omega, by rw [hj, h6]; rfl⟩, by omega, ?_⟩
        refine Sub.of0 href trivial ⟨⟨rfl, rfl⟩, ⟨rfl, rfl⟩, ⟨rfl, ?_⟩, ⟨rfl, rfl⟩, trivial⟩
        exact congrArg vI (w64_of (by omega) (by omega))
    · have h5 : ¬ (i : Int) < s.size := decF h5
      have hi' : i = s.size := by omega
      exact SubR.lit (by rw [isName', h, hj, hi', Nat.sub_self]; rfl)
theorem IsName (s : ByteArray) (hl : s.size ≤ 9223372036854775807) : CallP Tryz.prog 46 [vS s] (vB (isName s)) := by
  refine callP_of_ex (rc := []) (N := 55) Tryz.func46 rfl rfl Tryz.call46 tab_ok mix rfl rfl (fun cx href => ?_)
  repeat first | refine sk ?_ | refine st ?_ | refine sg ?_ | refine sh ?_ | refine su ?_ | refine sn1 ?_ | refine sn0 ?_
  refine And.intro (fun h => ?_) (fun h => ?_)
  · exact SubR.lit (by rw [isName, h]; rfl)
  refine AW.loop (fun i : Nat => ⟨[(0, vS s), (3, vI i), (2, .s (.d (.lit false)))], []⟩) (fun i => i ≤ s.size ∧ badFrom s s.size 0 = badFrom s (s.size - i) i) (fun i => s.size - i) 0 ⟨Nat.zero_le _, rfl⟩ ?_ ?_
  · refine Sub.of0 href trivial ⟨⟨rfl, rfl⟩, ⟨rfl, rfl⟩, ⟨rfl, rfl⟩, trivial⟩
  · rintro i ⟨hi, hj⟩
    refine ex.sound (rc := []) tab_ok mix href _ ?_
    refine And.intro (fun h5 => ?_) (fun h5 => ?_)
    · have h5 : (i : Int) < s.size := decT h5
      rw [show s.size - i = (s.size - (i + 1)) + 1 by omega, badFrom] at hj
      refine oi ⟨by omega, by omega⟩ ?_
      repeat first | refine sk ?_ | refine st ?_ | refine sg ?_ | refine sh ?_ | refine su ?_ | refine sn1 ?_ | refine sn0 ?_
      refine And.intro (fun h6 => ?_) (fun h6 => ?_)
      · have h6 : badC i (u8 s i) = true := (badC_eq i (u8 s i)).symm.trans h6
        exact SubR.lit (by rw [isName, h, hj, h6]; rfl)
      · have h6 : badC i (u8 s i) = false := (badC_eq i (u8 s i)).symm.trans h6
        refine ⟨i + 1, ⟨by omega, by rw [hj, h6]; rfl⟩, by omega, ?_⟩
        refine Sub.of0 href trivial ⟨⟨rfl, rfl⟩, ⟨rfl, ?_⟩, ⟨rfl, rfl⟩, trivial⟩
        exact congrArg vI (w64_of (by omega) (by omega))
    · have h5 : ¬ (i : Int) < s.size := decF h5
      have hi' : i = s.size := by omega
      exact SubR.lit (by rw [isName, h, hj, hi', Nat.sub_self]; rfl)
end Go.Ch

namespace Go.Ch
open Go Go.Ax Go.Proofs Go.Proofs.Tryz
set_option maxRecDepth 100000
set_option pp.maxSteps 400

def halve (s : Int) : Nat → Int → Int → Int
  | 0, lo, _ => lo
  | k + 1, lo, hi => bif decide (lo < hi) then (bif decide (((lo + hi) / 2) * ((lo + hi) / 2) ≥ s) then halve s k lo ((lo + hi) / 2) else halve s k ((lo + hi) / 2 + 1) hi) else lo
def span (a b : Pt) : Int := halve (dot a b b) 23 0 4000000

theorem cdot (c : Chan) (k : Nat) (p : Pt) (hk : k + 1 < c.axis.length) (hl : c.axis.length ≤ 9223372036854775807) :
    CallP Tryz.prog 170 [chan c, vI k, pt p] (.t [.s (.d (dI (dot (c.axis.getD k default).pt (c.axis.getD (k + 1) default).pt p))), .s (.d (dI (dot (c.axis.getD k default).pt (c.axis.getD (k + 1) default).pt (c.axis.getD (k + 1) default).pt)))]) := by
  refine callP_of_ex (rc := []) (N := 55) Tryz.func170 rfl rfl Tryz.call170 tab_ok mix rfl rfl (fun cx _ => ?_)
  have e : w64 ((k : Int) + 1) = ((k + 1 : Nat) : Int) := w64_of (by omega) (by omega)
  refine oi ⟨by omega, by omega⟩ ?_
  refine oi (by show 0 ≤ w64 ((k : Int) + 1) ∧ w64 ((k : Int) + 1) < _; rw [e]; exact ⟨by omega, by omega⟩) ?_
  refine And.intro (by kernel_rfl) ?_
  refine And.intro (by kernel_rfl) ?_
  refine SubR.of_eq ?_
  show AV.t [.s (.d (dI (dot (c.axis.getD k default).pt (c.axis.getD (w64 ((k : Int) + 1)).toNat default).pt p))), .s (.d (dI (dot (c.axis.getD k default).pt (c.axis.getD (w64 ((k : Int) + 1)).toNat default).pt (c.axis.getD (w64 ((k : Int) + 1)).toNat default).pt)))] = _
  rw [e]; rfl
theorem goutside (l : List Pt) (hl : l.length ≤ 9223372036854775807) : CallP Tryz.prog 178 [pts l] (vB (l.any fun p => !good p)) := by
  refine callP_of_ex (rc := []) (N := 5) Tryz.func178 rfl rfl Tryz.call178 tab_ok mix rfl rfl (fun cx _ => ?_)
  refine callN ((containsP l hl 202 0 (fun _ => .junk) (fun p => !good p) (fun x _ => gout1 x)).conv (args' := _) ⟨LeD.refl _, LeD.clo fun j hj => absurd hj (Nat.not_lt_zero j), trivial⟩) ?_
  exact SubR.refl _
theorem lineErr (a b p : Pt) (ha : good a = true) (hb : good b = true) (hp : good p = true) (hab : a ≠ b) : CallP Tryz.prog 197 [pt a, pt b, pt p] (vI 0) := by
  refine callP_of_ex (rc := []) (N := 17) Tryz.func197 rfl rfl Tryz.call197 tab_ok mix rfl rfl (fun cx _ => ?_)
  refine callN ((goutside [a, b, p] (by simp)).conv (args' := _) ⟨LeD.slc fun i j hi hj => LeD.of_eq ?_, trivial⟩) ?_
  · have hi : i < 3 := hi
    have hj : j < 2 := hj
    match i, j, hi, hj with
    | 0, 0, _, _ => rfl
    | 0, 1, _, _ => rfl
    | 1, 0, _, _ => rfl
    | 1, 1, _, _ => rfl
    | 2, 0, _, _ => rfl
    | 2, 1, _, _ => rfl
  refine And.intro (fun h => ?_) (fun h => ?_)
  · simp [ha, hb, hp] at h
  refine And.intro (fun h => ?_) (fun h => ?_)
  · refine absurd ?_ hab
    simp at h
    cases a; cases b; simp_all
  · exact SubR.of_eq rfl
end Go.Ch

namespace Go.Ch
open Go Go.Ax Go.Proofs Go.Proofs.Tryz Go.RowKit
set_option maxRecDepth 100000

theorem sqrt_run (b r : Nat) (h : FloatKind.f64.format.sqrt b = some r) (w : World) : (callFunc 220 #[.float .f64 b]).run Tryz.prog w = .ok (.value (.float .f64 r)) w := by
  rw [run_callFunc_extern (P := Tryz.prog) (f := 220) (fn := Tryz.f220) (e := Extern.MathSqrt.sqrt) Tryz.func220 (by kernel_rfl) rfl (by kernel_rfl) (by kernel_rfl)]
  have e : Extern.MathSqrt.sqrt #[.float .f64 b] = (match FloatKind.f64.format.sqrt b with | some r => pure (.float .f64 r) | none => do pure (.float .f64 (← choose (.nanBits .f64 b b)))) := rfl
  rw [e, h]
  rfl
theorem Sqrt_calls (b r : Nat) (h : FloatKind.f64.format.sqrt b = some r) (w : World) : Calls Tryz.prog 215 #[.float .f64 b] w fun e w' => e = .returned (.float .f64 r) ∧ w' = w := by
  have hs := sqrt_run b r h w
  go_enter Tryz.func215, Tryz.ntmps215
  go_wp2
  go_ret
  exact ⟨rfl, rfl⟩
theorem Sqrt (b r : Nat) (h : FloatKind.f64.format.sqrt b = some r) : CallP Tryz.prog 215 [.s (.d (.val (.float .f64 b)))] (.s (.d (.val (.float .f64 r)))) := by
  refine ⟨Tryz.call215, fun M w vs _ hr hM => ?_⟩
  match vs, hr with
  | [v], ⟨h1, _⟩ =>
    obtain rfl : v = .float .f64 b := h1
    refine (Sqrt_calls b r h w).mono ?_
    rintro e w' ⟨rfl, rfl⟩
    exact ⟨_, M, rfl, rfl, Grow.refl _ _, hM, Below.refl _ _⟩
end Go.Ch

namespace Go.Ch
open Go Go.Ax Go.Proofs Go.Proofs.Tryz
set_option maxRecDepth 100000
set_option pp.maxSteps 400

theorem good_iff {p : Pt} : good p = true ↔ (-1000000 ≤ p.x ∧ p.x ≤ 1000000) ∧ (-1000000 ≤ p.y ∧ p.y ≤ 1000000) := by
  simp [good, within]
theorem mul_le_of {a b A B : Int} (ha : -A ≤ a) (ha' : a ≤ A) (hb : -B ≤ b) (hb' : b ≤ B) : -(A * B) ≤ a * b ∧ a * b ≤ A * B := by
  have hA : 0 ≤ A := by omega
  have hB : 0 ≤ B := by omega
  have h1 : 0 ≤ (A - a) * (B - b) := Int.mul_nonneg (by omega) (by omega)
  have h2 : 0 ≤ (A + a) * (B + b) := Int.mul_nonneg (by omega) (by omega)
  have h3 : 0 ≤ (A - a) * (B + b) := Int.mul_nonneg (by omega) (by omega)
  have h4 : 0 ≤ (A + a) * (B - b) := Int.mul_nonneg (by omega) (by omega)
  simp only [Int.mul_add, Int.mul_sub, Int.add_mul, Int.sub_mul] at h1 h2 h3 h4
  omega
/-- The exact dot product. -/
def dotE (a b c : Pt) : Int := (b.x - a.x) * (c.x - a.x) + (b.y - a.y) * (c.y - a.y)
def crossE (a b c : Pt) : Int := (b.x - a.x) * (c.y - a.y) - (b.y - a.y) * (c.x - a.x)
theorem dot_eq {a b c : Pt} (ha : good a = true) (hb : good b = true) (hc : good c = true) : dot a b c = dotE a b c ∧ -8000000000000 ≤ dotE a b c ∧ dotE a b c ≤ 8000000000000 := by
  rw [good_iff] at ha hb hc
  have h1 := mul_le_of (a := b.x - a.x) (b := c.x - a.x) (A := 2000000) (B := 2000000) (by omega) (by omega) (by omega) (by omega)
  have h2 := mul_le_of (a := b.y - a.y) (b := c.y - a.y) (A := 2000000) (B := 2000000) (by omega) (by omega) (by omega) (by omega)
  unfold dot dotE
  rw [w64_of (n := b.x - a.x) (by omega) (by omega), w64_of (n := c.x - a.x) (by omega) (by omega), w64_of (n := b.y - a.y) (by omega) (by omega), w64_of (n := c.y - a.y) (by omega) (by omega)]
  rw [w64_of (n := (b.x - a.x) * (c.x - a.x)) (by omega) (by omega), w64_of (n := (b.y - a.y) * (c.y - a.y)) (by omega) (by omega), w64_of (by omega) (by omega)]
  exact ⟨rfl, by omega, by omega⟩
theorem cross_eq {a b c : Pt} (ha : good a = true) (hb : good b = true) (hc : good c = true) : cross a b c = crossE a b c ∧ -8000000000000 ≤ crossE a b c ∧ crossE a b c ≤ 8000000000000 := by
  rw [good_iff] at ha hb hc
  have h1 := mul_le_of (a := b.x - a.x) (b := c.y - a.y) (A := 2000000) (B := 2000000) (by omega) (by omega) (by omega) (by omega)
  have h2 := mul_le_of (a := b.y - a.y) (b := c.x - a.x) (A := 2000000) (B := 2000000) (by omega) (by omega) (by omega) (by omega)
  unfold cross crossE
  rw [w64_of (n := b.x - a.x) (by omega) (by omega), w64_of (n := c.x - a.x) (by omega) (by omega), w64_of (n := b.y - a.y) (by omega) (by omega), w64_of (n := c.y - a.y) (by omega) (by omega)]
  rw [w64_of (n := (b.x - a.x) * (c.y - a.y)) (by omega) (by omega), w64_of (n := (b.y - a.y) * (c.x - a.x)) (by omega) (by omega), w64_of (by omega) (by omega)]
  exact ⟨rfl, by omega, by omega⟩
theorem mul_self_nonneg (x : Int) : 0 ≤ x * x := by
  rcases Int.le_total 0 x with h | h
  · exact Int.mul_nonneg h h
  · exact Int.mul_nonneg_of_nonpos_of_nonpos h h
theorem sq_nonneg (a b : Pt) : 0 ≤ dotE a b b := by
  have h1 := mul_self_nonneg (b.x - a.x)
  have h2 := mul_self_nonneg (b.y - a.y)
  unfold dotE; omega
theorem mul_self_pos {x : Int} (h : x ≠ 0) : 0 < x * x := by
  have h1 := mul_self_nonneg x
  have h2 : x * x ≠ 0 := fun e => by rcases Int.mul_eq_zero.1 e with h' | h' <;> exact h h'
  omega
theorem sq_pos {a b : Pt} (h : a ≠ b) : 0 < dotE a b b := by
  have h1 := mul_self_nonneg (b.x - a.x)
  have h2 := mul_self_nonneg (b.y - a.y)
  by_cases hx : b.x - a.x = 0
  · by_cases hy : b.y - a.y = 0
    · exact absurd (by cases a; cases b; simp at hx hy ⊢; omega) h
    · have := mul_self_pos hy
      unfold dotE; omega
  · have := mul_self_pos hx
    unfold dotE; omega

/-- The least n that is not negative and whose square is at least s. -/
def IsSpan (s n : Int) : Prop := 0 ≤ n ∧ s ≤ n * n ∧ (n = 0 ∨ (n - 1) * (n - 1) < s)
theorem sq_le {a b : Int} (h0 : 0 ≤ a) (h : a ≤ b) : a * a ≤ b * b := Int.mul_le_mul h h h0 (by omega)
theorem IsSpan.le {s n m : Int} (h : IsSpan s n) (hm : 0 ≤ m) (h2 : s ≤ m * m) : n ≤ m := by
  obtain ⟨h0, h1, h3⟩ := h
  rcases Int.lt_or_le m n with hlt | hge
  · rcases h3 with rfl | h3
    · omega
    · have := sq_le hm (show m ≤ n - 1 by omega)
      omega
  · exact hge
theorem IsSpan.unique {s n m : Int} (h : IsSpan s n) (k : IsSpan s m) : n = m := Int.le_antisymm (h.le k.1 k.2.1) (k.le h.1 h.2.1)
theorem halve_spec (s : Int) : ∀ (k : Nat) (lo hi : Int), 0 ≤ lo → lo ≤ hi → hi - lo < 2 ^ k → s ≤ hi * hi → (lo = 0 ∨ (lo - 1) * (lo - 1) < s) → IsSpan s (halve s k lo hi)
  | 0, lo, hi, h0, h1, h2, h3, h4 => by
    rw [halve]
    have : lo = hi := by simp at h2; omega
    subst this
    exact ⟨h0, h3, h4⟩
  | k + 1, lo, hi, h0, h1, h2, h3, h4 => by
    rw [halve]
    rw [Int.pow_succ] at h2
    by_cases hlt : lo < hi
    · rw [decide_eq_true hlt]
      simp only [cond_true]
      by_cases hm : (lo + hi) / 2 * ((lo + hi) / 2) ≥ s
      · rw [decide_eq_true hm]
        exact halve_spec s k lo _ h0 (by omega) (by omega) hm h4
      · rw [decide_eq_false hm]
        refine halve_spec s k _ hi (by omega) (by omega) (by omega) h3 (.inr ?_)
        have : (lo + hi) / 2 + 1 - 1 = (lo + hi) / 2 := by omega
        rw [this]; omega
    · rw [decide_eq_false hlt]
      have : lo = hi := by omega
      subst this
      exact ⟨h0, h3, h4⟩
theorem span_spec {a b : Pt} (ha : good a = true) (hb : good b = true) : IsSpan (dotE a b b) (span a b) := by
  obtain ⟨h1, h2, h3⟩ := dot_eq ha hb hb
  unfold span
  rw [h1]
  exact halve_spec _ 23 0 4000000 (by omega) (by omega) (by decide) (by omega) (.inl rfl)
theorem span_bound {a b : Pt} (ha : good a = true) (hb : good b = true) : 0 ≤ span a b ∧ span a b ≤ 3000000 := by
  have h := span_spec ha hb
  obtain ⟨h1, h2, h3⟩ := dot_eq ha hb hb
  exact ⟨h.1, h.le (by omega) (by omega)⟩
theorem span_pos {a b : Pt} (ha : good a = true) (hb : good b = true) (hab : a ≠ b) : 0 < span a b := by
  have h := span_spec ha hb
  have := sq_pos hab
  have h0 := h.1
  rcases Int.lt_or_le 0 (span a b) with h' | h'
  · exact h'
  · have : span a b = 0 := by omega
    have h1 := h.2.1
    rw [this] at h1
    omega

theorem gspan (a b : Pt) (ha : good a = true) (hb : good b = true) : CallP Tryz.prog 199 [pt a, pt b] (vI (span a b)) := by
  obtain ⟨hd, hd1, hd2⟩ := dot_eq ha hb hb
  have hs0 := sq_nonneg a b
  obtain ⟨r, n, hr, hn, hn0, hn1⟩ := Root.sqrt_small (dot a b b) (by omega) (by omega)
  have hspan := span_spec ha hb
  rw [← hd] at hspan
  refine callP_of_ex (rc := []) (N := 36) Tryz.func199 rfl rfl Tryz.call199 tab_ok mix rfl rfl (fun cx href => ?_)
  refine callN (gdot a b b) ?_
  refine callN (Sqrt _ r hr) ?_
  refine ⟨n, ⟨hn, by show -9223372036854775808 ≤ n; omega, by show n ≤ 9223372036854775807; omega⟩, ?_⟩
  refine AW.loop (fun i : Int => ⟨[(5, vI (dot a b b)), (6, vI i)], []⟩) (fun i => 0 ≤ i ∧ i < 2 ^ 24) (fun i => (2 ^ 24 - i).toNat) n ⟨hn0, hn1⟩ ?_ ?_
  · exact Sub.of0 href trivial ⟨⟨rfl, rfl⟩, ⟨rfl, rfl⟩, trivial⟩
  · rintro i ⟨hi0, hi1⟩
    have hii := sq_le hi0 (show i ≤ 16777216 by omega)
    have hii0 := Int.mul_nonneg hi0 hi0
    have hw : w64 (i * i) = i * i := w64_of (by omega) (by omega)
    refine ex.sound (rc := []) tab_ok mix href _ ?_
    refine And.intro (fun h => ?_) (fun h => ?_)
    · have h : w64 (i * i) < dot a b b := decT h
      rw [hw] at h
      have hlt : i < 3000000 := by
        rcases Int.lt_or_le i 3000000 with h' | h'
        · exact h'
        · have := sq_le (by omega) h'
          omega
      refine ⟨i + 1, ⟨by omega, by omega⟩, by omega, ?_⟩
      refine Sub.of0 href trivial ⟨⟨rfl, rfl⟩, ⟨rfl, congrArg vI (w64_of (by omega) (by omega))⟩, trivial⟩
    · have h : ¬ w64 (i * i) < dot a b b := decF h
      rw [hw] at h
      refine AW.loop (fun i : Int => ⟨[(5, vI (dot a b b)), (6, vI i)], []⟩) (fun i => 0 ≤ i ∧ i < 2 ^ 24 ∧ dot a b b ≤ i * i) (fun i => i.toNat) i ⟨hi0, hi1, by omega⟩ ?_ ?_
      · exact Sub.of0 href trivial ⟨⟨rfl, rfl⟩, ⟨rfl, rfl⟩, trivial⟩
      · rintro i ⟨hi0, hi1, hi2⟩
        have hii := sq_le hi0 (show i ≤ 16777216 by omega)
        refine ex.sound (rc := []) tab_ok mix href _ ?_
        have hw1 : w64 (i - 1) = i - 1 := w64_of (by omega) (by omega)
        have key : w64 (w64 (i - 1) * w64 (i - 1)) = (i - 1) * (i - 1) := by
          rw [hw1]
          have := mul_le_of (a := i - 1) (b := i - 1) (A := 16777216) (B := 16777216) (by omega) (by omega) (by omega) (by omega)
          exact w64_of (by omega) (by omega)
        repeat first | refine sk ?_ | refine st ?_ | refine sg ?_ | refine sh ?_ | refine su ?_ | refine sn1 ?_ | refine sn0 ?_
        refine And.intro (fun h => ?_) (fun h => ?_)
        · have h : (decide (i > 0) && decide (w64 (w64 (i - 1) * w64 (i - 1)) ≥ dot a b b)) = true := h
          rw [key] at h
          simp at h
          refine ⟨i - 1, ⟨by omega, by omega, by omega⟩, by omega, ?_⟩
          refine Sub.of0 href trivial ⟨⟨rfl, rfl⟩, ⟨rfl, congrArg vI hw1⟩, trivial⟩
        · have h : (decide (i > 0) && decide (w64 (w64 (i - 1) * w64 (i - 1)) ≥ dot a b b)) = false := h
          rw [key] at h
          simp at h
          refine SubR.of_eq (congrArg vI ?_)
          refine IsSpan.unique ⟨hi0, hi2, ?_⟩ hspan
          by_cases h0 : i = 0
          · exact .inl h0
          · exact .inr (by have := h (by omega); omega)
theorem gSpan (a b : Pt) (ha : good a = true) (hb : good b = true) : CallP Tryz.prog 173 [pt a, pt b] (vI (span a b)) := by
  refine callP_of_ex (rc := []) (N := 12) Tryz.func173 rfl rfl Tryz.call173 tab_ok mix rfl rfl (fun cx href => ?_)
  refine callN ((goutside [a, b] (by simp)).conv (args' := _) ⟨LeD.slc fun i j hi hj => LeD.of_eq ?_, trivial⟩) ?_
  · have hi : i < 2 := hi
    have hj : j < 2 := hj
    match i, j, hi, hj with
    | 0, 0, _, _ => rfl
    | 0, 1, _, _ => rfl
    | 1, 0, _, _ => rfl
    | 1, 1, _, _ => rfl
  refine And.intro (fun h => ?_) (fun h => ?_)
  · simp [ha, hb] at h
  exact callN (gspan a b ha hb) (SubR.refl _)
/-- How far a place is from a line, rounded down. -/
def offs (a b p : Pt) : Int := mm true (cross a b p) (w64 (0 - cross a b p)) / span a b
theorem mm_abs {c : Int} (h : -8000000000000 ≤ c) (k : c ≤ 8000000000000) : 0 ≤ mm true c (w64 (0 - c)) ∧ mm true c (w64 (0 - c)) ≤ 8000000000000 ∧ mm true c (w64 (0 - c)) = (if c < 0 then w64 (0 - c) else c) := by
  rw [w64_of (by omega) (by omega)]
  unfold mm
  simp only
  split <;> split <;> omega
theorem offs_le {a b p : Pt} (ha : good a = true) (hb : good b = true) (hp : good p = true) (hab : a ≠ b) : 0 ≤ offs a b p ∧ offs a b p ≤ 8000000000000 := by
  obtain ⟨h1, h2, h3⟩ := cross_eq ha hb hp
  have hs := span_pos ha hb hab
  obtain ⟨h4, h5, _⟩ := mm_abs (c := cross a b p) (by omega) (by omega)
  unfold offs
  exact ⟨Int.ediv_nonneg h4 (by omega), Int.le_trans (Int.ediv_le_self _ h4) h5⟩
theorem goffset (a b p : Pt) (ha : good a = true) (hb : good b = true) (hp : good p = true) (hab : a ≠ b) : CallP Tryz.prog 198 [pt a, pt b, pt p] (vI (offs a b p)) := by
  obtain ⟨h1, h2, h3⟩ := cross_eq ha hb hp
  have hs := span_pos ha hb hab
  obtain ⟨h4, h5, _⟩ := mm_abs (c := cross a b p) (by omega) (by omega)
  have ho := offs_le ha hb hp hab
  refine callP_of_ex (rc := []) (N := 20) Tryz.func198 rfl rfl Tryz.call198 tab_ok mix rfl rfl (fun cx href => ?_)
  refine callN (gcross a b p) ?_
  refine callN (gspan a b ha hb) ?_
  refine oi (by omega) ?_
  refine SubR.of_eq (congrArg vI ?_)
  show w64 (Int.tdiv (mm true (cross a b p) (w64 (0 - cross a b p))) (span a b)) = _
  rw [Int.tdiv_eq_ediv_of_nonneg h4]
  exact w64_of (by have := ho.1; unfold offs at this; omega) (by have := ho.2; unfold offs at this; omega)
theorem gOffset (a b p : Pt) (ha : good a = true) (hb : good b = true) (hp : good p = true) (hab : a ≠ b) : CallP Tryz.prog 171 [pt a, pt b, pt p] (.t [.s (.d (dI (offs a b p))), .s (.d (dI 0))]) := by
  refine callP_of_ex (rc := []) (N := 20) Tryz.func171 rfl rfl Tryz.call171 tab_ok mix rfl rfl (fun cx href => ?_)
  refine callN (lineErr a b p ha hb hp hab) ?_
  refine And.intro (fun h => by cases h) (fun _ => ?_)
  refine callN (goffset a b p ha hb hp hab) ?_
  exact SubR.of_eq rfl
end Go.Ch

namespace Go.Ch
open Go Go.Ax Go.Proofs Go.Proofs.Tryz
set_option maxRecDepth 100000
set_option pp.maxSteps 400
set_option maxHeartbeats 1000000

structure Prt where
  offset : Int
  half : Int
  bottom : Int
  run : Int
  deriving DecidableEq, Inhabited
def prtD (p : Prt) : Nat → DV
  | 0 => dI p.offset
  | 1 => dI p.half
  | 2 => dI p.bottom
  | 3 => dI p.run
  | _ => .junk
def prtEl (l : List Prt) : Nat → Nat → DV := fun i => prtD (l.getD i default)
def dPrts (l : List Prt) : DV := .slc l.length 4 (prtEl l)
abbrev prtS (p : Prt) : List SV := [.d (dI p.offset), .d (dI p.half), .d (dI p.bottom), .d (dI p.run)]
def oPrt (o : Option Prt) : Prt := o.getD ⟨0, 0, 0, 0⟩
abbrev rPrt (o : Option Prt) : AV := .t [.g (prtS (oPrt o)), .s (.d (.val (.bool o.isSome)))]

/-- A channel that Check accepts, as far as places are asked. -/
structure Val (c : Chan) : Prop where
  n2 : 2 ≤ c.axis.length
  n20 : c.axis.length ≤ 20
  pts : ∀ i, i < c.axis.length → good (c.axis.getD i default).pt = true
  half : ∀ i, i < c.axis.length → 1 ≤ (c.axis.getD i default).half ∧ (c.axis.getD i default).half ≤ 100000
  level : ∀ i, i < c.axis.length → c.over - 20000 ≤ (c.axis.getD i default).level ∧ (c.axis.getD i default).level ≤ 20000
  run : ∀ i, i < c.axis.length → 0 ≤ (c.axis.getD i default).run ∧ (c.axis.getD i default).run ≤ 1000
  apart : ∀ i, i + 1 < c.axis.length → (c.axis.getD i default).pt ≠ (c.axis.getD (i + 1) default).pt
  over : 0 ≤ c.over ∧ c.over ≤ 1000
  buffer : 0 ≤ c.buffer ∧ c.buffer ≤ 100000

theorem div_of {a b q r : Int} (hb : 0 < b) (h : a = q * b + r) (h0 : 0 ≤ r) (h1 : r < b) : a / b = q := by
  rw [h, Int.add_comm, Int.add_mul_ediv_right _ _ (by omega), Int.ediv_eq_zero_of_lt h0 h1, Int.zero_add]
theorem tdm (a b : Int) : a = a.tdiv b * b + a.tmod b := by
  have := Int.tmod_add_mul_tdiv a b
  rw [Int.mul_comm] at this; omega
theorem tmod_lt {a b : Int} (hb : 0 < b) : -b < a.tmod b ∧ a.tmod b < b := by
  rcases Int.le_total 0 a with h | h
  · rw [Int.tmod_eq_emod_of_nonneg h]
    have := Int.emod_nonneg a (show b ≠ 0 by omega)
    have := Int.emod_lt_of_pos a hb
    omega
  · obtain ⟨n, rfl⟩ : ∃ n : Int, a = -n := ⟨-a, by omega⟩
    rw [Int.neg_tmod, Int.tmod_eq_emod_of_nonneg (by omega)]
    have := Int.emod_nonneg n (show b ≠ 0 by omega)
    have := Int.emod_lt_of_pos n hb
    omega
theorem down_eq {a b : Int} (hb : 0 < b) (h : -9000000000000000000 ≤ a) (k : a ≤ 9000000000000000000) :
    (if a.tmod b < 0 then w64 (w64 (a.tdiv b) - 1) else w64 (a.tdiv b)) = a / b := by
  have h1 := tdm a b
  have h2 := tmod_lt (a := a) hb
  have hq : -9000000000000000000 ≤ a.tdiv b ∧ a.tdiv b ≤ 9000000000000000000 := by
    rcases Int.le_total 0 a with h0 | h0
    · rw [Int.tdiv_eq_ediv_of_nonneg h0]
      have := Int.ediv_le_self b h0
      have := Int.ediv_nonneg h0 (show 0 ≤ b by omega)
      omega
    · obtain ⟨n, rfl⟩ : ∃ n : Int, a = -n := ⟨-a, by omega⟩
      rw [Int.neg_tdiv, Int.tdiv_eq_ediv_of_nonneg (by omega)]
      have := Int.ediv_le_self (a := n) b (by omega)
      have := Int.ediv_nonneg (a := n) (by omega) (show 0 ≤ b by omega)
      omega
  split
  · rw [w64_of (n := a.tdiv b) (by omega) (by omega), w64_of (by omega) (by omega)]
    exact (div_of (r := a.tmod b + b) hb (by rw [Int.sub_mul]; omega) (by omega) (by omega)).symm
  · rw [w64_of (by omega) (by omega)]
    exact (div_of hb h1 (by omega) (by omega)).symm
theorem Floor_eq {a b : Int} (hb : 0 < b) (hb2 : b ≤ 100000000000000000) (h : -9000000000000000000 ≤ a) (k : a ≤ 9000000000000000000) :
    w64 (Int.tdiv (w64 (a - (if a.tmod b < 0 then w64 (a.tmod b + b) else a.tmod b))) b) = a / b := by
  have h1 := tdm a b
  have h2 := tmod_lt (a := a) hb
  have hm := Int.emod_nonneg a (show b ≠ 0 by omega)
  have hl := Int.emod_lt_of_pos a hb
  have hd := Int.mul_ediv_add_emod a b
  have e : (if a.tmod b < 0 then w64 (a.tmod b + b) else a.tmod b) = a % b := by
    split
    · rw [w64_of (by omega) (by omega)]
      have hx := div_of (a := a) (r := a.tmod b + b) (q := a.tdiv b - 1) hb (by rw [Int.sub_mul]; omega) (by omega) (by omega)
      rw [hx] at hd
      rw [Int.mul_sub, Int.mul_comm b] at hd
      omega
    · have hx := div_of (a := a) (r := a.tmod b) (q := a.tdiv b) hb (by omega) (by omega) (by omega)
      rw [hx] at hd
      rw [Int.mul_comm b] at hd
      omega
  rw [e, w64_of (n := a - a % b) (by omega) (by omega)]
  have e2 : a - a % b = a / b * b := by rw [Int.mul_comm]; omega
  rw [e2, Int.mul_tdiv_cancel _ (by omega)]
  have hq : -9000000000000000000 ≤ a / b ∧ a / b ≤ 9000000000000000000 := by
    constructor
    · rcases Int.le_total 0 a with h0 | h0
      · have := Int.ediv_nonneg h0 (show 0 ≤ b by omega); omega
      · have : a ≤ a / b := by
          have h3 : a / b * b ≤ a := by omega
          rcases Int.le_total 0 (a / b) with h4 | h4
          · omega
          · have h5 : a / b * b ≤ a / b := by
              have : 0 ≤ (-(a / b)) * (b - 1) := Int.mul_nonneg (by omega) (by omega)
              rw [Int.mul_sub, Int.neg_mul, Int.mul_one] at this
              omega
            rcases Int.lt_or_le (a / b) a with h6 | h6
            · exfalso
              have h7 : a < (a / b + 1) * b := by rw [Int.add_mul]; omega
              have h8 : (a / b + 1) * b ≤ a / b + 1 := by
                have : 0 ≤ (-(a / b + 1)) * (b - 1) := Int.mul_nonneg (by omega) (by omega)
                rw [Int.mul_sub, Int.neg_mul, Int.mul_one] at this
                omega
              omega
            · exact h6
        omega
    · rcases Int.le_total 0 a with h0 | h0
      · have := Int.ediv_le_self b h0; omega
      · have : a / b ≤ 0 := by
          rcases Int.lt_or_le 0 (a / b) with h6 | h6
          · have : b ≤ a / b * b := by
              have : 0 ≤ (a / b - 1) * b := Int.mul_nonneg (by omega) (by omega)
              rw [Int.sub_mul] at this; omega
            omega
          · exact h6
        omega
  exact w64_of (by omega) (by omega)

/-- A value between those of the two ends of a leg. -/
def mixE (u v s d : Int) : Int := (u * (s - d) + v * d) / s
theorem mix_in {u v s d U : Int} (hs : 0 < s) (hs2 : s ≤ 8000000000000) (hd : 0 ≤ d) (hd2 : d ≤ s) (hU : 0 ≤ U) (hU2 : U ≤ 100000) (hu : -U ≤ u) (hu2 : u ≤ U) (hv : -U ≤ v) (hv2 : v ≤ U) :
    w64 (w64 (u * w64 (s - d)) + w64 (v * d)) = u * (s - d) + v * d ∧ -800000000000000000 ≤ u * (s - d) + v * d ∧ u * (s - d) + v * d ≤ 800000000000000000 := by
  have hsd : w64 (s - d) = s - d := w64_of (by omega) (by omega)
  rw [hsd]
  have h1 := mul_le_of (a := u) (b := s - d) (A := 100000) (B := s - d) (by omega) (by omega) (by omega) (by omega)
  have h2 := mul_le_of (a := v) (b := d) (A := 100000) (B := d) (by omega) (by omega) (by omega) (by omega)
  rw [w64_of (n := u * (s - d)) (by omega) (by omega), w64_of (n := v * d) (by omega) (by omega), w64_of (by omega) (by omega)]
  exact ⟨rfl, by omega, by omega⟩

def legP (a b : Ap) (p : Pt) : Option Prt :=
  bif decide (dotE a.pt b.pt p < 0) || decide (dotE a.pt b.pt p > dotE a.pt b.pt b.pt) then none
  else some ⟨offs a.pt b.pt p, mixE a.half b.half (dotE a.pt b.pt b.pt) (dotE a.pt b.pt p), mixE a.level b.level (dotE a.pt b.pt b.pt) (dotE a.pt b.pt p), a.run⟩
def legF (c : Chan) (k : Nat) (p : Pt) : Option Prt := legP (c.axis.getD k default) (c.axis.getD (k + 1) default) p
def bendF (c : Chan) (k : Nat) (p : Pt) : Option Prt :=
  bif decide (dotE (c.axis.getD (k - 1) default).pt (c.axis.getD k default).pt p ≤ dotE (c.axis.getD (k - 1) default).pt (c.axis.getD k default).pt (c.axis.getD k default).pt) || decide (dotE (c.axis.getD k default).pt (c.axis.getD (k + 1) default).pt p ≥ 0) then none
  else some ⟨span (c.axis.getD k default).pt p, (c.axis.getD k default).half, (c.axis.getD k default).level, (c.axis.getD k default).run⟩

theorem rPrt_of {a b c d : Int} {l : Bool} {o : Option Prt} (h : ⟨a, b, c, d⟩ = oPrt o) (k : l = o.isSome) : SubR (.t [.g [.d (dI a), .d (dI b), .d (dI c), .d (dI d)], .s (.d (.lit l))]) (rPrt o) := by
  subst k
  unfold rPrt
  rw [← h]
  exact SubR.t ⟨⟨LeD.refl _, LeD.refl _, LeD.refl _, LeD.refl _, trivial⟩, fun _ _ r => r, trivial⟩

theorem down_mix {u v s d U : Int} (hs : 0 < s) (hs2 : s ≤ 8000000000000) (hd : 0 ≤ d) (hd2 : d ≤ s) (hU : 0 ≤ U) (hU2 : U ≤ 100000) (hu : -U ≤ u) (hu2 : u ≤ U) (hv : -U ≤ v) (hv2 : v ≤ U) :
    (if (w64 (w64 (u * w64 (s - d)) + w64 (v * d))).tmod s < 0 then w64 (w64 ((w64 (w64 (u * w64 (s - d)) + w64 (v * d))).tdiv s) - 1) else w64 ((w64 (w64 (u * w64 (s - d)) + w64 (v * d))).tdiv s)) = mixE u v s d := by
  obtain ⟨h1, h2, h3⟩ := mix_in hs hs2 hd hd2 hU hU2 hu hu2 hv hv2
  rw [h1]
  exact down_eq hs (by omega) (by omega)
theorem floor_mix {u v s d U : Int} (hs : 0 < s) (hs2 : s ≤ 8000000000000) (hd : 0 ≤ d) (hd2 : d ≤ s) (hU : 0 ≤ U) (hU2 : U ≤ 100000) (hu : -U ≤ u) (hu2 : u ≤ U) (hv : -U ≤ v) (hv2 : v ≤ U) :
    w64 (Int.tdiv (w64 (w64 (w64 (u * w64 (s - d)) + w64 (v * d)) - (if (w64 (w64 (u * w64 (s - d)) + w64 (v * d))).tmod s < 0 then w64 ((w64 (w64 (u * w64 (s - d)) + w64 (v * d))).tmod s + s) else (w64 (w64 (u * w64 (s - d)) + w64 (v * d))).tmod s))) s) = mixE u v s d := by
  obtain ⟨h1, h2, h3⟩ := mix_in hs hs2 hd hd2 hU hU2 hu hu2 hv hv2
  rw [h1]
  exact Floor_eq hs (by omega) (by omega) (by omega)
theorem prt_ext {a b c d a' b' c' d' : Int} (h1 : a = a') (h2 : b = b') (h3 : c = c') (h4 : d = d') : Prt.mk a b c d = Prt.mk a' b' c' d' := by subst h1; subst h2; subst h3; subst h4; rfl
abbrev up (k : Nat) : Nat := (w64 ((k : Int) + 1)).toNat
theorem up_eq {k : Nat} (h : k ≤ 1000000) : up k = k + 1 := by
  unfold up
  rw [w64_of (by omega) (by omega)]; omega
theorem rPrt_le {s0 s1 s2 s3 t : SV} {o : Option Prt} {p : Prt} {l : Bool} (ho : oPrt o = p) (hl : o.isSome = l) (h0 : LeS s0 (.d (dI p.offset))) (h1 : LeS s1 (.d (dI p.half))) (h2 : LeS s2 (.d (dI p.bottom))) (h3 : LeS s3 (.d (dI p.run))) (h4 : LeS t (.d (.val (.bool l)))) :
    SubR (.t [.g [s0, s1, s2, s3], .s t]) (rPrt o) := by
  subst ho; subst hl
  exact SubR.t ⟨⟨h0, h1, h2, h3, trivial⟩, h4, trivial⟩
abbrev axis (c : Chan) (k : Nat) : Ap := c.axis.getD k default
def partE (a b : Ap) (p : Pt) : Prt := ⟨offs a.pt b.pt p, mixE a.half b.half (dotE a.pt b.pt b.pt) (dotE a.pt b.pt p), mixE a.level b.level (dotE a.pt b.pt b.pt) (dotE a.pt b.pt p), a.run⟩
theorem onLeg (c : Chan) (k : Nat) (p : Pt) (hv : Val c) (hk : k + 1 < c.axis.length) (hp : good p = true) : CallP Tryz.prog 140 [chan c, vI k, pt p] (rPrt (legF c k p)) := by
  have hn := hv.n20
  have ha := hv.pts k (by omega)
  have hb := hv.pts (k + 1) hk
  have hab := hv.apart k hk
  obtain ⟨d1, d2, d3⟩ := dot_eq ha hb hp
  obtain ⟨s1, s2, s3⟩ := dot_eq ha hb hb
  have s4 := sq_pos hab
  have hh := hv.half k (by omega)
  have hh' := hv.half (k + 1) hk
  have hl := hv.level k (by omega)
  have hl' := hv.level (k + 1) hk
  have ho := hv.over
  have e : w64 ((k : Int) + 1) = ((k + 1 : Nat) : Int) := w64_of (by omega) (by omega)
  have eup : up k = k + 1 := up_eq (by omega)
  have eu : (w64 ((k : Int) + 1)).toNat = k + 1 := eup
  refine callP_of_ex (rc := []) (N := 79) Tryz.func140 rfl rfl Tryz.call140 tab_ok mix rfl rfl (fun cx href => ?_)
  refine callN (cdot c k p hk (by omega)) ?_
  rw [d1, s1]
  repeat first | refine sk ?_ | refine st ?_ | refine sg ?_ | refine sh ?_ | refine su ?_ | refine sn1 ?_ | refine sn0 ?_
  refine And.intro (fun h => ?_) (fun h => ?_)
  · exact rPrt_of (by unfold legF legP; rw [h]; rfl) (by unfold legF legP; rw [h]; rfl)
  have h : (decide (dotE (c.axis.getD k default).pt (c.axis.getD (k + 1) default).pt p < 0) || decide (dotE (c.axis.getD k default).pt (c.axis.getD (k + 1) default).pt p > dotE (c.axis.getD k default).pt (c.axis.getD (k + 1) default).pt (c.axis.getD (k + 1) default).pt)) = false := h
  have h' := h
  simp only [Bool.or_eq_false_iff, decide_eq_false_iff_not] at h'
  refine oi ⟨by omega, by omega⟩ ?_
  refine oi (by show 0 ≤ w64 ((k : Int) + 1) ∧ w64 ((k : Int) + 1) < _; rw [e]; exact ⟨by omega, by omega⟩) ?_
  refine And.intro (by kernel_rfl) ?_
  refine callN (place (c.axis.getD k default)) ?_
  refine callN (place (c.axis.getD (up k) default)) ?_
  refine callN (gOffset (c.axis.getD k default).pt (c.axis.getD (up k) default).pt p ha (by rw [eup]; exact hb) hp (by rw [eup]; exact hab)) ?_
  refine And.intro (by kernel_rfl) ?_
  refine callN (down _ _ (by omega)) ?_
  refine callN (down _ _ (by omega)) ?_
  refine And.intro (by kernel_rfl) ?_
  refine rPrt_le (p := partE (axis c k) (axis c (k + 1)) p) (l := true) (by unfold legF legP; rw [h]; rfl) (by unfold legF legP; rw [h]; rfl) ?_ ?_ ?_ ?_ ?_
  · exact LeD.of_eq (congrArg dI (by rw [eup]; rfl))
  · refine LeD.of_eq (congrArg dI ?_)
    simp only [eu, Int.toNat_natCast]
    exact down_mix (U := 100000) s4 (by omega) (by omega) (by omega) (by omega) (by omega) (by omega) (by omega) (by omega) (by omega)
  · refine LeD.of_eq (congrArg dI ?_)
    simp only [eu, Int.toNat_natCast]
    exact down_mix (U := 20000) s4 (by omega) (by omega) (by omega) (by omega) (by omega) (by omega) (by omega) (by omega) (by omega)
  · exact LeD.refl _
  · exact fun _ _ r => r
end Go.Ch

namespace Go.Ch
open Go Go.Ax Go.Proofs Go.Proofs.Tryz
set_option maxRecDepth 100000
set_option pp.maxSteps 400
set_option maxHeartbeats 1000000

/-- The bend at axis point j + 1. -/
def bendP (a q b : Ap) (p : Pt) : Option Prt :=
  bif decide (dotE a.pt q.pt p ≤ dotE a.pt q.pt q.pt) || decide (dotE q.pt b.pt p ≥ 0) then none else some ⟨span q.pt p, q.half, q.level, q.run⟩
def bendN (c : Chan) (j : Nat) (p : Pt) : Option Prt := bendP (axis c j) (axis c (j + 1)) (axis c (j + 2)) p

theorem onBend (c : Chan) (j : Nat) (p : Pt) (hv : Val c) (hk : j + 2 < c.axis.length) (hp : good p = true) : CallP Tryz.prog 141 [chan c, vI ((j + 1 : Nat) : Int), pt p] (rPrt (bendN c j p)) := by
  have hn := hv.n20
  have ha := hv.pts j (by omega)
  have hq := hv.pts (j + 1) (by omega)
  have hb := hv.pts (j + 2) hk
  obtain ⟨d1, _, _⟩ := dot_eq ha hq hp
  obtain ⟨s1, _, _⟩ := dot_eq ha hq hq
  obtain ⟨e1, _, _⟩ := dot_eq hq hb hp
  have em : w64 (((j + 1 : Nat) : Int) - 1) = (j : Int) := by rw [w64_of (by omega) (by omega)]; omega
  have c1 : CallP Tryz.prog 170 [chan c, vI (w64 (((j + 1 : Nat) : Int) - 1)), pt p] (.t [.s (.d (dI (dotE (axis c j).pt (axis c (j + 1)).pt p))), .s (.d (dI (dotE (axis c j).pt (axis c (j + 1)).pt (axis c (j + 1)).pt)))]) := by
    rw [em, ← d1, ← s1]; exact cdot c j p (by omega) (by omega)
  have c2 := cdot c (j + 1) p hk (by omega)
  rw [e1] at c2
  refine callP_of_ex (rc := []) (N := 52) Tryz.func141 rfl rfl Tryz.call141 tab_ok mix rfl rfl (fun cx href => ?_)
  refine callN c1 ?_
  refine callN c2 ?_
  repeat first | refine sk ?_ | refine st ?_ | refine sg ?_ | refine sh ?_ | refine su ?_ | refine sn1 ?_ | refine sn0 ?_
  refine And.intro (fun h => ?_) (fun h => ?_)
  · exact rPrt_of (by unfold bendN bendP; rw [h]; rfl) (by unfold bendN bendP; rw [h]; rfl)
  refine oi ⟨by omega, by omega⟩ ?_
  refine callN (place (axis c (j + 1))) ?_
  refine callN (gSpan (axis c (j + 1)).pt p hq hp) ?_
  refine And.intro (by kernel_rfl) ?_
  refine rPrt_le (p := ⟨span (axis c (j + 1)).pt p, (axis c (j + 1)).half, (axis c (j + 1)).level, (axis c (j + 1)).run⟩) (l := true) (by unfold bendN bendP; rw [h]; rfl) (by unfold bendN bendP; rw [h]; rfl) ?_ ?_ ?_ ?_ ?_
  · exact LeD.refl _
  · exact LeD.refl _
  · exact LeD.refl _
  · exact LeD.refl _
  · exact fun _ _ r => r
def legsL (c : Chan) (p : Pt) (i : Nat) : List Prt := (List.range i).filterMap fun k => legF c k p
def bendsL (c : Chan) (p : Pt) (i : Nat) : List Prt := (List.range i).filterMap fun j => bendN c j p
def partsL (c : Chan) (p : Pt) : List Prt := legsL c p (c.axis.length - 1) ++ bendsL c p (c.axis.length - 2)
abbrev chanB (c : Chan) : Box := .cells [.d (dS c.name), .d (dAps c.axis), .d (dI c.over), .d (dI c.buffer), .d (dRegs c.regions)]
abbrev ptB (p : Pt) : Box := .cells [.d (dI p.x), .d (dI p.y)]
theorem parts (c : Chan) (p : Pt) (hv : Val c) (hp : good p = true) : CallP Tryz.prog 114 [chan c, pt p] (.s (.d (dPrts (partsL c p)))) := by
  have h2 := hv.n2
  have h20 := hv.n20
  have el : w64 ((c.axis.length : Int) - 1) = (c.axis.length : Int) - 1 := w64_of (by omega) (by omega)
  refine callP_of_ex (rc := []) (N := 53) Tryz.func114 rfl rfl Tryz.call114 tab_ok mix rfl rfl (fun cx href => ?_)
  refine AW.loopI (fun i : Nat => ⟨[(2, .s (.ptr 2 0)), (3, .s (.ptr 3 0)), (5, .s (.mo (legsL c p i).isEmpty 100)), (15, vI (w64 ((c.axis.length : Int) - 1))), (16, vI i)], [(2, some (chanB c)), (3, some (ptB p)), (100, some (.mrow 170 (legsL c p i).length 4 (prtEl (legsL c p i))))]⟩)
    (fun i => i ≤ c.axis.length - 1) (fun i => c.axis.length - 1 - i) 0 (Nat.zero_le _) ?_ ?_
  · exact SubI.of0 href [(100, 1000)] rfl ⟨⟨rfl, LeBx.rfl⟩, ⟨rfl, LeBx.rfl⟩, ⟨rfl, rfl⟩, trivial⟩ ⟨⟨rfl, LeQ.rfl⟩, ⟨rfl, LeQ.rfl⟩, ⟨rfl, LeQ.nil rfl⟩, ⟨rfl, LeQ.rfl⟩, ⟨rfl, LeQ.rfl⟩, trivial⟩
  · intro i hi
    refine ex.sound (rc := []) tab_ok mix href _ ?_
    refine And.intro (fun h => ?_) (fun h => ?_)
    · have h : (i : Int) < w64 ((c.axis.length : Int) - 1) := decT h
      rw [el] at h
      refine callN (onLeg c i p hv (by omega) hp) ?_
      refine And.intro (fun h' => ?_) (fun h' => ?_)
      · have h' : (legF c i p).isSome = true := h'
        have e' : legsL c p (i + 1) = legsL c p i ++ [oPrt (legF c i p)] := by
          unfold legsL
          rw [filterMap_range_succ]
          obtain ⟨x, hx⟩ := Option.isSome_iff_exists.1 h'
          rw [hx]; rfl
        have hlen : (legsL c p i).length ≤ i := by unfold legsL; exact Nat.le_trans (List.length_filterMap_le _ _) (by simp)
        refine ob (by decide) ?_
        refine ob (by rw [bif_len]; show _ * 32 ≤ _; omega) ?_
        refine ob (fit1 (lt4 rfl rfl rfl rfl)) ?_
        refine ⟨i + 1, by omega, by omega, ?_⟩
        refine SubI.of0 href [(100, 30)] rfl ⟨⟨rfl, LeBx.rfl⟩, ⟨rfl, LeBx.rfl⟩, ⟨rfl, ?_⟩, trivial⟩ ⟨⟨rfl, LeQ.rfl⟩, ⟨rfl, LeQ.rfl⟩, ⟨rfl, LeQ.mo ?_⟩, ⟨rfl, LeQ.rfl⟩, ⟨rfl, LeQ.of_eq (congrArg vI (w64_of (by omega) (by omega)))⟩, trivial⟩
        · show LeBx _ (.mrow 170 (legsL c p (i + 1)).length 4 (prtEl (legsL c p (i + 1))))
          rw [e']
          exact LeBx.snoc (el := prtD) (x := oPrt (legF c i p)) (lt4 rfl rfl rfl rfl)
        · rw [e']; exact isEmpty_snoc _ _
      · have h' : (legF c i p).isSome = false := h'
        have e' : legsL c p (i + 1) = legsL c p i := by
          unfold legsL
          rw [filterMap_range_succ]
          cases hx : legF c i p with
          | none => simp
          | some x => rw [hx] at h'; cases h'
        refine ⟨i + 1, by omega, by omega, ?_⟩
        refine SubI.of0 href [] rfl ⟨⟨rfl, LeBx.rfl⟩, ⟨rfl, LeBx.rfl⟩, ⟨rfl, LeBx.of_eq (by rw [e']; rfl)⟩, trivial⟩ ⟨⟨rfl, LeQ.rfl⟩, ⟨rfl, LeQ.rfl⟩, ⟨rfl, LeQ.of_eq (by rw [e']; rfl)⟩, ⟨rfl, LeQ.rfl⟩, ⟨rfl, LeQ.of_eq (congrArg vI (w64_of (by omega) (by omega)))⟩, trivial⟩
    · have h : ¬ (i : Int) < w64 ((c.axis.length : Int) - 1) := decF h
      rw [el] at h
      have hi' : i = c.axis.length - 1 := by omega
      subst hi'
      refine AW.loopI (fun j : Nat => ⟨[(2, .s (.ptr 2 0)), (3, .s (.ptr 3 0)), (5, .s (.mo (legsL c p (c.axis.length - 1) ++ bendsL c p j).isEmpty 100)), (9, vI ((j + 1 : Nat) : Int))], [(2, some (chanB c)), (3, some (ptB p)), (100, some (.mrow 170 (legsL c p (c.axis.length - 1) ++ bendsL c p j).length 4 (prtEl (legsL c p (c.axis.length - 1) ++ bendsL c p j))))]⟩)
        (fun j => j ≤ c.axis.length - 2) (fun j => c.axis.length - j) 0 (Nat.zero_le _) ?_ ?_
      · exact SubI.of0 href [] rfl ⟨⟨rfl, LeBx.rfl⟩, ⟨rfl, LeBx.rfl⟩, ⟨rfl, LeBx.of_eq (by simp [bendsL, renB])⟩, trivial⟩ ⟨⟨rfl, LeQ.rfl⟩, ⟨rfl, LeQ.rfl⟩, ⟨rfl, LeQ.of_eq (by simp [bendsL, renA, renS]; rfl)⟩, ⟨rfl, LeQ.rfl⟩, trivial⟩
      · intro j hj
        refine ex.sound (rc := []) tab_ok mix href _ ?_
        refine And.intro (fun h => ?_) (fun h => ?_)
        · have h : ((j + 1 : Nat) : Int) < w64 ((c.axis.length : Int) - 1) := decT h
          rw [el] at h
          refine callN (onBend c j p hv (by omega) hp) ?_
          refine And.intro (fun h' => ?_) (fun h' => ?_)
          · have h' : (bendN c j p).isSome = true := h'
            have e' : legsL c p (c.axis.length - 1) ++ bendsL c p (j + 1) = (legsL c p (c.axis.length - 1) ++ bendsL c p j) ++ [oPrt (bendN c j p)] := by
              unfold bendsL
              rw [filterMap_range_succ, List.append_assoc]
              obtain ⟨x, hx⟩ := Option.isSome_iff_exists.1 h'
              rw [hx]; rfl
            have hlen : (legsL c p (c.axis.length - 1) ++ bendsL c p j).length ≤ c.axis.length - 1 + j := by
              rw [List.length_append]
              exact Nat.add_le_add (Nat.le_trans (List.length_filterMap_le _ _) (by simp)) (Nat.le_trans (List.length_filterMap_le _ _) (by simp))
            refine ob (by decide) ?_
            refine ob (by rw [bif_len]; show _ * 32 ≤ _; omega) ?_
            refine ob (fit1 (lt4 rfl rfl rfl rfl)) ?_
            refine ⟨j + 1, by omega, by omega, ?_⟩
            refine SubI.of0 href [(100, 51)] rfl ⟨⟨rfl, LeBx.rfl⟩, ⟨rfl, LeBx.rfl⟩, ⟨rfl, ?_⟩, trivial⟩ ⟨⟨rfl, LeQ.rfl⟩, ⟨rfl, LeQ.rfl⟩, ⟨rfl, LeQ.mo ?_⟩, ⟨rfl, LeQ.of_eq (congrArg vI (w64_of (by omega) (by omega)))⟩, trivial⟩
            · show LeBx _ (.mrow 170 (legsL c p (c.axis.length - 1) ++ bendsL c p (j + 1)).length 4 (prtEl (legsL c p (c.axis.length - 1) ++ bendsL c p (j + 1))))
              rw [e']
              exact LeBx.snoc (el := prtD) (x := oPrt (bendN c j p)) (lt4 rfl rfl rfl rfl)
            · rw [e']; exact isEmpty_snoc _ _
          · have h' : (bendN c j p).isSome = false := h'
            have e' : bendsL c p (j + 1) = bendsL c p j := by
              unfold bendsL
              rw [filterMap_range_succ]
              cases hx : bendN c j p with
              | none => simp
              | some x => rw [hx] at h'; cases h'
            refine ⟨j + 1, by omega, by omega, ?_⟩
            refine SubI.of0 href [] rfl ⟨⟨rfl, LeBx.rfl⟩, ⟨rfl, LeBx.rfl⟩, ⟨rfl, LeBx.of_eq (by rw [e']; rfl)⟩, trivial⟩ ⟨⟨rfl, LeQ.rfl⟩, ⟨rfl, LeQ.rfl⟩, ⟨rfl, LeQ.of_eq (by rw [e']; rfl)⟩, ⟨rfl, LeQ.of_eq (congrArg vI (w64_of (by omega) (by omega)))⟩, trivial⟩
        · have h : ¬ ((j + 1 : Nat) : Int) < w64 ((c.axis.length : Int) - 1) := decF h
          rw [el] at h
          have hj' : j = c.axis.length - 2 := by omega
          subst hj'
          exact SubR.mo
end Go.Ch

namespace Go.Ch
open Go Go.Ax Go.Proofs Go.Proofs.Tryz
set_option maxRecDepth 100000
set_option pp.maxSteps 400
set_option maxHeartbeats 1000000

def bendR (c : Chan) (k : Nat) (p : Pt) : Option Prt := match k with
  | 0 => none
  | j + 1 => bendN c j p
def holdsL (c : Chan) (p : Pt) (i : Nat) : List Prt := (List.range i).flatMap fun k => (legF c k p).toList ++ (bendR c k p).toList
theorem holdsL_succ (c : Chan) (p : Pt) (i : Nat) : holdsL c p (i + 1) = holdsL c p i ++ ((legF c i p).toList ++ (bendR c i p).toList) := by
  unfold holdsL
  rw [List.range_succ, List.flatMap_append]
  simp
theorem toList_some {o : Option Prt} (h : o.isSome = true) : o.toList = [oPrt o] := by
  cases o with
  | none => cases h
  | some x => rfl
theorem toList_none {o : Option Prt} (h : o.isSome = false) : o.toList = [] := by
  cases o with
  | none => rfl
  | some x => cases h
theorem holdsL_len (c : Chan) (p : Pt) : ∀ i, (holdsL c p i).length ≤ 2 * i
  | 0 => Nat.zero_le _
  | i + 1 => by
    rw [holdsL_succ, List.length_append, List.length_append]
    have := holdsL_len c p i
    have h1 : (legF c i p).toList.length ≤ 1 := by cases legF c i p <;> simp
    have h2 : (bendR c i p).toList.length ≤ 1 := by cases bendR c i p <;> simp
    omega
/-- The least level of some parts. -/
def lvlP (x : Prt) : Int × Bool := lvl x.offset x.half x.bottom x.run
def stepV (r : Int × Bool) (x : Prt) : Int × Bool := bif (lvlP x).2 && (!r.2 || decide ((lvlP x).1 < r.1)) then ((lvlP x).1, true) else r
def desV (l : List Prt) : Int × Bool := l.foldl stepV (0, false)
theorem desV_snoc (l : List Prt) (x : Prt) : desV (l ++ [x]) = stepV (desV l) x := by simp [desV]
def IsDes (l : List Prt) (r : Int × Bool) : Prop := (r = (0, false) ∧ ∀ x ∈ l, (lvlP x).2 = false) ∨ (r.2 = true ∧ (∃ x ∈ l, lvlP x = r) ∧ ∀ x ∈ l, (lvlP x).2 = true → r.1 ≤ (lvlP x).1)
theorem IsDes.step {l : List Prt} {r : Int × Bool} (h : IsDes l r) (x : Prt) : IsDes (l ++ [x]) (stepV r x) := by
  unfold stepV
  rcases h with ⟨rfl, h⟩ | ⟨h1, ⟨y, hy, hyr⟩, h3⟩
  · cases hx : (lvlP x).2 with
    | false =>
      refine .inl ⟨rfl, fun z hz => ?_⟩
      rcases List.mem_append.1 hz with hz | hz
      · exact h z hz
      · simp at hz; subst hz; exact hx
    | true =>
      refine .inr ⟨rfl, ⟨x, by simp, by simp [Prod.ext_iff, hx]⟩, fun z hz hz2 => ?_⟩
      rcases List.mem_append.1 hz with hz | hz
      · rw [h z hz] at hz2; cases hz2
      · simp at hz; subst hz; exact Int.le_refl _
  · rw [h1]
    cases hx : (lvlP x).2 with
    | false =>
      refine .inr ⟨h1, ⟨y, List.mem_append_left _ hy, hyr⟩, fun z hz hz2 => ?_⟩
      rcases List.mem_append.1 hz with hz | hz
      · exact h3 z hz hz2
      · simp at hz; subst hz; rw [hx] at hz2; cases hz2
    | true =>
      by_cases hlt : (lvlP x).1 < r.1
      · rw [decide_eq_true hlt]
        refine .inr ⟨rfl, ⟨x, by simp, by simp [Prod.ext_iff, hx]⟩, fun z hz hz2 => ?_⟩
        simp only [Bool.not_true, Bool.false_or, Bool.and_self, cond_true]
        rcases List.mem_append.1 hz with hz | hz
        · have := h3 z hz hz2; omega
        · simp at hz; subst hz; exact Int.le_refl _
      · rw [decide_eq_false hlt]
        refine .inr ⟨h1, ⟨y, List.mem_append_left _ hy, hyr⟩, fun z hz hz2 => ?_⟩
        rcases List.mem_append.1 hz with hz | hz
        · exact h3 z hz hz2
        · simp at hz; subst hz; show r.1 ≤ _; omega
theorem desV_is (l : List Prt) : IsDes l (desV l) := by
  have : ∀ (m : List Prt), IsDes m (desV m) := by
    intro m
    suffices h : ∀ n, IsDes (m.take n) (desV (m.take n)) by simpa using h m.length
    intro n
    induction n with
    | zero => exact .inl ⟨rfl, by simp⟩
    | succ n ih =>
      by_cases hn : n < m.length
      · rw [List.take_succ_eq_append_getElem hn, desV_snoc]
        exact ih.step _
      · rw [List.take_of_length_le (by omega)] at ih ⊢
        exact ih
  exact this l
theorem IsDes.unique {l m : List Prt} {r s : Int × Bool} (hl : ∀ x, x ∈ l ↔ x ∈ m) (h : IsDes l r) (k : IsDes m s) : r = s := by
  rcases h with ⟨rfl, h⟩ | ⟨h1, ⟨y, hy, hyr⟩, h3⟩
  · rcases k with ⟨rfl, _⟩ | ⟨k1, ⟨z, hz, hzr⟩, _⟩
    · rfl
    · have := h z ((hl z).2 hz)
      rw [hzr, k1] at this; cases this
  · rcases k with ⟨rfl, k⟩ | ⟨k1, ⟨z, hz, hzr⟩, k3⟩
    · have := k y ((hl y).1 hy)
      rw [hyr, h1] at this; cases this
    · have a := h3 z ((hl z).2 hz) (by rw [hzr]; exact k1)
      have b := k3 y ((hl y).1 hy) (by rw [hyr]; exact h1)
      rw [hzr] at a
      rw [hyr] at b
      exact Prod.ext (Int.le_antisymm a b) (h1.trans k1.symm)
theorem parts_holds (c : Chan) (p : Pt) (h2 : 2 ≤ c.axis.length) : ∀ x, x ∈ partsL c p ↔ x ∈ holdsL c p (c.axis.length - 1) := by
  intro x
  unfold partsL legsL bendsL holdsL
  simp only [List.mem_append, List.mem_filterMap, List.mem_range, List.mem_flatMap, Option.mem_toList]
  constructor
  · rintro (⟨k, hk, h⟩ | ⟨j, hj, h⟩)
    · exact ⟨k, hk, .inl h⟩
    · exact ⟨j + 1, by omega, .inr h⟩
  · rintro ⟨k, hk, h | h⟩
    · exact .inl ⟨k, hk, h⟩
    · cases k with
      | zero => cases h
      | succ j => exact .inr ⟨j, by omega, h⟩
/-- The design level. -/
def desF (c : Chan) (p : Pt) : Int × Bool := desV (partsL c p)
theorem desF_holds (c : Chan) (p : Pt) (h2 : 2 ≤ c.axis.length) : desV (holdsL c p (c.axis.length - 1)) = desF c p :=
  ((desV_is _).unique (parts_holds c p h2) (desV_is _)).symm
theorem take_step {l : List Prt} {i : Nat} (h : i < l.length) : desV (l.take (i + 1)) = stepV (desV (l.take i)) (l.getD i default) := by
  rw [List.take_succ_eq_append_getElem h, desV_snoc, getD_of h]
theorem design (c : Chan) (p : Pt) (hv : Val c) (hp : good p = true) : CallP Tryz.prog 80 [chan c, pt p] (rIB (desF c p)) := by
  have hlen : (partsL c p).length ≤ 40 := by
    have := hv.n20
    unfold partsL legsL bendsL
    rw [List.length_append]
    have h1 := List.length_filterMap_le (fun k => legF c k p) (List.range (c.axis.length - 1))
    have h2 := List.length_filterMap_le (fun k => bendN c k p) (List.range (c.axis.length - 2))
    simp at h1 h2; omega
  unfold desF
  refine callP_of_ex (rc := []) (N := 39) Tryz.func80 rfl rfl Tryz.call80 tab_ok mix rfl rfl (fun cx href => ?_)
  refine callN (parts c p hv hp) ?_
  generalize partsL c p = l at hlen
  refine AW.loopI (fun i : Nat => ⟨[(6, vI (desV (l.take i)).1), (7, vB (desV (l.take i)).2), (14, .s (.d (dPrts l))), (15, vI l.length), (16, vI i)], []⟩) (fun i => i ≤ l.length) (fun i => l.length - i) 0 (Nat.zero_le _) ?_ ?_
  · exact SubI.of0 href [] rfl trivial ⟨⟨rfl, LeQ.rfl⟩, ⟨rfl, LeQ.lit rfl⟩, ⟨rfl, LeQ.rfl⟩, ⟨rfl, LeQ.rfl⟩, ⟨rfl, LeQ.rfl⟩, trivial⟩
  · intro i hi
    refine ex.sound (rc := []) tab_ok mix href _ ?_
    refine And.intro (fun h => ?_) (fun h => ?_)
    · have h : (i : Int) < l.length := decT h
      have hi' : i < l.length := by omega
      have ew : w64 ((i : Int) + 1) = ((i + 1 : Nat) : Int) := w64_of (by omega) (by omega)
      have hst := take_step hi'
      refine oi ⟨by omega, by omega⟩ ?_
      refine callN (level (l.getD i default).offset (l.getD i default).half (l.getD i default).bottom (l.getD i default).run) ?_
      repeat first | refine sk ?_ | refine st ?_ | refine sg ?_ | refine sh ?_ | refine su ?_ | refine sn1 ?_ | refine sn0 ?_
      refine And.intro (fun h' => ?_) (fun h' => ?_)
      · have h' : ((lvlP (l.getD i default)).2 && (!(desV (l.take i)).2 || decide ((lvlP (l.getD i default)).1 < (desV (l.take i)).1))) = true := h'
        unfold stepV at hst
        rw [h'] at hst
        refine ⟨i + 1, by omega, by omega, ?_⟩
        exact SubI.of0 href [] rfl trivial ⟨⟨rfl, LeQ.int (by rw [hst]; rfl)⟩, ⟨rfl, LeQ.lit (by rw [hst]; rfl)⟩, ⟨rfl, LeQ.rfl⟩, ⟨rfl, LeQ.rfl⟩, ⟨rfl, LeQ.int ew⟩, trivial⟩
      · have h' : ((lvlP (l.getD i default)).2 && (!(desV (l.take i)).2 || decide ((lvlP (l.getD i default)).1 < (desV (l.take i)).1))) = false := h'
        unfold stepV at hst
        rw [h'] at hst
        refine ⟨i + 1, by omega, by omega, ?_⟩
        exact SubI.of0 href [] rfl trivial ⟨⟨rfl, LeQ.int (by rw [hst]; rfl)⟩, ⟨rfl, LeQ.bool (by rw [hst]; rfl)⟩, ⟨rfl, LeQ.rfl⟩, ⟨rfl, LeQ.rfl⟩, ⟨rfl, LeQ.int ew⟩, trivial⟩
    · have h : ¬ (i : Int) < l.length := decF h
      have hi' : i = l.length := by omega
      subst hi'
      exact SubR.of_eq (by rw [List.take_length]; rfl)
end Go.Ch

namespace Go.Ch
open Go Go.Ax Go.Proofs Go.Proofs.Tryz
set_option maxRecDepth 100000
set_option pp.maxSteps 400
set_option maxHeartbeats 1000000

abbrev pAt (l : List Pt) (i : Nat) : Pt := l.getD i default
abbrev cor (l : List Pt) (i : Nat) : Pt := l.getD (i % l.length) default
def samePt (a b : Pt) : Bool := a.x == b.x && (a.y == b.y && true)
theorem samePt_iff {a b : Pt} : samePt a b = true ↔ a = b := by
  cases a; cases b; simp [samePt]
def anyB (n : Nat) (p : Nat → Bool) : Bool := (List.range n).any p
theorem anyB_true {n : Nat} {p : Nat → Bool} {i : Nat} (h : i < n) (hp : p i = true) : anyB n p = true := by
  unfold anyB; rw [List.any_eq_true]; exact ⟨i, List.mem_range.2 h, hp⟩
theorem anyB_false {n : Nat} {p : Nat → Bool} (h : ∀ i, i < n → p i = false) : anyB n p = false := by
  unfold anyB; rw [List.any_eq_false]; intro i hi; rw [h i (List.mem_range.1 hi)]; simp
theorem anyB_ex {n : Nat} {p : Nat → Bool} (h : anyB n p = true) : ∃ i, i < n ∧ p i = true := by
  unfold anyB at h; rw [List.any_eq_true] at h
  obtain ⟨i, hi, hp⟩ := h
  exact ⟨i, List.mem_range.1 hi, hp⟩
def edgeBad (l : List Pt) (i : Nat) : Bool := between (pAt l i) (cor l (i + 1)) (cor l (i + 2)) || between (cor l (i + 1)) (cor l (i + 2)) (pAt l i)
def meetAt (l : List Pt) (i k : Nat) : Bool := ((((k + 1) % l.length : Nat) : Int) != (i : Int)) && meet (pAt l i) (cor l (i + 1)) (pAt l k) (cor l (k + 1))
def meetBad (l : List Pt) (i k : Nat) : Bool := decide (i + 2 ≤ k) && meetAt l i k
def badI (l : List Pt) (i : Nat) : Bool := edgeBad l i || anyB l.length (meetBad l i)
def badG (l : List Pt) (i : Nat) : Bool := samePt (pAt l i) (cor l (i + 1)) || badI l i
def pairBad (l : List Pt) (i : Nat) : Bool := anyB i fun k => samePt (pAt l i) (pAt l k)
def formBad (l : List Pt) : Bool := anyB l.length (badG l)
def formBadR (l : List Pt) : Bool := anyB l.length (pairBad l) || anyB l.length (badI l)

theorem between_self (a b : Pt) : between a b a = true := by
  unfold between cross
  have e : w64 (w64 (w64 (b.x - a.x) * w64 (a.y - a.y)) - w64 (w64 (b.y - a.y) * w64 (a.x - a.x))) = 0 := by
    rw [Int.sub_self, Int.sub_self, show w64 0 = 0 from rfl, Int.mul_zero, Int.mul_zero]; rfl
  rw [e]
  simp [within, mm]
  constructor
  · constructor <;> split <;> omega
  · constructor <;> split <;> omega
theorem formBad_eq (l : List Pt) (h3 : 3 ≤ l.length) : formBadR l = formBad l := by
  rw [Bool.eq_iff_iff]
  unfold formBad formBadR
  rw [Bool.or_eq_true]
  constructor
  · rintro (h | h)
    · obtain ⟨i, hi, h⟩ := anyB_ex h
      obtain ⟨k, hk, h⟩ := anyB_ex h
      have e := samePt_iff.1 h
      by_cases h1 : i = k + 1
      · refine anyB_true (i := k) (by omega) ?_
        unfold badG
        have : samePt (pAt l k) (cor l (k + 1)) = true := by
          rw [samePt_iff]
          unfold cor
          rw [Nat.mod_eq_of_lt (by omega), ← h1]; exact e.symm
        rw [this]; rfl
      · by_cases h2 : (i + 1) % l.length = k
        · refine anyB_true (i := i) hi ?_
          unfold badG
          have : samePt (pAt l i) (cor l (i + 1)) = true := by
            rw [samePt_iff]
            unfold cor
            rw [h2]; exact e
          rw [this]; rfl
        · refine anyB_true (i := k) (by omega) ?_
          unfold badG badI
          have : anyB l.length (meetBad l k) = true := by
            refine anyB_true (i := i) hi ?_
            unfold meetBad meetAt
            rw [decide_eq_true (by omega), Bool.true_and, Bool.and_eq_true]
            refine ⟨by rw [bne_iff_ne]; intro h; exact h2 (by exact_mod_cast h), ?_⟩
            unfold meet
            rw [e, between_self]; rfl
          rw [this]; simp
    · obtain ⟨i, hi, h⟩ := anyB_ex h
      refine anyB_true hi ?_
      unfold badG; rw [h]; simp
  · intro h
    obtain ⟨i, hi, h⟩ := anyB_ex h
    unfold badG at h
    rw [Bool.or_eq_true] at h
    rcases h with h | h
    · left
      have e := samePt_iff.1 h
      unfold cor at e
      have hm := Nat.mod_lt (i + 1) (show 0 < l.length by omega)
      have hne : (i + 1) % l.length ≠ i := by
        intro h'
        by_cases hc : i + 1 < l.length
        · rw [Nat.mod_eq_of_lt hc] at h'; omega
        · have : i + 1 = l.length := by omega
          rw [this, Nat.mod_self] at h'; omega
      rcases Nat.lt_or_gt_of_ne hne with h1 | h1
      · refine anyB_true hi (anyB_true h1 ?_)
        rw [samePt_iff]; exact e
      · refine anyB_true hm (anyB_true h1 ?_)
        rw [samePt_iff]; exact e.symm
    · exact .inr (anyB_true hi h)

theorem simple (l : List Pt) (h3 : 3 ≤ l.length) (h40 : l.length ≤ 40) : CallP Tryz.prog 180 [pts l] (vB (!formBad l)) := by
  have hne : l ≠ [] := by intro h; subst h; simp at h3
  refine callP_of_ex (rc := []) (N := 69) Tryz.func180 rfl rfl Tryz.call180 tab_ok mix rfl rfl (fun cx href => ?_)
  refine AW.loopI (fun i : Nat => ⟨[(0, pts l), (3, vI l.length), (11, vI l.length), (12, vI i)], []⟩) (fun i => i ≤ l.length ∧ ∀ j, j < i → badG l j = false) (fun i => l.length - i) 0 ⟨Nat.zero_le _, fun j hj => absurd hj (Nat.not_lt_zero j)⟩ ?_ ?_
  · exact SubI.of0 href [] rfl trivial ⟨⟨rfl, LeQ.rfl⟩, ⟨rfl, LeQ.rfl⟩, ⟨rfl, LeQ.rfl⟩, ⟨rfl, LeQ.rfl⟩, trivial⟩
  · rintro i ⟨hi, hj⟩
    refine ex.sound (rc := []) tab_ok mix href _ ?_
    refine And.intro (fun h => ?_) (fun h => ?_)
    · have h : (i : Int) < l.length := decT h
      have e1 : w64 ((i : Int) + 1) = ((i + 1 : Nat) : Int) := w64_of (by omega) (by omega)
      have e2 : w64 ((i : Int) + 2) = ((i + 2 : Nat) : Int) := w64_of (by omega) (by omega)
      have c1 : CallP Tryz.prog 203 [pts l, vI (w64 ((i : Int) + 1))] (pt (cor l (i + 1))) := by rw [e1]; exact gcorner l (i + 1) hne
      have c2 : CallP Tryz.prog 203 [pts l, vI (w64 ((i : Int) + 2))] (pt (cor l (i + 2))) := by rw [e2]; exact gcorner l (i + 2) hne
      refine oi ⟨by omega, by omega⟩ ?_
      refine callN c1 ?_
      refine callN c2 ?_
      refine And.intro (by kernel_rfl) ?_
      repeat first | refine sk ?_ | refine st ?_ | refine sg ?_ | refine sh ?_ | refine su ?_ | refine sn1 ?_ | refine sn0 ?_
      refine callG (on (pAt l i) (cor l (i + 1)) (cor l (i + 2))) ?_
      repeat first | refine sk ?_ | refine st ?_ | refine sg ?_ | refine sh ?_ | refine su ?_ | refine sn1 ?_ | refine sn0 ?_
      refine callG (on (cor l (i + 1)) (cor l (i + 2)) (pAt l i)) ?_
      repeat first | refine sk ?_ | refine st ?_ | refine sg ?_ | refine sh ?_ | refine su ?_ | refine sn1 ?_ | refine sn0 ?_
      refine And.intro (fun h' => ?_) (fun h' => ?_)
      · have h' : (samePt (pAt l i) (cor l (i + 1)) || between (pAt l i) (cor l (i + 1)) (cor l (i + 2)) || between (cor l (i + 1)) (cor l (i + 2)) (pAt l i)) = true := h'
        refine SubR.lit ?_
        have : formBad l = true := anyB_true (i := i) (by omega) (by unfold badG badI edgeBad; rw [Bool.or_assoc] at h'; rw [← Bool.or_assoc, h']; rfl)
        rw [this]; rfl
      · have h' : (samePt (pAt l i) (cor l (i + 1)) || between (pAt l i) (cor l (i + 1)) (cor l (i + 2)) || between (cor l (i + 1)) (cor l (i + 2)) (pAt l i)) = false := h'
        refine AW.loopI (fun k : Nat => ⟨[(0, pts l), (3, vI l.length), (11, vI l.length), (12, vI i), (4, vI i), (5, .s (.ptr 5 0)), (6, .s (.ptr 6 0)), (8, vI k)], [(5, some (ptB (pAt l i))), (6, some (ptB (cor l (i + 1))))]⟩) (fun k => i + 2 ≤ k ∧ k ≤ l.length + 2 ∧ ∀ m, m < k → meetBad l i m = false) (fun k => l.length + 2 - k) (i + 2) ⟨by omega, by omega, fun m hm => by unfold meetBad; rw [decide_eq_false (by omega)]; rfl⟩ ?_ ?_
        · exact SubI.of0 href [] rfl ⟨⟨rfl, LeBx.rfl⟩, ⟨rfl, LeBx.rfl⟩, trivial⟩ ⟨⟨rfl, LeQ.rfl⟩, ⟨rfl, LeQ.rfl⟩, ⟨rfl, LeQ.rfl⟩, ⟨rfl, LeQ.rfl⟩, ⟨rfl, LeQ.rfl⟩, ⟨rfl, LeQ.rfl⟩, ⟨rfl, LeQ.rfl⟩, ⟨rfl, LeQ.int e2⟩, trivial⟩
        · rintro k ⟨hk1, hk2, hm⟩
          refine ex.sound (rc := []) tab_ok mix href _ ?_
          refine And.intro (fun h'' => ?_) (fun h'' => ?_)
          · have h'' : (k : Int) < l.length := decT h''
            have e3 : w64 ((k : Int) + 1) = ((k + 1 : Nat) : Int) := w64_of (by omega) (by omega)
            have e4 : (w64 ((k : Int) + 1)).tmod l.length = (((k + 1) % l.length : Nat) : Int) := by
              rw [e3, Int.tmod_eq_emod_of_nonneg (by omega)]; rfl
            have c3 : CallP Tryz.prog 203 [pts l, vI (w64 ((k : Int) + 1))] (pt (cor l (k + 1))) := by rw [e3]; exact gcorner l (k + 1) hne
            refine oi (by omega) ?_
            repeat first | refine sk ?_ | refine st ?_ | refine sg ?_ | refine sh ?_ | refine su ?_ | refine sn1 ?_ | refine sn0 ?_
            refine og (fun _ => ⟨by omega, by omega⟩) ?_
            repeat first | refine sk ?_ | refine st ?_ | refine sg ?_ | refine sh ?_ | refine su ?_ | refine sn1 ?_ | refine sn0 ?_
            refine callG c3 ?_
            repeat first | refine sk ?_ | refine st ?_ | refine sg ?_ | refine sh ?_ | refine su ?_ | refine sn1 ?_ | refine sn0 ?_
            refine callG (gmeet (pAt l i) (cor l (i + 1)) (pAt l k) (cor l (k + 1))) ?_
            repeat first | refine sk ?_ | refine st ?_ | refine sg ?_ | refine sh ?_ | refine su ?_ | refine sn1 ?_ | refine sn0 ?_
            refine And.intro (by kernel_rfl) ?_
            have key : (((w64 ((k : Int) + 1)).tmod l.length != (i : Int)) && meet (pAt l i) (cor l (i + 1)) (pAt l k) (cor l (k + 1))) = meetBad l i k := by
              unfold meetBad meetAt
              rw [decide_eq_true hk1, e4]; rfl
            refine And.intro (fun h3' => ?_) (fun h3' => ?_)
            · have h3' : meetBad l i k = true := key.symm.trans h3'
              refine SubR.lit ?_
              have : formBad l = true := anyB_true (i := i) (by omega) (by unfold badG badI; rw [anyB_true (i := k) (by omega) h3']; simp)
              rw [this]; rfl
            · have h3' : meetBad l i k = false := key.symm.trans h3'
              refine ⟨k + 1, ⟨by omega, by omega, fun m hm' => ?_⟩, by omega, ?_⟩
              · by_cases hmk : m = k
                · rw [hmk]; exact h3'
                · exact hm m (by omega)
              · exact SubI.of0 href [] rfl ⟨⟨rfl, LeBx.rfl⟩, ⟨rfl, LeBx.rfl⟩, trivial⟩ ⟨⟨rfl, LeQ.rfl⟩, ⟨rfl, LeQ.rfl⟩, ⟨rfl, LeQ.rfl⟩, ⟨rfl, LeQ.rfl⟩, ⟨rfl, LeQ.rfl⟩, ⟨rfl, LeQ.rfl⟩, ⟨rfl, LeQ.rfl⟩, ⟨rfl, LeQ.int e3⟩, trivial⟩
          · have h'' : ¬ (k : Int) < l.length := decF h''
            refine ⟨i + 1, ⟨by omega, fun j hj' => ?_⟩, by omega, ?_⟩
            · by_cases hji : j = i
              · subst hji
                have hb : anyB l.length (meetBad l j) = false := anyB_false fun m hm' => hm m (by omega)
                unfold badG badI edgeBad
                rw [hb]
                simp only [Bool.or_eq_false_iff] at h' ⊢
                exact ⟨h'.1.1, ⟨h'.1.2, h'.2⟩, trivial⟩
              · exact hj j (by omega)
            · exact SubI.of0 href [] rfl trivial ⟨⟨rfl, LeQ.rfl⟩, ⟨rfl, LeQ.rfl⟩, ⟨rfl, LeQ.rfl⟩, ⟨rfl, LeQ.int e1⟩, trivial⟩
    · have h : ¬ (i : Int) < l.length := decF h
      refine SubR.lit ?_
      have : formBad l = false := anyB_false fun j hj' => hj j (by omega)
      rw [this]; rfl
def errPoly (l : List Pt) : Int :=
  bif decide ((l.length : Int) < 3) then 10 else bif decide ((l.length : Int) > 40) then 8 else bif l.any (fun p => !good p) then 2 else bif formBad l then 3 else 0
theorem shape1 (l : List Pt) : CallP Tryz.prog 175 [pts l] (vB (decide ((l.length : Int) < 3))) := by
  refine callP_of_ex (rc := []) (N := 6) Tryz.func175 rfl rfl Tryz.call175 tab_ok mix rfl rfl (fun cx href => ?_)
  exact SubR.refl _
theorem shape2 (l : List Pt) : CallP Tryz.prog 176 [pts l] (vB (decide ((l.length : Int) > 40))) := by
  refine callP_of_ex (rc := []) (N := 6) Tryz.func176 rfl rfl Tryz.call176 tab_ok mix rfl rfl (fun cx href => ?_)
  exact SubR.refl _
theorem shape3 (l : List Pt) (hl : l.length ≤ 9223372036854775807) : CallP Tryz.prog 177 [pts l] (vB (l.any fun p => !good p)) := by
  refine callP_of_ex (rc := []) (N := 5) Tryz.func177 rfl rfl Tryz.call177 tab_ok mix rfl rfl (fun cx href => ?_)
  exact callN (goutside l hl) (SubR.refl _)
theorem shape4 (l : List Pt) (h3 : 3 ≤ l.length) (h40 : l.length ≤ 40) : CallP Tryz.prog 179 [pts l] (vB (formBad l)) := by
  refine callP_of_ex (rc := []) (N := 6) Tryz.func179 rfl rfl Tryz.call179 tab_ok mix rfl rfl (fun cx href => ?_)
  exact callN (simple l h3 h40) (SubR.of_eq (by show vB (!(!_)) = _; simp))
abbrev shapeC : List SV := [.d (dI 10), .d (.clo 175 0 fun _ => .junk), .d (dI 8), .d (.clo 176 0 fun _ => .junk), .d (dI 2), .d (.clo 177 0 fun _ => .junk), .d (dI 3), .d (.clo 179 0 fun _ => .junk)]
theorem shapes : CallP Tryz.prog 145 [] (.g shapeC) := by
  refine callP_of_ex (rc := []) (N := 6) Tryz.func145 rfl rfl Tryz.call145 tab_ok mix rfl rfl (fun cx href => ?_)
  exact SubR.le ⟨LeD.refl _, LeD.clo fun j hj => absurd hj (Nat.not_lt_zero j), LeD.refl _, LeD.clo fun j hj => absurd hj (Nat.not_lt_zero j), LeD.refl _, LeD.clo fun j hj => absurd hj (Nat.not_lt_zero j), LeD.refl _, LeD.clo fun j hj => absurd hj (Nat.not_lt_zero j), trivial⟩
theorem gCheckPolygon (l : List Pt) (hl : l.length ≤ 9223372036854775807) : CallP Tryz.prog 122 [pts l] (vI (errPoly l)) := by
  refine callP_of_ex (rc := []) (N := 16) Tryz.func122 rfl rfl Tryz.call122 tab_ok mix rfl rfl (fun cx href => ?_)
  refine callN shapes ?_
  refine AW.loopI (fun i : Nat => ⟨[(0, pts l), (5, .g shapeC), (6, vI i)], []⟩)
    (fun i => i ≤ 4 ∧ (0 < i → decide ((l.length : Int) < 3) = false) ∧ (1 < i → decide ((l.length : Int) > 40) = false) ∧ (2 < i → (l.any fun p => !good p) = false) ∧ (3 < i → formBad l = false)) (fun i => 4 - i) 0 ⟨by omega, fun h => absurd h (by omega), fun h => absurd h (by omega), fun h => absurd h (by omega), fun h => absurd h (by omega)⟩ ?_ ?_
  · exact SubI.of0 href [] rfl trivial ⟨⟨rfl, LeQ.rfl⟩, ⟨rfl, LeQ.rfl⟩, ⟨rfl, LeQ.rfl⟩, trivial⟩
  · rintro i ⟨hi, h1, h2, h3, h4⟩
    refine ex.sound (rc := []) tab_ok mix href _ ?_
    match i, hi with
    | 0, _ =>
      refine And.intro (fun _ => ?_) (fun h => by cases h)
      refine oi ⟨by omega, by omega⟩ ?_
      refine callN (shape1 l) ?_
      refine And.intro (fun h => ?_) (fun h => ?_)
      · exact SubR.of_eq (by unfold errPoly; rw [h]; rfl)
      · refine ⟨1, ⟨by omega, fun _ => h, fun h => absurd h (by omega), fun h => absurd h (by omega), fun h => absurd h (by omega)⟩, by omega, ?_⟩
        exact SubI.of0 href [] rfl trivial ⟨⟨rfl, LeQ.rfl⟩, ⟨rfl, LeQ.rfl⟩, ⟨rfl, LeQ.rfl⟩, trivial⟩
    | 1, _ =>
      refine And.intro (fun _ => ?_) (fun h => by cases h)
      refine oi ⟨by omega, by omega⟩ ?_
      refine callN (shape2 l) ?_
      refine And.intro (fun h => ?_) (fun h => ?_)
      · exact SubR.of_eq (by unfold errPoly; rw [h1 (by omega), h]; rfl)
      · refine ⟨2, ⟨by omega, fun _ => h1 (by omega), fun _ => h, fun h => absurd h (by omega), fun h => absurd h (by omega)⟩, by omega, ?_⟩
        exact SubI.of0 href [] rfl trivial ⟨⟨rfl, LeQ.rfl⟩, ⟨rfl, LeQ.rfl⟩, ⟨rfl, LeQ.rfl⟩, trivial⟩
    | 2, _ =>
      refine And.intro (fun _ => ?_) (fun h => by cases h)
      refine oi ⟨by omega, by omega⟩ ?_
      refine callN (shape3 l hl) ?_
      refine And.intro (fun h => ?_) (fun h => ?_)
      · exact SubR.of_eq (by unfold errPoly; rw [h1 (by omega), h2 (by omega), h]; rfl)
      · refine ⟨3, ⟨by omega, fun _ => h1 (by omega), fun _ => h2 (by omega), fun _ => h, fun h => absurd h (by omega)⟩, by omega, ?_⟩
        exact SubI.of0 href [] rfl trivial ⟨⟨rfl, LeQ.rfl⟩, ⟨rfl, LeQ.rfl⟩, ⟨rfl, LeQ.rfl⟩, trivial⟩
    | 3, _ =>
      refine And.intro (fun _ => ?_) (fun h => by cases h)
      refine oi ⟨by omega, by omega⟩ ?_
      have g1 := decF (h1 (by omega))
      have g2 := decF (h2 (by omega))
      refine callN (shape4 l (by omega) (by omega)) ?_
      refine And.intro (fun h => ?_) (fun h => ?_)
      · exact SubR.of_eq (by unfold errPoly; rw [h1 (by omega), h2 (by omega), h3 (by omega), h]; rfl)
      · refine ⟨4, ⟨by omega, fun _ => h1 (by omega), fun _ => h2 (by omega), fun _ => h3 (by omega), fun _ => h⟩, by omega, ?_⟩
        exact SubI.of0 href [] rfl trivial ⟨⟨rfl, LeQ.rfl⟩, ⟨rfl, LeQ.rfl⟩, ⟨rfl, LeQ.rfl⟩, trivial⟩
    | 4, _ =>
      refine And.intro (fun h => by cases h) (fun _ => ?_)
      exact SubR.of_eq (by unfold errPoly; rw [h1 (by omega), h2 (by omega), h3 (by omega), h4 (by omega)]; rfl)
end Go.Ch

namespace Go.Ch
open Go Go.Ax Go.Proofs Go.Proofs.Tryz
set_option maxRecDepth 100000
set_option pp.maxSteps 400
set_option maxHeartbeats 1000000

theorem any_getD {α : Type} [Inhabited α] (p : α → Bool) (l : List α) (i : Nat) (hi : i < l.length) (h : p (l.getD i default) = true) : l.any p = true := by
  rw [List.any_eq_true]
  exact ⟨l[i], by simp, by rw [getD_of hi] at h; exact h⟩
theorem any_drop {α : Type} [Inhabited α] (p : α → Bool) (l : List α) (h : ∀ i, i < l.length → p (l.getD i default) = false) : l.any p = false := by
  rw [List.any_eq_false]
  intro x hx
  obtain ⟨i, hi, rfl⟩ := List.getElem_of_mem hx
  have := h i hi
  rw [getD_of hi] at this
  rw [this]; simp
theorem rCheckPolygon (l : List Pt) (hl : l.length ≤ 9223372036854775807) : CallP Tryz.prog 89 [pts l] (vI (errPoly l)) := by
  refine callP_of_ex (rc := []) (N := 102) Tryz.func89 rfl rfl Tryz.call89 tab_ok mix rfl rfl (fun cx href => ?_)
  refine And.intro (fun h1 => ?_) (fun h1 => ?_)
  · exact SubR.of_eq (by unfold errPoly; rw [h1]; rfl)
  refine And.intro (fun h2 => ?_) (fun h2 => ?_)
  · exact SubR.of_eq (by unfold errPoly; rw [h1, h2]; rfl)
  have g1 := decF h1
  have g2 := decF h2
  have hne : l ≠ [] := by intro h; subst h; simp at g1
  refine AW.loopI (fun i : Nat => ⟨[(0, pts l), (3, vI i)], []⟩) (fun i => i ≤ l.length ∧ ∀ j, j < i → good (pAt l j) = true) (fun i => l.length - i) 0 ⟨Nat.zero_le _, fun j hj => absurd hj (Nat.not_lt_zero j)⟩ ?_ ?_
  · exact SubI.of0 href [] rfl trivial ⟨⟨rfl, LeQ.rfl⟩, ⟨rfl, LeQ.rfl⟩, trivial⟩
  · rintro i ⟨hi, hj⟩
    refine ex.sound (rc := []) tab_ok mix href _ ?_
    refine And.intro (fun h => ?_) (fun h => ?_)
    · have h : (i : Int) < l.length := decT h
      refine oi ⟨by omega, by omega⟩ ?_
      refine callN (Good (pAt l i)) ?_
      refine And.intro (fun h' => ?_) (fun h' => ?_)
      · have h' : (!good (pAt l i)) = true := h'
        refine SubR.of_eq ?_
        unfold errPoly
        rw [h1, h2, any_getD (fun p => !good p) l i (by omega) h']; rfl
      · have h' : (!good (pAt l i)) = false := h'
        refine ⟨i + 1, ⟨by omega, fun j hj' => ?_⟩, by omega, ?_⟩
        · by_cases hji : j = i
          · rw [hji]; simpa using h'
          · exact hj j (by omega)
        · exact SubI.of0 href [] rfl trivial ⟨⟨rfl, LeQ.rfl⟩, ⟨rfl, LeQ.int (w64_of (by omega) (by omega))⟩, trivial⟩
    · have h : ¬ (i : Int) < l.length := decF h
      have h3 : (l.any fun p => !good p) = false := any_drop _ l fun j hj' => by rw [hj j (by omega)]; rfl
      have fin : ∀ b, formBadR l = b → errPoly l = bif b then 3 else 0 := by
        intro b hb
        unfold errPoly
        rw [h1, h2, h3, ← formBad_eq l (by omega), hb]; rfl
      -- the pairs
      refine AW.loopI (fun i : Nat => ⟨[(0, pts l), (4, vI l.length), (5, vI i)], []⟩) (fun i => i ≤ l.length ∧ ∀ j, j < i → pairBad l j = false) (fun i => l.length - i) 0 ⟨Nat.zero_le _, fun j hj => absurd hj (Nat.not_lt_zero j)⟩ ?_ ?_
      · exact SubI.of0 href [] rfl trivial ⟨⟨rfl, LeQ.rfl⟩, ⟨rfl, LeQ.rfl⟩, ⟨rfl, LeQ.rfl⟩, trivial⟩
      · rintro i ⟨hi, hj⟩
        refine ex.sound (rc := []) tab_ok mix href _ ?_
        refine And.intro (fun h => ?_) (fun h => ?_)
        · have h : (i : Int) < l.length := decT h
          refine AW.loopI (fun k : Nat => ⟨[(0, pts l), (4, vI l.length), (5, vI i), (6, vI k)], []⟩) (fun k => k ≤ i ∧ ∀ j, j < k → samePt (pAt l i) (pAt l j) = false) (fun k => i - k) 0 ⟨Nat.zero_le _, fun j hj => absurd hj (Nat.not_lt_zero j)⟩ ?_ ?_
          · exact SubI.of0 href [] rfl trivial ⟨⟨rfl, LeQ.rfl⟩, ⟨rfl, LeQ.rfl⟩, ⟨rfl, LeQ.rfl⟩, ⟨rfl, LeQ.rfl⟩, trivial⟩
          · rintro k ⟨hk, hm⟩
            refine ex.sound (rc := []) tab_ok mix href _ ?_
            refine And.intro (fun h' => ?_) (fun h' => ?_)
            · have h' : (k : Int) < i := decT h'
              refine oi ⟨by omega, by omega⟩ ?_
              refine oi ⟨by omega, by omega⟩ ?_
              refine And.intro (by kernel_rfl) ?_
              refine And.intro (fun h'' => ?_) (fun h'' => ?_)
              · have h'' : samePt (pAt l i) (pAt l k) = true := h''
                exact SubR.of_eq (by rw [fin true (by unfold formBadR; rw [anyB_true (i := i) (by omega) (anyB_true (i := k) (by omega) h'')]; rfl)]; rfl)
              · have h'' : samePt (pAt l i) (pAt l k) = false := h''
                refine ⟨k + 1, ⟨by omega, fun j hj' => ?_⟩, by omega, ?_⟩
                · by_cases hjk : j = k
                  · rw [hjk]; exact h''
                  · exact hm j (by omega)
                · exact SubI.of0 href [] rfl trivial ⟨⟨rfl, LeQ.rfl⟩, ⟨rfl, LeQ.rfl⟩, ⟨rfl, LeQ.rfl⟩, ⟨rfl, LeQ.int (w64_of (by omega) (by omega))⟩, trivial⟩
            · have h' : ¬ (k : Int) < i := decF h'
              refine ⟨i + 1, ⟨by omega, fun j hj' => ?_⟩, by omega, ?_⟩
              · by_cases hji : j = i
                · rw [hji]; exact anyB_false fun m hm' => hm m (by omega)
                · exact hj j (by omega)
              · exact SubI.of0 href [] rfl trivial ⟨⟨rfl, LeQ.rfl⟩, ⟨rfl, LeQ.rfl⟩, ⟨rfl, LeQ.int (w64_of (by omega) (by omega))⟩, trivial⟩
        · have h : ¬ (i : Int) < l.length := decF h
          have hpair : anyB l.length (pairBad l) = false := anyB_false fun j hj' => hj j (by omega)
          -- the edges
          refine AW.loopI (fun i : Nat => ⟨[(0, pts l), (4, vI l.length), (7, vI i)], []⟩) (fun i => i ≤ l.length ∧ ∀ j, j < i → badI l j = false) (fun i => l.length - i) 0 ⟨Nat.zero_le _, fun j hj => absurd hj (Nat.not_lt_zero j)⟩ ?_ ?_
          · exact SubI.of0 href [] rfl trivial ⟨⟨rfl, LeQ.rfl⟩, ⟨rfl, LeQ.rfl⟩, ⟨rfl, LeQ.rfl⟩, trivial⟩
          · rintro i ⟨hi, hj⟩
            refine ex.sound (rc := []) tab_ok mix href _ ?_
            refine And.intro (fun h => ?_) (fun h => ?_)
            · have h : (i : Int) < l.length := decT h
              have e1 : w64 ((i : Int) + 1) = ((i + 1 : Nat) : Int) := w64_of (by omega) (by omega)
              have e2 : w64 ((i : Int) + 2) = ((i + 2 : Nat) : Int) := w64_of (by omega) (by omega)
              have c0 : CallP Tryz.prog 123 [pts l, vI i] (pt (pAt l i)) := by have := corner l i hne; rw [Nat.mod_eq_of_lt (by omega)] at this; exact this
              have c1 : CallP Tryz.prog 123 [pts l, vI (w64 ((i : Int) + 1))] (pt (cor l (i + 1))) := by rw [e1]; exact corner l (i + 1) hne
              have c2 : CallP Tryz.prog 123 [pts l, vI (w64 ((i : Int) + 2))] (pt (cor l (i + 2))) := by rw [e2]; exact corner l (i + 2) hne
              refine callN c0 ?_
              refine callN c1 ?_
              refine callN c2 ?_
              refine callN (Between (pAt l i) (cor l (i + 1)) (cor l (i + 2))) ?_
              repeat first | refine sk ?_ | refine st ?_ | refine sg ?_ | refine sh ?_ | refine su ?_ | refine sn1 ?_ | refine sn0 ?_
              refine callG (Between (cor l (i + 1)) (cor l (i + 2)) (pAt l i)) ?_
              repeat first | refine sk ?_ | refine st ?_ | refine sg ?_ | refine sh ?_ | refine su ?_ | refine sn1 ?_ | refine sn0 ?_
              refine And.intro (fun h' => ?_) (fun h' => ?_)
              · have h' : edgeBad l i = true := h'
                exact SubR.of_eq (by rw [fin true (by unfold formBadR; rw [anyB_true (i := i) (p := badI l) (by omega) (by unfold badI; rw [h']; rfl)]; simp)]; rfl)
              · have h' : edgeBad l i = false := h'
                refine AW.loopI (fun k : Nat => ⟨[(0, pts l), (4, vI l.length), (7, vI i), (8, .s (.ptr 8 0)), (9, .s (.ptr 9 0)), (11, vI k)], [(8, some (ptB (pAt l i))), (9, some (ptB (cor l (i + 1))))]⟩) (fun k => i + 2 ≤ k ∧ k ≤ l.length + 2 ∧ ∀ m, m < k → meetBad l i m = false) (fun k => l.length + 2 - k) (i + 2) ⟨by omega, by omega, fun m hm => by unfold meetBad; rw [decide_eq_false (by omega)]; rfl⟩ ?_ ?_
                · exact SubI.of0 href [] rfl ⟨⟨rfl, LeBx.rfl⟩, ⟨rfl, LeBx.rfl⟩, trivial⟩ ⟨⟨rfl, LeQ.rfl⟩, ⟨rfl, LeQ.rfl⟩, ⟨rfl, LeQ.rfl⟩, ⟨rfl, LeQ.rfl⟩, ⟨rfl, LeQ.rfl⟩, ⟨rfl, LeQ.int e2⟩, trivial⟩
                · rintro k ⟨hk1, hk2, hm⟩
                  refine ex.sound (rc := []) tab_ok mix href _ ?_
                  refine And.intro (fun h'' => ?_) (fun h'' => ?_)
                  · have h'' : (k : Int) < l.length := decT h''
                    have e3 : w64 ((k : Int) + 1) = ((k + 1 : Nat) : Int) := w64_of (by omega) (by omega)
                    have e4 : (w64 ((k : Int) + 1)).tmod l.length = (((k + 1) % l.length : Nat) : Int) := by
                      rw [e3, Int.tmod_eq_emod_of_nonneg (by omega)]; rfl
                    have d0 : CallP Tryz.prog 123 [pts l, vI k] (pt (pAt l k)) := by have := corner l k hne; rw [Nat.mod_eq_of_lt (by omega)] at this; exact this
                    have d1 : CallP Tryz.prog 123 [pts l, vI (w64 ((k : Int) + 1))] (pt (cor l (k + 1))) := by rw [e3]; exact corner l (k + 1) hne
                    refine oi (by omega) ?_
                    repeat first | refine sk ?_ | refine st ?_ | refine sg ?_ | refine sh ?_ | refine su ?_ | refine sn1 ?_ | refine sn0 ?_
                    refine callG d0 ?_
                    repeat first | refine sk ?_ | refine st ?_ | refine sg ?_ | refine sh ?_ | refine su ?_ | refine sn1 ?_ | refine sn0 ?_
                    refine callG d1 ?_
                    repeat first | refine sk ?_ | refine st ?_ | refine sg ?_ | refine sh ?_ | refine su ?_ | refine sn1 ?_ | refine sn0 ?_
                    refine callG (Meet (pAt l i) (cor l (i + 1)) (pAt l k) (cor l (k + 1))) ?_
                    repeat first | refine sk ?_ | refine st ?_ | refine sg ?_ | refine sh ?_ | refine su ?_ | refine sn1 ?_ | refine sn0 ?_
                    refine And.intro (by kernel_rfl) ?_
                    have key : (((w64 ((k : Int) + 1)).tmod l.length != (i : Int)) && meet (pAt l i) (cor l (i + 1)) (pAt l k) (cor l (k + 1))) = meetBad l i k := by
                      unfold meetBad meetAt
                      rw [decide_eq_true hk1, e4]; rfl
                    refine And.intro (fun h3' => ?_) (fun h3' => ?_)
                    · have h3' : meetBad l i k = true := key.symm.trans h3'
                      exact SubR.of_eq (by rw [fin true (by unfold formBadR; rw [anyB_true (i := i) (p := badI l) (by omega) (by unfold badI; rw [anyB_true (i := k) (by omega) h3']; simp)]; simp)]; rfl)
                    · have h3' : meetBad l i k = false := key.symm.trans h3'
                      refine ⟨k + 1, ⟨by omega, by omega, fun m hm' => ?_⟩, by omega, ?_⟩
                      · by_cases hmk : m = k
                        · rw [hmk]; exact h3'
                        · exact hm m (by omega)
                      · exact SubI.of0 href [] rfl ⟨⟨rfl, LeBx.rfl⟩, ⟨rfl, LeBx.rfl⟩, trivial⟩ ⟨⟨rfl, LeQ.rfl⟩, ⟨rfl, LeQ.rfl⟩, ⟨rfl, LeQ.rfl⟩, ⟨rfl, LeQ.rfl⟩, ⟨rfl, LeQ.rfl⟩, ⟨rfl, LeQ.int e3⟩, trivial⟩
                  · have h'' : ¬ (k : Int) < l.length := decF h''
                    refine ⟨i + 1, ⟨by omega, fun j hj' => ?_⟩, by omega, ?_⟩
                    · by_cases hji : j = i
                      · subst hji
                        have hb : anyB l.length (meetBad l j) = false := anyB_false fun m hm' => hm m (by omega)
                        unfold badI
                        rw [hb, h']; rfl
                      · exact hj j (by omega)
                    · exact SubI.of0 href [] rfl trivial ⟨⟨rfl, LeQ.rfl⟩, ⟨rfl, LeQ.rfl⟩, ⟨rfl, LeQ.int e1⟩, trivial⟩
            · have h : ¬ (i : Int) < l.length := decF h
              exact SubR.of_eq (by rw [fin false (by unfold formBadR; rw [hpair, anyB_false (p := badI l) fun j hj' => hj j (by omega)]; rfl)]; rfl)
end Go.Ch

namespace Go.Ch
open Go Go.Ax Go.Proofs Go.Proofs.Tryz
set_option maxRecDepth 100000
set_option pp.maxSteps 400
set_option maxHeartbeats 1000000

def sameS (a b : ByteArray) : Bool := a.toList == b.toList
def regErr (r : Reg) (before : List Reg) : Int :=
  bif !isName r.name then 4 else bif before.any (fun q => sameS q.name r.name) then 5 else bif !within r.kind 0 3 then 2 else errPoly r.corners
def capR (s : ByteArray) : Nat → DV
  | 0 => dS s
  | _ => .junk
theorem region1 (q : Reg) (s : ByteArray) (f : Nat → DV) (hf : f 0 = dS s) : CallP Tryz.prog 121 [reg q, .s (.d (.rp 3 f))] (vB (sameS q.name s)) := by
  refine CallP.conv (args := [reg q, .s (.d (.rp 3 (capR s)))]) ?_ ⟨⟨LeD.refl _, LeD.refl _, LeD.refl _, trivial⟩, LeD.rp fun j hj => ?_, trivial⟩
  · refine callP_of_ex (rc := []) (N := 9) Tryz.func121 rfl rfl Tryz.call121 tab_ok mix rfl rfl (fun cx _ => ?_)
    exact SubR.refl _
  · match j with
    | 0 => exact LeD.of_eq hf
    | _ + 1 => exact fun _ _ _ => trivial
theorem checkRegion (r : Reg) (before : List Reg) (hr : r.name.size ≤ 9223372036854775807) (hc : r.corners.length ≤ 9223372036854775807) (hb : before.length ≤ 9223372036854775807) :
    CallP Tryz.prog 87 [reg r, vRegs before] (vI (regErr r before)) := by
  refine callP_of_ex (rc := []) (N := 21) Tryz.func87 rfl rfl Tryz.call87 tab_ok mix rfl rfl (fun cx href => ?_)
  refine callN (named r.name hr) ?_
  refine And.intro (fun h1 => ?_) (fun h1 => ?_)
  · exact SubR.of_eq (by unfold regErr; rw [h1]; rfl)
  refine callN (containsR before hb 121 1 _ (fun q => sameS q.name r.name) (fun q _ => region1 q r.name _ rfl)) ?_
  refine And.intro (fun h2 => ?_) (fun h2 => ?_)
  · exact SubR.of_eq (by unfold regErr; rw [h1, h2]; rfl)
  refine callN (outside _ _ _) ?_
  refine And.intro (fun h3 => ?_) (fun h3 => ?_)
  · exact SubR.of_eq (by unfold regErr; rw [h1, h2, h3]; rfl)
  refine callN (gCheckPolygon r.corners hc) ?_
  exact SubR.of_eq (by unfold regErr; rw [h1, h2, h3]; rfl)
theorem rRegionErr (r : Reg) (before : List Reg) (hr : r.name.size ≤ 9223372036854775807) (hc : r.corners.length ≤ 9223372036854775807) (hb : before.length ≤ 9223372036854775807) :
    CallP Tryz.prog 49 [reg r, vRegs before] (vI (regErr r before)) := by
  refine callP_of_ex (rc := []) (N := 31) Tryz.func49 rfl rfl Tryz.call49 tab_ok mix rfl rfl (fun cx href => ?_)
  refine callN (IsName r.name hr) ?_
  refine And.intro (fun h1 => ?_) (fun h1 => ?_)
  · exact SubR.of_eq (by unfold regErr; rw [h1]; rfl)
  refine AW.loopI (fun i : Nat => ⟨[(1, vRegs before), (2, .s (.ptr 2 0)), (5, vI i)], [(2, some (.cells [.d (dS r.name), .d (dI r.kind), .d (dPts r.corners)]))]⟩) (fun i => i ≤ before.length ∧ ∀ j, j < i → sameS (before.getD j default).name r.name = false) (fun i => before.length - i) 0 ⟨Nat.zero_le _, fun j hj => absurd hj (Nat.not_lt_zero j)⟩ ?_ ?_
  · exact SubI.of0 href [] rfl ⟨⟨rfl, LeBx.rfl⟩, trivial⟩ ⟨⟨rfl, LeQ.rfl⟩, ⟨rfl, LeQ.rfl⟩, ⟨rfl, LeQ.rfl⟩, trivial⟩
  · rintro i ⟨hi, hj⟩
    refine ex.sound (rc := []) tab_ok mix href _ ?_
    refine And.intro (fun h => ?_) (fun h => ?_)
    · have h : (i : Int) < before.length := decT h
      refine oi ⟨by omega, by omega⟩ ?_
      refine And.intro (by kernel_rfl) ?_
      refine And.intro (fun h' => ?_) (fun h' => ?_)
      · have h' : sameS (before.getD i default).name r.name = true := h'
        exact SubR.of_eq (by unfold regErr; rw [h1, any_getD (fun q : Reg => sameS q.name r.name) before i (by omega) h']; rfl)
      · refine ⟨i + 1, ⟨by omega, fun j hj' => ?_⟩, by omega, ?_⟩
        · by_cases hji : j = i
          · rw [hji]; exact h'
          · exact hj j (by omega)
        · exact SubI.of0 href [] rfl ⟨⟨rfl, LeBx.rfl⟩, trivial⟩ ⟨⟨rfl, LeQ.rfl⟩, ⟨rfl, LeQ.rfl⟩, ⟨rfl, LeQ.int (w64_of (by omega) (by omega))⟩, trivial⟩
    · have h : ¬ (i : Int) < before.length := decF h
      have h2 : (before.any fun q => sameS q.name r.name) = false := any_drop _ before fun j hj' => hj j (by omega)
      refine callN (Within _ _ _) ?_
      refine And.intro (fun h3 => ?_) (fun h3 => ?_)
      · exact SubR.of_eq (by unfold regErr; rw [h1, h2, h3]; rfl)
      refine callN (rCheckPolygon r.corners hc) ?_
      exact SubR.of_eq (by unfold regErr; rw [h1, h2, h3]; rfl)

def badA (over : Int) (a : Ap) : Bool := !good a.pt || !within a.half 1 100000 || !within a.level (w64 (over - 20000)) 20000 || !within a.run 0 1000
def sameA (l : List Ap) (i : Nat) : Bool := decide ((i : Int) > 0) && samePt (l.getD i default).pt (l.getD (w64 ((i : Int) - 1)).toNat default).pt
def axErrF (over : Int) (l : List Ap) : Nat → Nat → Int
  | 0, _ => 0
  | n + 1, i => bif badA over (l.getD i default) then 2 else bif sameA l i then 5 else axErrF over l n (i + 1)
def axErr (c : Chan) : Int := bif decide ((c.axis.length : Int) < 2) then 10 else bif decide ((c.axis.length : Int) > 20) then 8 else axErrF c.over c.axis c.axis.length 0
theorem checkAxis (c : Chan) : CallP Tryz.prog 86 [chan c] (vI (axErr c)) := by
  refine callP_of_ex (rc := []) (N := 58) Tryz.func86 rfl rfl Tryz.call86 tab_ok mix rfl rfl (fun cx href => ?_)
  refine And.intro (fun h1 => ?_) (fun h1 => ?_)
  · exact SubR.of_eq (by unfold axErr; rw [h1]; rfl)
  refine And.intro (fun h2 => ?_) (fun h2 => ?_)
  · exact SubR.of_eq (by unfold axErr; rw [h1, h2]; rfl)
  have g2 := decF h2
  refine AW.loopI (fun i : Nat => ⟨[(1, .s (.ptr 1 0)), (14, vAps c.axis), (15, vI c.axis.length), (16, vI i)], [(1, some (chanB c))]⟩) (fun i => i ≤ c.axis.length ∧ axErrF c.over c.axis c.axis.length 0 = axErrF c.over c.axis (c.axis.length - i) i) (fun i => c.axis.length - i) 0 ⟨Nat.zero_le _, rfl⟩ ?_ ?_
  · exact SubI.of0 href [] rfl ⟨⟨rfl, LeBx.rfl⟩, trivial⟩ ⟨⟨rfl, LeQ.rfl⟩, ⟨rfl, LeQ.rfl⟩, ⟨rfl, LeQ.rfl⟩, ⟨rfl, LeQ.rfl⟩, trivial⟩
  · rintro i ⟨hi, hj⟩
    refine ex.sound (rc := []) tab_ok mix href _ ?_
    refine And.intro (fun h => ?_) (fun h => ?_)
    · have h : (i : Int) < c.axis.length := decT h
      rw [show c.axis.length - i = (c.axis.length - (i + 1)) + 1 by omega, axErrF] at hj
      refine oi ⟨by omega, by omega⟩ ?_
      refine callN (place (axis c i)) ?_
      refine callN (inRange (axis c i).pt) ?_
      repeat first | refine sk ?_ | refine st ?_ | refine sg ?_ | refine sh ?_ | refine su ?_ | refine sn1 ?_ | refine sn0 ?_
      refine callG (outside _ _ _) ?_
      repeat first | refine sk ?_ | refine st ?_ | refine sg ?_ | refine sh ?_ | refine su ?_ | refine sn1 ?_ | refine sn0 ?_
      refine callG (outside _ _ _) ?_
      repeat first | refine sk ?_ | refine st ?_ | refine sg ?_ | refine sh ?_ | refine su ?_ | refine sn1 ?_ | refine sn0 ?_
      refine callG (outside _ _ _) ?_
      repeat first | refine sk ?_ | refine st ?_ | refine sg ?_ | refine sh ?_ | refine su ?_ | refine sn1 ?_ | refine sn0 ?_
      refine And.intro (fun h3 => ?_) (fun h3 => ?_)
      · have h3 : badA c.over (axis c i) = true := h3
        exact SubR.of_eq (by unfold axErr; rw [h1, h2, hj, h3]; rfl)
      have h3 : badA c.over (axis c i) = false := h3
      repeat first | refine sk ?_ | refine st ?_ | refine sg ?_ | refine sh ?_ | refine su ?_ | refine sn1 ?_ | refine sn0 ?_
      refine callG (place (axis c i)) ?_
      repeat first | refine sk ?_ | refine st ?_ | refine sg ?_ | refine sh ?_ | refine su ?_ | refine sn1 ?_ | refine sn0 ?_
      refine og (fun hb => ?_) ?_
      · have := decT hb
        show 0 ≤ w64 ((i : Int) - 1) ∧ w64 ((i : Int) - 1) < _
        rw [w64_of (n := (i : Int) - 1) (by omega) (by omega)]
        exact ⟨by omega, by omega⟩
      repeat first | refine sk ?_ | refine st ?_ | refine sg ?_ | refine sh ?_ | refine su ?_ | refine sn1 ?_ | refine sn0 ?_
      refine callG (place (c.axis.getD (w64 ((i : Int) - 1)).toNat default)) ?_
      repeat first | refine sk ?_ | refine st ?_ | refine sg ?_ | refine sh ?_ | refine su ?_ | refine sn1 ?_ | refine sn0 ?_
      refine And.intro (by kernel_rfl) ?_
      refine And.intro (fun h4 => ?_) (fun h4 => ?_)
      · have h4 : sameA c.axis i = true := h4
        exact SubR.of_eq (by unfold axErr; rw [h1, h2, hj, h3, h4]; rfl)
      · have h4 : sameA c.axis i = false := h4
        refine ⟨i + 1, ⟨by omega, by rw [hj, h3, h4]; rfl⟩, by omega, ?_⟩
        exact SubI.of0 href [] rfl ⟨⟨rfl, LeBx.rfl⟩, trivial⟩ ⟨⟨rfl, LeQ.rfl⟩, ⟨rfl, LeQ.rfl⟩, ⟨rfl, LeQ.rfl⟩, ⟨rfl, LeQ.int (w64_of (by omega) (by omega))⟩, trivial⟩
    · have h : ¬ (i : Int) < c.axis.length := decF h
      exact SubR.of_eq (by unfold axErr; rw [h1, h2, hj, show c.axis.length - i = 0 by omega]; rfl)

def regErrF (l : List Reg) : Nat → Nat → Int
  | 0, _ => 0
  | n + 1, i => bif regErr (l.getD i default) (l.take i) != 0 then regErr (l.getD i default) (l.take i) else regErrF l n (i + 1)
def errC (c : Chan) : Int :=
  bif !isName c.name then 4
  else bif !within c.over 0 1000 || !within c.buffer 0 100000 then 2
  else bif axErr c != 0 then axErr c
  else bif decide ((c.regions.length : Int) > 20) then 8
  else regErrF c.regions c.regions.length 0
theorem take_regs (l : List Reg) (i : Nat) (hi : i ≤ l.length) : LeD (.slc (i : Int).toNat 3 (regEl l)) (dRegs (l.take i)) := by
  refine LeD.slc' (by simp; omega) fun a b ha hb => LeD.of_eq ?_
  have ha : a < i := ha
  unfold regEl
  congr 1
  simp [ha]
theorem Reg.okD {l : List Reg} (h : ∀ a ∈ l, a.ok) {i : Nat} (hi : i < l.length) : (l.getD i default).ok := by
  rw [getD_of hi]; exact h _ (List.getElem_mem hi)
theorem gCheck (c : Chan) (hc : c.ok) : CallP Tryz.prog 43 [chan c] (vI (errC c)) := by
  refine callP_of_ex (rc := []) (N := 46) Tryz.func43 rfl rfl Tryz.call43 tab_ok mix rfl rfl (fun cx href => ?_)
  refine callN (named c.name hc.name) ?_
  refine And.intro (fun h1 => ?_) (fun h1 => ?_)
  · exact SubR.of_eq (by unfold errC; rw [h1]; rfl)
  refine callN (outside _ _ _) ?_
  repeat first | refine sk ?_ | refine st ?_ | refine sg ?_ | refine sh ?_ | refine su ?_ | refine sn1 ?_ | refine sn0 ?_
  refine callG (outside _ _ _) ?_
  repeat first | refine sk ?_ | refine st ?_ | refine sg ?_ | refine sh ?_ | refine su ?_ | refine sn1 ?_ | refine sn0 ?_
  refine And.intro (fun h2 => ?_) (fun h2 => ?_)
  · exact SubR.of_eq (by unfold errC; rw [h1, h2]; rfl)
  refine callN (checkAxis c) ?_
  refine And.intro (fun h3 => ?_) (fun h3 => ?_)
  · exact SubR.of_eq (by unfold errC; rw [h1, h2, h3]; rfl)
  refine And.intro (fun h4 => ?_) (fun h4 => ?_)
  · exact SubR.of_eq (by unfold errC; rw [h1, h2, h3, h4]; rfl)
  have g4 := decF h4
  refine AW.loopI (fun i : Nat => ⟨[(1, .s (.ptr 1 0)), (29, vRegs c.regions), (30, vI c.regions.length), (31, vI i)], [(1, some (chanB c))]⟩) (fun i => i ≤ c.regions.length ∧ regErrF c.regions c.regions.length 0 = regErrF c.regions (c.regions.length - i) i) (fun i => c.regions.length - i) 0 ⟨Nat.zero_le _, rfl⟩ ?_ ?_
  · exact SubI.of0 href [] rfl ⟨⟨rfl, LeBx.rfl⟩, trivial⟩ ⟨⟨rfl, LeQ.rfl⟩, ⟨rfl, LeQ.rfl⟩, ⟨rfl, LeQ.rfl⟩, ⟨rfl, LeQ.rfl⟩, trivial⟩
  · rintro i ⟨hi, hj⟩
    refine ex.sound (rc := []) tab_ok mix href _ ?_
    refine And.intro (fun h => ?_) (fun h => ?_)
    · have h : (i : Int) < c.regions.length := decT h
      rw [show c.regions.length - i = (c.regions.length - (i + 1)) + 1 by omega, regErrF] at hj
      have hok := Reg.okD hc.regs (show i < c.regions.length by omega)
      refine oi ⟨by omega, by omega⟩ ?_
      refine oi ⟨by decide, by show (0 : Int) ≤ (i : Int); omega, by show (i : Int) ≤ _; omega⟩ ?_
      refine callN ((checkRegion (c.regions.getD i default) (c.regions.take i) hok.1 hok.2.2.1 (by simp; omega)).conv (args' := _) ⟨⟨LeD.refl _, LeD.refl _, LeD.refl _, trivial⟩, take_regs c.regions i hi, trivial⟩) ?_
      refine And.intro (by kernel_rfl) ?_
      refine And.intro (fun h5 => ?_) (fun h5 => ?_)
      · exact SubR.of_eq (by unfold errC; rw [h1, h2, h3, h4, hj, h5]; rfl)
      · refine ⟨i + 1, ⟨by omega, by rw [hj, h5]; rfl⟩, by omega, ?_⟩
        exact SubI.of0 href [] rfl ⟨⟨rfl, LeBx.rfl⟩, trivial⟩ ⟨⟨rfl, LeQ.rfl⟩, ⟨rfl, LeQ.rfl⟩, ⟨rfl, LeQ.rfl⟩, ⟨rfl, LeQ.int (w64_of (by omega) (by omega))⟩, trivial⟩
    · have h : ¬ (i : Int) < c.regions.length := decF h
      exact SubR.of_eq (by unfold errC; rw [h1, h2, h3, h4, hj, show c.regions.length - i = 0 by omega]; rfl)
end Go.Ch

namespace Go.Ch
open Go Go.Ax Go.Proofs Go.Proofs.Tryz
set_option maxRecDepth 100000
set_option pp.maxSteps 400
set_option maxHeartbeats 1000000

theorem rCheck (c : Chan) (hc : c.ok) : CallP Tryz.prog 18 [chan c] (vI (errC c)) := by
  refine callP_of_ex (rc := []) (N := 104) Tryz.func18 rfl rfl Tryz.call18 tab_ok mix rfl rfl (fun cx href => ?_)
  refine callN (IsName c.name hc.name) ?_
  refine And.intro (fun h1 => ?_) (fun h1 => ?_)
  · exact SubR.of_eq (by unfold errC; rw [h1]; rfl)
  refine callN (Within _ _ _) ?_
  repeat first | refine sk ?_ | refine st ?_ | refine sg ?_ | refine sh ?_ | refine su ?_ | refine sn1 ?_ | refine sn0 ?_
  refine callG (Within _ _ _) ?_
  repeat first | refine sk ?_ | refine st ?_ | refine sg ?_ | refine sh ?_ | refine su ?_ | refine sn1 ?_ | refine sn0 ?_
  refine And.intro (fun h2 => ?_) (fun h2 => ?_)
  · exact SubR.of_eq (by unfold errC; rw [h1, h2]; rfl)
  refine And.intro (fun a1 => ?_) (fun a1 => ?_)
  · have h3 : axErr c = 10 := by unfold axErr; rw [a1]; rfl
    exact SubR.of_eq (by unfold errC; rw [h1, h2, h3]; rfl)
  refine And.intro (fun a2 => ?_) (fun a2 => ?_)
  · have h3 : axErr c = 8 := by unfold axErr; rw [a1, a2]; rfl
    exact SubR.of_eq (by unfold errC; rw [h1, h2, h3]; rfl)
  have g2 := decF a2
  refine AW.loopI (fun i : Nat => ⟨[(1, .s (.ptr 1 0)), (3, vI i)], [(1, some (chanB c))]⟩) (fun i => i ≤ c.axis.length ∧ axErrF c.over c.axis c.axis.length 0 = axErrF c.over c.axis (c.axis.length - i) i) (fun i => c.axis.length - i) 0 ⟨Nat.zero_le _, rfl⟩ ?_ ?_
  · exact SubI.of0 href [] rfl ⟨⟨rfl, LeBx.rfl⟩, trivial⟩ ⟨⟨rfl, LeQ.rfl⟩, ⟨rfl, LeQ.rfl⟩, trivial⟩
  · rintro i ⟨hi, hj⟩
    refine ex.sound (rc := []) tab_ok mix href _ ?_
    refine And.intro (fun h => ?_) (fun h => ?_)
    · have h : (i : Int) < c.axis.length := decT h
      rw [show c.axis.length - i = (c.axis.length - (i + 1)) + 1 by omega, axErrF] at hj
      refine oi ⟨by omega, by omega⟩ ?_
      refine callN (Place (axis c i)) ?_
      refine callN (Good (axis c i).pt) ?_
      repeat first | refine sk ?_ | refine st ?_ | refine sg ?_ | refine sh ?_ | refine su ?_ | refine sn1 ?_ | refine sn0 ?_
      refine callG (Within _ _ _) ?_
      repeat first | refine sk ?_ | refine st ?_ | refine sg ?_ | refine sh ?_ | refine su ?_ | refine sn1 ?_ | refine sn0 ?_
      refine callG (Within _ _ _) ?_
      repeat first | refine sk ?_ | refine st ?_ | refine sg ?_ | refine sh ?_ | refine su ?_ | refine sn1 ?_ | refine sn0 ?_
      refine callG (Within _ _ _) ?_
      repeat first | refine sk ?_ | refine st ?_ | refine sg ?_ | refine sh ?_ | refine su ?_ | refine sn1 ?_ | refine sn0 ?_
      have key : (!good (axis c i).pt || !within (axis c i).half 1 100000 || !within (axis c i).level (w64 (-20000 + c.over)) 20000 || !within (axis c i).run 0 1000) = badA c.over (axis c i) := by
        unfold badA
        rw [show -20000 + c.over = c.over - 20000 by omega]
      refine And.intro (fun h3 => ?_) (fun h3 => ?_)
      · have h3 : badA c.over (axis c i) = true := key.symm.trans h3
        have h3' : axErr c = 2 := by unfold axErr; rw [a1, a2, hj, h3]; rfl
        exact SubR.of_eq (by unfold errC; rw [h1, h2, h3']; rfl)
      have h3 : badA c.over (axis c i) = false := key.symm.trans h3
      repeat first | refine sk ?_ | refine st ?_ | refine sg ?_ | refine sh ?_ | refine su ?_ | refine sn1 ?_ | refine sn0 ?_
      refine callG (Place (axis c i)) ?_
      repeat first | refine sk ?_ | refine st ?_ | refine sg ?_ | refine sh ?_ | refine su ?_ | refine sn1 ?_ | refine sn0 ?_
      refine og (fun hb => ?_) ?_
      · have := decT hb
        show 0 ≤ w64 ((i : Int) - 1) ∧ w64 ((i : Int) - 1) < _
        rw [w64_of (n := (i : Int) - 1) (by omega) (by omega)]
        exact ⟨by omega, by omega⟩
      repeat first | refine sk ?_ | refine st ?_ | refine sg ?_ | refine sh ?_ | refine su ?_ | refine sn1 ?_ | refine sn0 ?_
      refine callG (Place (c.axis.getD (w64 ((i : Int) - 1)).toNat default)) ?_
      repeat first | refine sk ?_ | refine st ?_ | refine sg ?_ | refine sh ?_ | refine su ?_ | refine sn1 ?_ | refine sn0 ?_
      refine And.intro (by kernel_rfl) ?_
      refine And.intro (fun h4 => ?_) (fun h4 => ?_)
      · have h4 : sameA c.axis i = true := h4
        have h3' : axErr c = 5 := by unfold axErr; rw [a1, a2, hj, h3, h4]; rfl
        exact SubR.of_eq (by unfold errC; rw [h1, h2, h3']; rfl)
      · have h4 : sameA c.axis i = false := h4
        refine ⟨i + 1, ⟨by omega, by rw [hj, h3, h4]; rfl⟩, by omega, ?_⟩
        exact SubI.of0 href [] rfl ⟨⟨rfl, LeBx.rfl⟩, trivial⟩ ⟨⟨rfl, LeQ.rfl⟩, ⟨rfl, LeQ.int (w64_of (by omega) (by omega))⟩, trivial⟩
    · have h : ¬ (i : Int) < c.axis.length := decF h
      have h3 : axErr c = 0 := by unfold axErr; rw [a1, a2, hj, show c.axis.length - i = 0 by omega]; rfl
      refine And.intro (fun h4 => ?_) (fun h4 => ?_)
      · exact SubR.of_eq (by unfold errC; rw [h1, h2, h3, h4]; rfl)
      have g4 := decF h4
      refine AW.loopI (fun i : Nat => ⟨[(1, .s (.ptr 1 0)), (5, vI i)], [(1, some (chanB c))]⟩) (fun i => i ≤ c.regions.length ∧ regErrF c.regions c.regions.length 0 = regErrF c.regions (c.regions.length - i) i) (fun i => c.regions.length - i) 0 ⟨Nat.zero_le _, rfl⟩ ?_ ?_
      · exact SubI.of0 href [] rfl ⟨⟨rfl, LeBx.rfl⟩, trivial⟩ ⟨⟨rfl, LeQ.rfl⟩, ⟨rfl, LeQ.rfl⟩, trivial⟩
      · rintro i ⟨hi, hj⟩
        refine ex.sound (rc := []) tab_ok mix href _ ?_
        refine And.intro (fun h => ?_) (fun h => ?_)
        · have h : (i : Int) < c.regions.length := decT h
          rw [show c.regions.length - i = (c.regions.length - (i + 1)) + 1 by omega, regErrF] at hj
          have hok := Reg.okD hc.regs (show i < c.regions.length by omega)
          refine oi ⟨by omega, by omega⟩ ?_
          refine oi ⟨by decide, by show (0 : Int) ≤ (i : Int); omega, by show (i : Int) ≤ _; omega⟩ ?_
          refine callN ((rRegionErr (c.regions.getD i default) (c.regions.take i) hok.1 hok.2.2.1 (by simp; omega)).conv (args' := _) ⟨⟨LeD.refl _, LeD.refl _, LeD.refl _, trivial⟩, take_regs c.regions i hi, trivial⟩) ?_
          refine And.intro (by kernel_rfl) ?_
          refine And.intro (fun h5 => ?_) (fun h5 => ?_)
          · exact SubR.of_eq (by unfold errC; rw [h1, h2, h3, h4, hj, h5]; rfl)
          · refine ⟨i + 1, ⟨by omega, by rw [hj, h5]; rfl⟩, by omega, ?_⟩
            exact SubI.of0 href [] rfl ⟨⟨rfl, LeBx.rfl⟩, trivial⟩ ⟨⟨rfl, LeQ.rfl⟩, ⟨rfl, LeQ.int (w64_of (by omega) (by omega))⟩, trivial⟩
        · have h : ¬ (i : Int) < c.regions.length := decF h
          exact SubR.of_eq (by unfold errC; rw [h1, h2, h3, h4, hj, show c.regions.length - i = 0 by omega]; rfl)

def gridD (g : Grid) : Nat → DV
  | 0 => dI g.x
  | 1 => dI g.y
  | 2 => dI g.side
  | 3 => dI g.cols
  | 4 => dI g.rows
  | 5 => dInts g.levels
  | _ => .junk
def gridEl (l : List Grid) : Nat → Nat → DV := fun i => gridD (l.getD i default)
def dGrids (l : List Grid) : DV := .slc l.length 6 (gridEl l)
def gridsErr (l : List Grid) : Nat → Nat → Int
  | 0, _ => bif ((l.length : Int) == 2) && !alike (l.getD 0 default) (l.getD 1 default) then 10 else 0
  | n + 1, i => bif errG (l.getD i default) != 0 then errG (l.getD i default) else gridsErr l n (i + 1)
def withErr (c : Chan) (l : List Grid) : Int := bif errC c != 0 then errC c else gridsErr l l.length 0
theorem withErr1 (c : Chan) (g : Grid) : withErr c [g] = bif errC c != 0 then errC c else errG g := by
  unfold withErr
  cases h : errC c != 0
  · show gridsErr [g] 1 0 = errG g
    show (bif errG g != 0 then errG g else 0) = errG g
    cases h' : errG g != 0
    · simp at h'; exact h'.symm
    · rfl
  · rfl
theorem withErr2 (c : Chan) (a b : Grid) : withErr c [a, b] = bif errC c != 0 then errC c else bif errG a != 0 then errG a else bif errG b != 0 then errG b else bif !alike a b then 10 else 0 := rfl
attribute [local irreducible] errG errC in
theorem cboth (c : Chan) (g : Grid) (hc : c.ok) (hg : g.ok) : CallP Tryz.prog 142 [chan c, grid g] (vI (withErr c [g])) := by
  rw [withErr1]
  refine callP_of_ex (rc := []) (N := 13) Tryz.func142 rfl rfl Tryz.call142 tab_ok mix rfl rfl (fun cx href => ?_)
  refine callN (gCheck c hc) ?_
  refine And.intro (fun h1 => ?_) (fun h1 => ?_)
  · exact SubR.of_eq (by rw [h1]; rfl)
  refine callN (bcheck g hg.levels) ?_
  exact SubR.of_eq (by rw [h1]; rfl)
attribute [local irreducible] errG errC in
theorem cthree (c : Chan) (a b : Grid) (hc : c.ok) (ha : a.ok) (hb : b.ok) : CallP Tryz.prog 116 [chan c, grid a, grid b] (vI (withErr c [a, b])) := by
  have hw := withErr1 c a
  rw [withErr2]
  refine callP_of_ex (rc := []) (N := 53) Tryz.func116 rfl rfl Tryz.call116 tab_ok mix rfl rfl (fun cx href => ?_)
  refine callN (cboth c a hc ha) ?_
  refine And.intro (fun h1 => ?_) (fun h1 => ?_)
  · refine SubR.of_eq ?_
    show vI (withErr c [a]) = _
    have h1 : (withErr c [a] != 0) = true := h1
    rw [hw] at h1 ⊢
    cases h2 : errC c != 0
    · rw [h2] at h1
      have h1 : (errG a != 0) = true := h1
      rw [h1]; rfl
    · rfl
  have h1 : (withErr c [a] != 0) = false := h1
  rw [hw] at h1
  have h2 : (errC c != 0) = false := by
    cases h2 : errC c != 0
    · rfl
    · rw [h2] at h1
      have h1 : (errC c != 0) = false := h1
      rw [h2] at h1; cases h1
  rw [h2] at h1
  have h3 : (errG a != 0) = false := h1
  refine callN (bcheck b hb.levels) ?_
  refine And.intro (fun h4 => ?_) (fun h4 => ?_)
  · exact SubR.of_eq (by rw [h2, h3, h4]; rfl)
  repeat first | refine sk ?_ | refine st ?_ | refine sg ?_ | refine sh ?_ | refine su ?_ | refine sn1 ?_ | refine sn0 ?_
  have key : (a.x != b.x || a.y != b.y || a.side != b.side || a.cols != b.cols || a.rows != b.rows) = !alike a b := by
    unfold alike
    simp only [Bool.not_and, bne]
  refine And.intro (fun h5 => ?_) (fun h5 => ?_)
  · exact SubR.of_eq (by rw [h2, h3, h4, ← key]; rw [show (a.x != b.x || a.y != b.y || a.side != b.side || a.cols != b.cols || a.rows != b.rows) = true from h5]; rfl)
  · exact SubR.of_eq (by rw [h2, h3, h4, ← key]; rw [show (a.x != b.x || a.y != b.y || a.side != b.side || a.cols != b.cols || a.rows != b.rows) = false from h5]; rfl)

theorem axErrF_zero {over : Int} {l : List Ap} : ∀ {n i : Nat}, axErrF over l n i = 0 → ∀ j, i ≤ j → j < i + n → badA over (l.getD j default) = false ∧ sameA l j = false
  | 0, i, _, j, h1, h2 => by omega
  | n + 1, i, h, j, h1, h2 => by
    rw [axErrF] at h
    cases hb : badA over (l.getD i default) with
    | true => rw [hb] at h; cases h
    | false =>
      cases hs : sameA l i with
      | true => rw [hb, hs] at h; cases h
      | false =>
        rw [hb, hs] at h
        by_cases hij : j = i
        · subst hij; exact ⟨hb, hs⟩
        · exact axErrF_zero (n := n) (i := i + 1) h j (by omega) (by omega)
theorem val_of (c : Chan) (h : errC c = 0) : Val c := by
  unfold errC at h
  cases h1 : isName c.name with
  | false => rw [h1] at h; cases h
  | true =>
    rw [h1] at h
    cases h2 : (!within c.over 0 1000 || !within c.buffer 0 100000) with
    | true => rw [h2] at h; cases h
    | false =>
      rw [h2] at h
      cases h3 : axErr c != 0 with
      | true =>
        rw [h3] at h
        have h : axErr c = 0 := h
        rw [h] at h3; cases h3
      | false =>
        have h3 : axErr c = 0 := by simpa using h3
        unfold axErr at h3
        cases a1 : decide ((c.axis.length : Int) < 2) with
        | true => rw [a1] at h3; cases h3
        | false =>
          cases a2 : decide ((c.axis.length : Int) > 20) with
          | true => rw [a1, a2] at h3; cases h3
          | false =>
            rw [a1, a2] at h3
            have h3 : axErrF c.over c.axis c.axis.length 0 = 0 := h3
            have g1 := decF a1
            have g2 := decF a2
            simp [within] at h2
            have hov : w64 (c.over - 20000) = c.over - 20000 := w64_of (by omega) (by omega)
            have hA : ∀ i, i < c.axis.length → badA c.over (axis c i) = false ∧ sameA c.axis i = false := fun i hi => axErrF_zero h3 i (Nat.zero_le _) (by omega)
            have hB : ∀ i, i < c.axis.length → good (axis c i).pt = true ∧ (1 ≤ (axis c i).half ∧ (axis c i).half ≤ 100000) ∧ (c.over - 20000 ≤ (axis c i).level ∧ (axis c i).level ≤ 20000) ∧ (0 ≤ (axis c i).run ∧ (axis c i).run ≤ 1000) := by
              intro i hi
              have := (hA i hi).1
              unfold badA at this
              rw [hov] at this
              simp only [Bool.or_eq_false_iff, Bool.not_eq_false'] at this
              obtain ⟨⟨⟨q1, q2⟩, q3⟩, q4⟩ := this
              simp only [within, Bool.and_eq_true, decide_eq_true_eq, ge_iff_le] at q2 q3 q4
              exact ⟨q1, q2, q3, q4⟩
            refine ⟨by omega, by omega, fun i hi => (hB i hi).1, fun i hi => (hB i hi).2.1, fun i hi => (hB i hi).2.2.1, fun i hi => (hB i hi).2.2.2, fun i hi => ?_, by omega, by omega⟩
            intro he
            have := (hA (i + 1) hi).2
            unfold sameA at this
            rw [decide_eq_true (by omega), Bool.true_and, w64_of (by omega) (by omega)] at this
            have e : ((((i + 1 : Nat) : Int) - 1).toNat) = i := by omega
            rw [e] at this
            rw [samePt_iff.2 he.symm] at this
            cases this
end Go.Ch

namespace Go.Ch
open Go Go.Ax Go.Proofs Go.Proofs.Tryz
set_option maxRecDepth 100000
set_option pp.maxSteps 400
set_option maxHeartbeats 1000000

structure GVal (g : Grid) : Prop where
  x : -1000000 ≤ g.x ∧ g.x ≤ 1000000
  y : -1000000 ≤ g.y ∧ g.y ≤ 1000000
  side : 100 ≤ g.side ∧ g.side ≤ 10000
  cols : 1 ≤ g.cols ∧ g.cols ≤ 1024
  rows : 1 ≤ g.rows ∧ g.rows ≤ 1024
  most : g.cols * g.rows ≤ 1024
  right : g.x + g.cols * g.side ≤ 1000000
  top : g.y + g.rows * g.side ≤ 1000000
  len : (g.levels.length : Int) = g.cols * g.rows
  lev : ∀ n ∈ g.levels, n = 30000 ∨ (-20000 ≤ n ∧ n ≤ 20000)
theorem GVal.of {g : Grid} (h : errG g = 0) : GVal g := by
  unfold errG at h
  cases h1 : e1 g with
  | true => rw [h1] at h; cases h
  | false =>
    rw [h1] at h
    unfold e1 at h1
    simp only [Bool.or_eq_false_iff, Bool.not_eq_false'] at h1
    obtain ⟨⟨⟨⟨q1, q2⟩, q3⟩, q4⟩, q5⟩ := h1
    simp only [within, Bool.and_eq_true, decide_eq_true_eq, ge_iff_le] at q1 q2 q3 q4 q5
    have m1 := mul_le_of (a := g.cols) (b := g.rows) (A := 1024) (B := 1024) (by omega) (by omega) (by omega) (by omega)
    have m2 := mul_le_of (a := g.cols) (b := g.side) (A := 1024) (B := 10000) (by omega) (by omega) (by omega) (by omega)
    have m3 := mul_le_of (a := g.rows) (b := g.side) (A := 1024) (B := 10000) (by omega) (by omega) (by omega) (by omega)
    rw [w64_of (n := g.cols * g.rows) (by omega) (by omega), w64_of (n := g.cols * g.side) (by omega) (by omega), w64_of (n := g.rows * g.side) (by omega) (by omega),
      w64_of (n := g.x + g.cols * g.side) (by omega) (by omega), w64_of (n := g.y + g.rows * g.side) (by omega) (by omega)] at h
    cases h2 : decide (g.cols * g.rows > 1024) with
    | true => rw [h2] at h; cases h
    | false =>
      rw [h2] at h
      cases h3 : (decide (g.x + g.cols * g.side > 1000000) || decide (g.y + g.rows * g.side > 1000000)) with
      | true => rw [h3] at h; cases h
      | false =>
        rw [h3] at h
        cases h4 : ((g.levels.length : Int) != g.cols * g.rows) with
        | true => rw [h4] at h; cases h
        | false =>
          rw [h4] at h
          cases h5 : g.levels.any badL with
          | true => rw [h5] at h; cases h
          | false =>
            simp only [Bool.or_eq_false_iff, decide_eq_false_iff_not] at h2 h3
            have h4 : (g.levels.length : Int) = g.cols * g.rows := by simpa using h4
            refine ⟨q1, q2, q3, q4, q5, by omega, by omega, by omega, h4, fun n hn => ?_⟩
            rw [List.any_eq_false] at h5
            have := h5 n hn
            by_cases hu : n = 30000
            · exact .inl hu
            · right
              simp [badL, within, hu] at this
              omega
theorem GVal.n {g : Grid} (h : GVal g) : g.levels.length ≤ 1024 := by have := h.len; have := h.most; omega
theorem centre_good {g : Grid} (h : GVal g) {i : Nat} (hi : i < g.levels.length) : good (centreG g i) = true ∧
    centreG g i = ⟨g.x + (i : Int) % g.cols * g.side + g.side / 2, g.y + (i : Int) / g.cols * g.side + g.side / 2⟩ := by
  obtain ⟨hx, hy, hs, hc, hr, hm, hR, hT, hl, _⟩ := h
  have i0 : (0 : Int) ≤ (i : Int) := by omega
  have e1 : (i : Int).tmod g.cols = (i : Int) % g.cols := Int.tmod_eq_emod_of_nonneg i0
  have e2 : (i : Int).tdiv g.cols = (i : Int) / g.cols := Int.tdiv_eq_ediv_of_nonneg i0
  have m0 := Int.emod_nonneg (i : Int) (show g.cols ≠ 0 by omega)
  have m1 := Int.emod_lt_of_pos (i : Int) (show 0 < g.cols by omega)
  have d0 := Int.ediv_nonneg i0 (show 0 ≤ g.cols by omega)
  have d1 : (i : Int) / g.cols < g.rows := by
    apply Int.ediv_lt_of_lt_mul (by omega)
    rw [Int.mul_comm g.rows, ← hl]; omega
  have p1 : (i : Int) % g.cols * g.side ≤ (g.cols - 1) * g.side := Int.mul_le_mul_of_nonneg_right (by omega) (by omega)
  have p0 : 0 ≤ (i : Int) % g.cols * g.side := Int.mul_nonneg m0 (by omega)
  have p2 : (i : Int) / g.cols * g.side ≤ (g.rows - 1) * g.side := Int.mul_le_mul_of_nonneg_right (by omega) (by omega)
  have p3 : 0 ≤ (i : Int) / g.cols * g.side := Int.mul_nonneg d0 (by omega)
  rw [Int.sub_mul] at p1 p2
  have hh : g.side.tdiv 2 = g.side / 2 := Int.tdiv_eq_ediv_of_nonneg (by omega)
  have key : centreG g i = ⟨g.x + (i : Int) % g.cols * g.side + g.side / 2, g.y + (i : Int) / g.cols * g.side + g.side / 2⟩ := by
    unfold centreG cornerG
    simp only [e1, e2, hh]
    have lt : (i : Int) / g.cols ≤ 1024 := by omega
    rw [w64_of (n := (i : Int) % g.cols * g.side) (by omega) (by omega), w64_of (n := (i : Int) / g.cols) (by omega) (by omega), w64_of (n := (i : Int) / g.cols * g.side) (by omega) (by omega), w64_of (n := g.side / 2) (by omega) (by omega),
      w64_of (n := g.x + (i : Int) % g.cols * g.side) (by omega) (by omega), w64_of (n := g.y + (i : Int) / g.cols * g.side) (by omega) (by omega), w64_of (by omega) (by omega), w64_of (by omega) (by omega)]
  refine ⟨?_, key⟩
  rw [good_iff, key]
  simp only
  omega

abbrev gridB (g : Grid) : Box := .cells [.d (dI g.x), .d (dI g.y), .d (dI g.side), .d (dI g.cols), .d (dI g.rows), .d (dInts g.levels)]
/-- What one cell adds. -/
def payS (h : Int → Int → Int → Int) (b a : Grid) (over sum : Int) (i : Nat) (level : Int) : Int :=
  bif b.levels.getD i 0 != 30000 && a.levels.getD i 0 != 30000 then w64 (sum + w64 (w64 (b.side * b.side) * mm true 0 (h (b.levels.getD i 0) (a.levels.getD i 0) (w64 (level - over))))) else sum
abbrev payB (fh : Nat) (c : Chan) (b a : Grid) (sum : Int) : BoxL := [(1001, gridB b), (1002, gridB a), (1003, .cells [.d (dI sum)]), (1004, .cells [.d (.clo fh 0 fun _ => .junk)]), (1005, chanB c)]
theorem removed1 (fh : Nat) (h : Int → Int → Int → Int) (hh : ∀ x y z, CallP Tryz.prog fh [vI x, vI y, vI z] (vI (h x y z))) (c : Chan) (b a : Grid) (sum : Int) (i : Nat) (level : Int) (hb : i < b.levels.length) (ha : i < a.levels.length) :
    CallR Tryz.prog 118 [vI i, vI level, .s (.ptr 1001 0), .s (.ptr 1002 0), .s (.ptr 1003 0), .s (.ptr 1004 0), .s (.ptr 1005 0)] (payB fh c b a sum) (.t []) (payB fh c b a (payS h b a c.over sum i level)) := by
  refine callR_of_ex (rc := []) (N := 48) Tryz.func118 rfl rfl Tryz.call118 tab_ok mix rfl rfl rfl rfl (fun cx href => ?_)
  refine oi ⟨by omega, by omega⟩ ?_
  repeat first | refine sk ?_ | refine st ?_ | refine sg ?_ | refine sh ?_ | refine su ?_ | refine sn1 ?_ | refine sn0 ?_
  refine og (fun _ => ⟨by omega, by omega⟩) ?_
  repeat first | refine sk ?_ | refine st ?_ | refine sg ?_ | refine sh ?_ | refine su ?_ | refine sn1 ?_ | refine sn0 ?_
  refine And.intro (fun h1 => ?_) (fun h1 => ?_)
  · have h1 : (b.levels.getD i 0 != 30000 && a.levels.getD i 0 != 30000) = true := h1
    refine oi ⟨by omega, by omega⟩ ?_
    refine oi ⟨by omega, by omega⟩ ?_
    refine callN (hh _ _ _) ?_
    refine And.intro (by kernel_rfl) ?_
    have e : payS h b a c.over sum i level = w64 (sum + w64 (w64 (b.side * b.side) * mm true 0 (h (b.levels.getD i 0) (a.levels.getD i 0) (w64 (level - c.over))))) := by unfold payS; rw [h1]; rfl
    rw [e]
    exact ⟨SubR.refl _, rfl, rfl, rfl, rfl, rfl, trivial⟩
  · have h1 : (b.levels.getD i 0 != 30000 && a.levels.getD i 0 != 30000) = false := h1
    have e : payS h b a c.over sum i level = sum := by unfold payS; rw [h1]; rfl
    rw [e]
    exact ⟨SubR.refl _, rfl, rfl, rfl, rfl, rfl, trivial⟩
end Go.Ch

namespace Go.Ch
open Go Go.Ax Go.Proofs Go.Proofs.Tryz
set_option maxRecDepth 100000
set_option pp.maxSteps 400
set_option maxHeartbeats 1000000

def payL (h : Int → Int → Int → Int) (c : Chan) (b a : Grid) : Nat → Int
  | 0 => 0
  | i + 1 => bif (desF c (centreG b i)).2 then payS h b a c.over (payL h c b a i) i (desF c (centreG b i)).1 else payL h c b a i
theorem errG_val {g : Grid} (h : GVal g) : g.levels.length ≤ 9223372036854775807 := by have := h.n; omega
theorem designedPay (fh : Nat) (h : Int → Int → Int → Int) (hh : ∀ x y z, CallP Tryz.prog fh [vI x, vI y, vI z] (vI (h x y z))) (c : Chan) (b a : Grid) (hv : Val c) (eb : errG b = 0) (hl : a.levels.length = b.levels.length) :
    CallR Tryz.prog 117 [chan c, grid b, .s (.clo 118 [.ptr 1001 0, .ptr 1002 0, .ptr 1003 0, .ptr 1004 0, .ptr 1005 0])] (payB fh c b a 0) (.t []) (payB fh c b a (payL h c b a b.levels.length)) := by
  have gb := GVal.of eb
  have hn := gb.n
  refine callR_of_ex (rc := [118]) (N := 29) Tryz.func117 rfl rfl Tryz.call117 tab_ok mix rfl rfl rfl rfl (fun cx href => ?_)
  refine AW.loopI (fun i : Nat => ⟨[(2, .s (.clo 118 [.ptr 1001 0, .ptr 1002 0, .ptr 1003 0, .ptr 1004 0, .ptr 1005 0])), (3, .s (.ptr 3 0)), (4, .s (.ptr 4 0)), (11, vI b.levels.length), (12, vI i)],
      [(3, some (chanB c)), (4, some (gridB b)), (1001, some (gridB b)), (1002, some (gridB a)), (1003, some (.cells [.d (dI (payL h c b a i))])), (1004, some (.cells [.d (.clo fh 0 fun _ => .junk)])), (1005, some (chanB c))]⟩)
    (fun i => i ≤ b.levels.length) (fun i => b.levels.length - i) 0 (Nat.zero_le _) ?_ ?_
  · exact SubI.of [] (by rw [href]; rfl) rfl ⟨⟨rfl, LeBx.rfl⟩, ⟨rfl, LeBx.rfl⟩, ⟨rfl, LeBx.rfl⟩, ⟨rfl, LeBx.rfl⟩, ⟨rfl, LeBx.rfl⟩, ⟨rfl, LeBx.rfl⟩, ⟨rfl, LeBx.rfl⟩, trivial⟩ ⟨⟨rfl, LeQ.rfl⟩, ⟨rfl, LeQ.rfl⟩, ⟨rfl, LeQ.rfl⟩, ⟨rfl, LeQ.rfl⟩, ⟨rfl, LeQ.rfl⟩, trivial⟩
  · intro i hi
    refine ex.sound (rc := [118]) tab_ok mix href _ ?_
    refine And.intro (fun h1 => ?_) (fun h1 => ?_)
    · have h1 : (i : Int) < b.levels.length := decT h1
      have hi' : i < b.levels.length := by omega
      have hg := (centre_good gb hi').1
      refine callN (ccentre b i eb (by omega) (by omega) (by omega)) ?_
      refine callN (design c (centreG b i) hv hg) ?_
      refine And.intro (by kernel_rfl) ?_
      refine And.intro (fun h2 => ?_) (fun h2 => ?_)
      · have h2 : (desF c (centreG b i)).2 = true := h2
        have e : payL h c b a (i + 1) = payS h b a c.over (payL h c b a i) i (desF c (centreG b i)).1 := by rw [payL, h2]; rfl
        refine ⟨[], _, _, _, _, removed1 fh h hh c b a (payL h c b a i) i (desF c (centreG b i)).1 hi' (by omega), rfl, ⟨rfl, rfl, rfl, rfl, rfl, trivial⟩, rfl, ?_⟩
        refine ⟨i + 1, by omega, by omega, ?_⟩
        exact SubI.of [] (by rw [href]; rfl) rfl ⟨⟨rfl, LeBx.rfl⟩, ⟨rfl, LeBx.rfl⟩, ⟨rfl, LeBx.rfl⟩, ⟨rfl, LeBx.rfl⟩, ⟨rfl, LeBx.of_eq (by rw [e])⟩, ⟨rfl, LeBx.rfl⟩, ⟨rfl, LeBx.rfl⟩, trivial⟩ ⟨⟨rfl, LeQ.rfl⟩, ⟨rfl, LeQ.rfl⟩, ⟨rfl, LeQ.rfl⟩, ⟨rfl, LeQ.rfl⟩, ⟨rfl, LeQ.int (w64_of (by omega) (by omega))⟩, trivial⟩
      · have h2 : (desF c (centreG b i)).2 = false := h2
        have e : payL h c b a (i + 1) = payL h c b a i := by rw [payL, h2]; rfl
        refine ⟨i + 1, by omega, by omega, ?_⟩
        exact SubI.of [] (by rw [href]; rfl) rfl ⟨⟨rfl, LeBx.rfl⟩, ⟨rfl, LeBx.rfl⟩, ⟨rfl, LeBx.rfl⟩, ⟨rfl, LeBx.rfl⟩, ⟨rfl, LeBx.of_eq (by rw [e]; rfl)⟩, ⟨rfl, LeBx.rfl⟩, ⟨rfl, LeBx.rfl⟩, trivial⟩ ⟨⟨rfl, LeQ.rfl⟩, ⟨rfl, LeQ.rfl⟩, ⟨rfl, LeQ.rfl⟩, ⟨rfl, LeQ.rfl⟩, ⟨rfl, LeQ.int (w64_of (by omega) (by omega))⟩, trivial⟩
    · have h1 : ¬ (i : Int) < b.levels.length := decF h1
      have hi' : i = b.levels.length := by omega
      subst hi'
      exact ⟨SubR.refl _, rfl, rfl, rfl, rfl, rfl, trivial⟩
abbrev rIE (n e : Int) : AV := .t [.s (.d (dI n)), .s (.d (dI e))]
theorem alike_len {a b : Grid} (ha : GVal a) (hb : GVal b) (h : alike a b = true) : b.levels.length = a.levels.length := by
  unfold alike at h
  simp only [Bool.and_eq_true, beq_iff_eq] at h
  have h1 := ha.len
  have h2 := hb.len
  rw [h.1.2, h.2] at h1
  omega
theorem withErr2_zero {c : Chan} {a b : Grid} (h : withErr c [a, b] = 0) : errC c = 0 ∧ errG a = 0 ∧ errG b = 0 ∧ alike a b = true := by
  rw [withErr2] at h
  cases h1 : errC c != 0 with
  | true => rw [h1] at h; simp at h1; exact absurd h h1
  | false =>
    cases h2 : errG a != 0 with
    | true => rw [h1, h2] at h; simp at h2; exact absurd h h2
    | false =>
      cases h3 : errG b != 0 with
      | true => rw [h1, h2, h3] at h; simp at h3; exact absurd h h3
      | false =>
        cases h4 : alike a b with
        | false => rw [h1, h2, h3, h4] at h; cases h
        | true => simp at h1 h2 h3; exact ⟨h1, h2, h3, rfl⟩
def remF (h : Int → Int → Int → Int) (c : Chan) (b a : Grid) : Int := bif withErr c [b, a] != 0 then 0 else payL h c b a b.levels.length
attribute [local irreducible] withErr in
theorem removed (fh : Nat) (h : Int → Int → Int → Int) (hh : ∀ x y z, CallP Tryz.prog fh [vI x, vI y, vI z] (vI (h x y z))) (c : Chan) (b a : Grid) (hc : c.ok) (hb : b.ok) (ha : a.ok) :
    CallP Tryz.prog 81 [chan c, grid b, grid a, .s (.d (.clo fh 0 fun _ => .junk))] (rIE (remF h c b a) (withErr c [b, a])) := by
  refine callP_of_ex (rc := [117]) (N := 24) Tryz.func81 rfl rfl Tryz.call81 tab_ok mix rfl rfl (fun cx href => ?_)
  refine callN (cthree c b a hc hb ha) ?_
  refine And.intro (fun h1 => ?_) (fun h1 => ?_)
  · exact SubR.of_eq (by unfold remF; rw [show (withErr c [b, a] != 0) = true from h1]; rfl)
  have h1 : (withErr c [b, a] != 0) = false := h1
  have h0 : withErr c [b, a] = 0 := by simpa using h1
  obtain ⟨e1, e2, e3, e4⟩ := withErr2_zero h0
  refine ⟨[(1001, 5), (1002, 6), (1003, 11), (1004, 7), (1005, 4)], _, _, _, _, designedPay fh h hh c b a (val_of c e1) e2 (alike_len (GVal.of e2) (GVal.of e3) e4), rfl, ⟨rfl, rfl, rfl, rfl, rfl, trivial⟩, rfl, ?_⟩
  exact SubR.of_eq (by unfold remF; rw [h1, h0]; rfl)
def paidH (x y z : Int) : Int := w64 (x - mm true y z)
def overH (x y z : Int) : Int := w64 (mm false x z - y)
theorem gPaid (c : Chan) (b a : Grid) (hc : c.ok) (hb : b.ok) (ha : a.ok) : CallP Tryz.prog 40 [chan c, grid b, grid a] (rIE (remF paidH c b a) (withErr c [b, a])) := by
  refine callP_of_ex (rc := []) (N := 14) Tryz.func40 rfl rfl Tryz.call40 tab_ok mix rfl rfl (fun cx href => ?_)
  refine callN ((removed 82 paidH paid1 c b a hc hb ha).conv (args' := _) ⟨⟨LeD.refl _, LeD.refl _, LeD.refl _, LeD.refl _, LeD.refl _, trivial⟩, ⟨LeD.refl _, LeD.refl _, LeD.refl _, LeD.refl _, LeD.refl _, LeD.refl _, trivial⟩, ⟨LeD.refl _, LeD.refl _, LeD.refl _, LeD.refl _, LeD.refl _, LeD.refl _, trivial⟩, LeD.clo fun j hj => absurd hj (Nat.not_lt_zero j), trivial⟩) ?_
  exact SubR.refl _
theorem gOvercut (c : Chan) (b a : Grid) (hc : c.ok) (hb : b.ok) (ha : a.ok) : CallP Tryz.prog 42 [chan c, grid b, grid a] (rIE (remF overH c b a) (withErr c [b, a])) := by
  refine callP_of_ex (rc := []) (N := 14) Tryz.func42 rfl rfl Tryz.call42 tab_ok mix rfl rfl (fun cx href => ?_)
  refine callN ((removed 83 overH over1 c b a hc hb ha).conv (args' := _) ⟨⟨LeD.refl _, LeD.refl _, LeD.refl _, LeD.refl _, LeD.refl _, trivial⟩, ⟨LeD.refl _, LeD.refl _, LeD.refl _, LeD.refl _, LeD.refl _, LeD.refl _, trivial⟩, ⟨LeD.refl _, LeD.refl _, LeD.refl _, LeD.refl _, LeD.refl _, LeD.refl _, trivial⟩, LeD.clo fun j hj => absurd hj (Nat.not_lt_zero j), trivial⟩) ?_
  exact SubR.refl _
end Go.Ch

namespace Go.Ch
open Go Go.Ax Go.Proofs Go.Proofs.Tryz
set_option maxRecDepth 100000
set_option pp.maxSteps 400
set_option maxHeartbeats 1000000

theorem catF0 {f g : Nat → Nat → DV} : catF 0 f g = g := by
  funext i j
  unfold catF
  rw [if_neg (Nat.not_lt_zero i), Nat.sub_zero]
/-- A cell's level of the design, less something. -/
def cellT (c : Chan) (g : Grid) (less : Int) (i : Nat) : Int := bif (desF c (centreG g i)).2 then w64 ((desF c (centreG g i)).1 - less) else 30000
def designG (c : Chan) (g : Grid) (less : Int) : Grid := { g with levels := (List.range g.levels.length).map (cellT c g less) }
def dgF (c : Chan) (g : Grid) (less : Int) (i : Nat) : Nat → Nat → DV := fun k _ => dI (if k < i then cellT c g less k else g.levels.getD k 0)
theorem rowSet_self {f : Nat → Nat → DV} {i : Nat} {x : DV} : rowSet f i 0 [.d x] i 0 = x := by
  unfold rowSet; rw [if_pos rfl]; rfl
theorem rowSet_ne {f : Nat → Nat → DV} {i k j : Nat} {cs : List SV} (h : k ≠ i) : rowSet f i 0 cs k j = f k j := by
  unfold rowSet; rw [if_neg h]
end Go.Ch

namespace Go.Ch
open Go Go.Ax Go.Proofs Go.Proofs.Tryz
set_option maxRecDepth 100000
set_option pp.maxSteps 400
set_option maxHeartbeats 1000000

/-- Bounds of what is computed of a design level. -/
theorem mixE_in {u v s d L U : Int} (hs : 0 < s) (hd : 0 ≤ d) (hd2 : d ≤ s) (h1 : L ≤ u) (h2 : L ≤ v) (h3 : u ≤ U) (h4 : v ≤ U) : L ≤ mixE u v s d ∧ mixE u v s d ≤ U := by
  have a1 : L * (s - d) ≤ u * (s - d) := Int.mul_le_mul_of_nonneg_right h1 (by omega)
  have a2 : L * d ≤ v * d := Int.mul_le_mul_of_nonneg_right h2 hd
  have a3 : u * (s - d) ≤ U * (s - d) := Int.mul_le_mul_of_nonneg_right h3 (by omega)
  have a4 : v * d ≤ U * d := Int.mul_le_mul_of_nonneg_right h4 hd
  have e1 : L * (s - d) + L * d = L * s := by rw [Int.mul_sub]; omega
  have e2 : U * (s - d) + U * d = U * s := by rw [Int.mul_sub]; omega
  unfold mixE
  constructor
  · exact Int.le_ediv_of_mul_le hs (by omega)
  · exact Int.ediv_le_of_le_mul hs (by omega)
structure PrtOk (c : Chan) (x : Prt) : Prop where
  off : 0 ≤ x.offset ∧ x.offset ≤ 8000000000000
  half : 1 ≤ x.half ∧ x.half ≤ 100000
  bottom : c.over - 20000 ≤ x.bottom ∧ x.bottom ≤ 20000
  run : 0 ≤ x.run ∧ x.run ≤ 1000
theorem legP_some {a b : Ap} {p : Pt} {x : Prt} (h : legP a b p = some x) : 0 ≤ dotE a.pt b.pt p ∧ dotE a.pt b.pt p ≤ dotE a.pt b.pt b.pt ∧ x = partE a b p := by
  unfold legP at h
  cases hb : (decide (dotE a.pt b.pt p < 0) || decide (dotE a.pt b.pt p > dotE a.pt b.pt b.pt)) with
  | true => rw [hb] at h; cases h
  | false =>
    rw [hb] at h
    simp only [Bool.or_eq_false_iff, decide_eq_false_iff_not] at hb
    simp only [cond_false, Option.some.injEq] at h
    exact ⟨by omega, by omega, h.symm⟩
theorem bendP_some {a q b : Ap} {p : Pt} {x : Prt} (h : bendP a q b p = some x) : x = ⟨span q.pt p, q.half, q.level, q.run⟩ := by
  unfold bendP at h
  cases hb : (decide (dotE a.pt q.pt p ≤ dotE a.pt q.pt q.pt) || decide (dotE q.pt b.pt p ≥ 0)) with
  | true => rw [hb] at h; cases h
  | false => rw [hb] at h; simp only [cond_false, Option.some.injEq] at h; exact h.symm
theorem parts_ok {c : Chan} {p : Pt} (hv : Val c) (hp : good p = true) {x : Prt} (hx : x ∈ partsL c p) : PrtOk c x := by
  have h2 := hv.n2
  unfold partsL legsL bendsL at hx
  simp only [List.mem_append, List.mem_filterMap, List.mem_range] at hx
  rcases hx with ⟨k, hk, h⟩ | ⟨j, hj, h⟩
  · obtain ⟨d0, d1, rfl⟩ := legP_some h
    have ha := hv.pts k (by omega)
    have hb := hv.pts (k + 1) (by omega)
    have hab := hv.apart k (by omega)
    have hs := sq_pos hab
    have l1 := hv.level k (by omega)
    have l2 := hv.level (k + 1) (by omega)
    have f1 := hv.half k (by omega)
    have f2 := hv.half (k + 1) (by omega)
    exact ⟨offs_le ha hb hp hab, mixE_in hs d0 d1 f1.1 f2.1 f1.2 f2.2, mixE_in hs d0 d1 l1.1 l2.1 l1.2 l2.2, hv.run k (by omega)⟩
  · have := bendP_some h
    subst this
    have hq := hv.pts (j + 1) (by omega)
    have hsp := span_bound hq hp
    exact ⟨⟨hsp.1, Int.le_trans hsp.2 (by omega)⟩, hv.half (j + 1) (by omega), hv.level (j + 1) (by omega), hv.run (j + 1) (by omega)⟩
theorem lvl_ok {c : Chan} {x : Prt} (hx : PrtOk c x) (hv : Val c) (h : (lvlP x).2 = true) : c.over - 20000 ≤ (lvlP x).1 ∧ (lvlP x).1 ≤ 20000 := by
  obtain ⟨h1, h2, h3, h4⟩ := hx
  have ho := hv.over
  unfold lvlP lvl at h ⊢
  cases c1 : decide (x.offset ≤ x.half) with
  | true => rw [c1] at h; exact h3
  | false =>
    rw [c1] at h
    have c1 := decF c1
    cases c2 : (x.run == 0) with
    | true => rw [c2] at h; cases h
    | false =>
      rw [c2] at h
      have c2 : x.run ≠ 0 := by simpa using c2
      have hq : 0 ≤ (x.offset - x.half).tdiv x.run ∧ (x.offset - x.half).tdiv x.run ≤ 8000000000000 := by
        rw [Int.tdiv_eq_ediv_of_nonneg (by omega)]
        exact ⟨Int.ediv_nonneg (by omega) (by omega), Int.le_trans (Int.ediv_le_self _ (by omega)) (by omega)⟩
      have e : w64 (x.bottom + w64 ((w64 (x.offset - x.half)).tdiv x.run)) = x.bottom + (x.offset - x.half).tdiv x.run := by
        rw [w64_of (n := x.offset - x.half) (by omega) (by omega), w64_of (n := (x.offset - x.half).tdiv x.run) (by omega) (by omega), w64_of (by omega) (by omega)]
      simp only [cond_false] at h ⊢
      have h := decT h
      rw [e] at h ⊢
      omega
theorem desF_ok {c : Chan} {p : Pt} (hv : Val c) (hp : good p = true) (h : (desF c p).2 = true) : c.over - 20000 ≤ (desF c p).1 ∧ (desF c p).1 ≤ 20000 := by
  rcases desV_is (partsL c p) with ⟨h1, _⟩ | ⟨_, ⟨x, hx, e⟩, _⟩
  · unfold desF at h; rw [h1] at h; cases h
  · unfold desF at h ⊢
    rw [← e] at h ⊢
    exact lvl_ok (parts_ok hv hp hx) hv h

def setS (c : Chan) (b a : Grid) (r : Int × Int) (i : Nat) : Int × Int :=
  bif b.levels.getD i 0 == 30000 || a.levels.getD i 0 == 30000 || cellT c b c.over i == 30000 then r
  else (w64 (r.1 + w64 (w64 (b.side * b.side) * mm true 0 (w64 (b.levels.getD i 0 - mm true (a.levels.getD i 0) (cellT c b c.over i))))),
        w64 (r.2 + w64 (w64 (b.side * b.side) * mm true 0 (w64 (mm false (b.levels.getD i 0) (cellT c b c.over i) - a.levels.getD i 0)))))
def setF (c : Chan) (b a : Grid) : Nat → Int × Int
  | 0 => (0, 0)
  | i + 1 => setS c b a (setF c b a i) i
theorem designG_len (c : Chan) (g : Grid) (less : Int) : (designG c g less).levels.length = g.levels.length := by simp [designG]
theorem designG_at (c : Chan) (g : Grid) (less : Int) {i : Nat} (h : i < g.levels.length) : (designG c g less).levels.getD i 0 = cellT c g less i := by simp [designG, h]
theorem set_pay (c : Chan) (b a : Grid) (hv : Val c) (gb : GVal b) : ∀ i, i ≤ b.levels.length → setF c b a i = (payL paidH c b a i, payL overH c b a i)
  | 0, _ => rfl
  | i + 1, hi => by
    have hi' : i < b.levels.length := by omega
    have hg := (centre_good gb hi').1
    have ho := hv.over
    rw [setF, set_pay c b a hv gb i (by omega), payL, payL, setS]
    unfold cellT payS
    cases h1 : (desF c (centreG b i)).2 with
    | false => simp
    | true =>
      have hd := desF_ok hv hg h1
      have e : w64 ((desF c (centreG b i)).1 - c.over) = (desF c (centreG b i)).1 - c.over := w64_of (by omega) (by omega)
      simp only [cond_true, e]
      have hne : ((desF c (centreG b i)).1 - c.over == 30000) = false := by
        rw [beq_eq_false_iff_ne]; omega
      rw [hne, Bool.or_false]
      cases h2 : b.levels.getD i 0 == 30000 with
      | true => simp only [bne, h2]; rfl
      | false =>
        cases h3 : a.levels.getD i 0 == 30000 with
        | true => simp only [bne, h2, h3]; rfl
        | false => simp only [bne, h2, h3]; rfl
end Go.Ch

namespace Go.Ch
open Go Go.Ax Go.Proofs Go.Proofs.Tryz
set_option maxRecDepth 100000
set_option pp.maxSteps 400
set_option maxHeartbeats 1000000

abbrev uI (x : Int) : AV := .s (.d (.val (.int .u64 x)))
abbrev duI (x : Int) : DV := .val (.int .u64 x)
theorem u64_of {n : Int} (h : 0 ≤ n) (k : n ≤ 18446744073709551615) : IntKind.u64.wrap n = n := by
  rw [IntKind.wrap_u64]; omega
theorem andM {y : Int} (h : 0 ≤ y) (k : y < 4294967296) : andI .u64 y 4294967295 = y := by
  obtain ⟨n, rfl⟩ := Int.eq_ofNat_of_zero_le h
  have hn : n < 4294967296 := by omega
  unfold andI
  have e : (BitVec.ofInt IntKind.u64.bits (n : Int) &&& BitVec.ofInt IntKind.u64.bits 4294967295).toNat = n := by
    show (BitVec.ofInt 64 (n : Int) &&& BitVec.ofInt 64 4294967295).toNat = n
    rw [BitVec.toNat_and, show (BitVec.ofInt 64 4294967295).toNat = 2 ^ 32 - 1 from rfl, Nat.and_two_pow_sub_one_eq_mod, BitVec.toNat_ofInt]
    omega
  rw [e]
  exact u64_of (by omega) (by omega)
theorem shr0 {y : Int} (h : 0 ≤ y) (k : y < 4294967296) : shrI .u64 y 32 = 0 := by
  show y.fdiv 4294967296 = 0
  rw [Int.fdiv_eq_ediv_of_nonneg _ (by omega)]
  omega
/-- The row while it is filled. -/
def fillF (v : Int) (k : Nat) : Nat → Nat → DV := fun i _ => if i < k then dI v else dI 0
theorem cpF_fill {v : Int} {k q : Nat} {i j : Nat} (hq : q ≤ k) : cpF k q (fillF v k) (fun i => fillF v k (0 + i)) i j = fillF v (k + q) i j := by
  unfold cpF
  show (if k ≤ i ∧ i < k + q then (if 0 + (i - k) < k then dI v else dI 0) else (if i < k then dI v else dI 0)) = (if i < k + q then dI v else dI 0)
  by_cases h1 : k ≤ i ∧ i < k + q
  · rw [if_pos h1, if_pos (by omega), if_pos (by omega)]
  · rw [if_neg h1]
    by_cases h2 : i < k
    · rw [if_pos h2, if_pos (by omega)]
    · rw [if_neg h2, if_neg (by omega)]
end Go.Ch

namespace Go.Ch
open Go Go.Ax Go.Proofs Go.Proofs.Tryz
set_option maxRecDepth 100000
set_option pp.maxSteps 400
set_option maxHeartbeats 1000000

def smallH (c : Chan) : Bool :=
  (((decide ((c.name.size : Int) > 40) || (decide ((c.axis.length : Int) > 6) && decide ((c.axis.length : Int) ≤ 20))) || decide ((c.axis.length : Int) > 25)) || (decide ((c.regions.length : Int) > 4) && decide ((c.regions.length : Int) ≤ 20))) || decide ((c.regions.length : Int) > 25)
def smallR (r : Reg) : Bool := ((decide ((r.corners.length : Int) > 8) && decide ((r.corners.length : Int) ≤ 40)) || decide ((r.corners.length : Int) > 45)) || decide ((r.name.size : Int) > 40)
def small (c : Chan) : Bool := !smallH c && !c.regions.any smallR
theorem Small (c : Chan) (hc : c.ok) : CallP Tryz.prog 15 [chan c] (vB (small c)) := by
  have hr := hc.regions
  refine callP_of_ex (rc := []) (N := 89) Tryz.func15 rfl rfl Tryz.call15 tab_ok mix rfl rfl (fun cx href => ?_)
  repeat first | refine sk ?_ | refine st ?_ | refine sg ?_ | refine sh ?_ | refine su ?_ | refine sn1 ?_ | refine sn0 ?_
  refine And.intro (fun h1 => ?_) (fun h1 => ?_)
  · have h1 : smallH c = true := h1
    exact SubR.lit (by unfold small; rw [h1]; rfl)
  have h1 : smallH c = false := h1
  refine AW.loopI (fun i : Nat => ⟨[(1, .s (.ptr 1 0)), (3, vI i)], [(1, some (chanB c))]⟩) (fun i => i ≤ c.regions.length ∧ ∀ j, j < i → smallR (c.regions.getD j default) = false) (fun i => c.regions.length - i) 0 ⟨Nat.zero_le _, fun j hj => absurd hj (Nat.not_lt_zero j)⟩ ?_ ?_
  · exact SubI.of0 href [] rfl ⟨⟨rfl, LeBx.rfl⟩, trivial⟩ ⟨⟨rfl, LeQ.rfl⟩, ⟨rfl, LeQ.rfl⟩, trivial⟩
  · rintro i ⟨hi, hj⟩
    refine ex.sound (rc := []) tab_ok mix href _ ?_
    refine And.intro (fun h => ?_) (fun h => ?_)
    · have h : (i : Int) < c.regions.length := decT h
      refine oi ⟨by omega, by omega⟩ ?_
      repeat first | refine sk ?_ | refine st ?_ | refine sg ?_ | refine sh ?_ | refine su ?_ | refine sn1 ?_ | refine sn0 ?_
      refine og (fun _ => ⟨by omega, by omega⟩) ?_
      repeat first | refine sk ?_ | refine st ?_ | refine sg ?_ | refine sh ?_ | refine su ?_ | refine sn1 ?_ | refine sn0 ?_
      refine og (fun _ => ⟨by omega, by omega⟩) ?_
      repeat first | refine sk ?_ | refine st ?_ | refine sg ?_ | refine sh ?_ | refine su ?_ | refine sn1 ?_ | refine sn0 ?_
      refine og (fun _ => ⟨by omega, by omega⟩) ?_
      repeat first | refine sk ?_ | refine st ?_ | refine sg ?_ | refine sh ?_ | refine su ?_ | refine sn1 ?_ | refine sn0 ?_
      refine And.intro (fun h2 => ?_) (fun h2 => ?_)
      · have h2 : smallR (c.regions.getD i default) = true := h2
        exact SubR.lit (by unfold small; rw [any_getD smallR c.regions i (by omega) h2]; simp)
      · have h2 : smallR (c.regions.getD i default) = false := h2
        refine ⟨i + 1, ⟨by omega, fun j hj' => ?_⟩, by omega, ?_⟩
        · by_cases hji : j = i
          · rw [hji]; exact h2
          · exact hj j (by omega)
        · exact SubI.of0 href [] rfl ⟨⟨rfl, LeBx.rfl⟩, trivial⟩ ⟨⟨rfl, LeQ.rfl⟩, ⟨rfl, LeQ.int (w64_of (by omega) (by omega))⟩, trivial⟩
    · have h : ¬ (i : Int) < c.regions.length := decF h
      exact SubR.lit (by unfold small; rw [h1, any_drop smallR c.regions fun j hj' => hj j (by omega)]; rfl)
structure Sm (c : Chan) : Prop where
  axis : c.axis.length ≤ 25
  regions : c.regions.length ≤ 25
  corners : ∀ i, i < c.regions.length → (c.regions.getD i default).corners.length ≤ 45
theorem Sm.of {c : Chan} (h : small c = true) : Sm c := by
  unfold small at h
  simp only [Bool.and_eq_true, Bool.not_eq_true'] at h
  obtain ⟨h1, h2⟩ := h
  unfold smallH at h1
  simp only [Bool.or_eq_false_iff, decide_eq_false_iff_not] at h1
  refine ⟨by omega, by omega, fun i hi => ?_⟩
  rw [List.any_eq_false] at h2
  have := h2 _ (List.getElem_mem hi)
  rw [getD_of hi]
  unfold smallR at this
  simp at this
  omega
theorem el_sub {α : Type} [Inhabited α] {l : List α} {s : Nat} {el : α → Nat → DV} : RowIs s (0 + l.length) (catF 0 (rowF s []) fun i => el (l.getD i default)) el l := by
  rw [Nat.zero_add, catF0]; exact RowIs.refl
theorem Copied (c : Chan) (hs : Sm c) : CallP Tryz.prog 17 [chan c] (chan c) := by
  have h1 := hs.axis
  have h2 := hs.regions
  refine callP_of_ex (rc := []) (N := 36) Tryz.func17 rfl rfl Tryz.call17 tab_ok mix rfl rfl (fun cx href => ?_)
  refine ob (show (0 + c.axis.length) * 40 ≤ _ by omega) ?_
  refine ob ?_ ?_
  · intro k j hk hj
    match j, hj with
    | 0, _ => rfl
    | 1, _ => rfl
    | 2, _ => rfl
    | 3, _ => rfl
    | 4, _ => rfl
  refine AW.loopM (fun i : Nat => ⟨[(1, .s (.ptr 1 0)), (2, .s (.ptr 2 0)), (3, vRegs c.regions), (4, vI i)],
      [(1, some (.cells [.d (dS c.name), .own 9, .d (dI c.over), .d (dI c.buffer), .mo (c.regions.take i).isEmpty 100])), (2, some (.cells (zvs ty41.zero))), (9, some (.row 98 c.axis.length 5 (apEl c.axis))), (100, some (.mrow 90 (c.regions.take i).length 3 (regEl (c.regions.take i))))]⟩)
    (fun i => i ≤ c.regions.length) (fun i => c.regions.length - i) 0 (Nat.zero_le _) ?_ ?_
  · refine SubM.of_subI (SubI.of0 href [(100, 1000)] rfl ⟨⟨rfl, LeBx.cells ⟨LeQ.rfl, LeQ.rfl, LeQ.rfl, LeQ.rfl, LeQ.nil rfl, trivial⟩⟩, ⟨rfl, LeBx.rfl⟩, ⟨rfl, RowIs.row el_sub⟩, ⟨rfl, rfl⟩, trivial⟩ ⟨⟨rfl, LeQ.rfl⟩, ⟨rfl, LeQ.rfl⟩, ⟨rfl, LeQ.rfl⟩, ⟨rfl, LeQ.rfl⟩, trivial⟩)
  · intro i hi
    refine AW.seq (ex.sound (rc := []) tab_ok mix href _ ?_)
    refine And.intro (fun h => ?_) (fun h => ?_)
    · have h : (i : Int) < c.regions.length := decT h
      have hi' : i < c.regions.length := by omega
      have hcor := hs.corners i hi'
      refine AW.seq (AW.block (AW.seq (ex.sound (rc := []) tab_ok mix href _ ?_)))
      refine oi ⟨by omega, by omega⟩ ?_
      refine AW.seq (ex.sound (rc := []) tab_ok mix href _ ?_)
      refine ob (show (0 + (c.regions.getD i default).corners.length) * 16 ≤ _ by omega) ?_
      refine ob ?_ ?_
      · intro k j hk hj
        match j, hj with
        | 0, _ => rfl
        | 1, _ => rfl
      refine AW.subM (σ' := ⟨[(1, .s (.ptr 1 0)), (2, .s (.ptr 2 0)), (3, vRegs c.regions), (4, vI i), (5, .s (.ptr 5 0))],
      [(1, some (.cells [.d (dS c.name), .own 9, .d (dI c.over), .d (dI c.buffer), .mo (c.regions.take i).isEmpty 100])), (2, some (.cells (zvs ty41.zero))), (5, some (.cells [.d (dS (c.regions.getD i default).name), .d (dI (c.regions.getD i default).kind), .d (dPts (c.regions.getD i default).corners)])), (9, some (.row 98 c.axis.length 5 (apEl c.axis))), (100, some (.mrow 90 (c.regions.take i).length 3 (regEl (c.regions.take i))))]⟩)
        (SubM.of href [] [27] rfl rfl rfl ⟨⟨rfl, LeBxf.rfl⟩, ⟨rfl, LeBxf.rfl⟩, ⟨rfl, LeBxf.cells ⟨LeQf.rfl, LeQf.rfl, (LeQf.own (by simp) rfl).then (LeQ.d (RowIs.slc el_sub)), trivial⟩⟩, ⟨rfl, LeBxf.rfl⟩, ⟨rfl, LeBxf.rfl⟩, trivial⟩ ⟨⟨rfl, LeQf.rfl⟩, ⟨rfl, LeQf.rfl⟩, ⟨rfl, LeQf.rfl⟩, ⟨rfl, LeQf.rfl⟩, ⟨rfl, LeQf.rfl⟩, trivial⟩) ?_
      refine ex.sound (rc := []) tab_ok mix href _ ?_
      refine ob (by decide) ?_
      refine ob (by rw [bif_len]; show _ * 48 ≤ _; simp; omega) ?_
      refine ob (fit1 (lt3 rfl rfl rfl)) ?_
      refine ex.sound (rc := []) tab_ok mix href _ ?_
      have e : c.regions.take (i + 1) = c.regions.take i ++ [c.regions.getD i default] := by rw [List.take_succ_eq_append_getElem hi', getD_of hi']
      refine ⟨i + 1, by omega, by omega, SubM.of_subI ?_⟩
      refine SubI.of0 href [(100, 33)] rfl ⟨⟨rfl, LeBx.cells ⟨LeQ.rfl, LeQ.rfl, LeQ.rfl, LeQ.rfl, LeQ.mo (by rw [e]; exact isEmpty_snoc _ _), trivial⟩⟩, ⟨rfl, LeBx.rfl⟩, ⟨rfl, LeBx.rfl⟩, ⟨rfl, ?_⟩, trivial⟩ ⟨⟨rfl, LeQ.rfl⟩, ⟨rfl, LeQ.rfl⟩, ⟨rfl, LeQ.rfl⟩, ⟨rfl, LeQ.int (w64_of (by omega) (by omega))⟩, trivial⟩
      show LeBx _ (.mrow 90 (c.regions.take (i + 1)).length 3 (regEl (c.regions.take (i + 1))))
      rw [e]
      exact RowIs.mrow (el := regD) (RowIs.snoc RowIs.bif (lt3 rfl rfl rfl))
    · have h : ¬ (i : Int) < c.regions.length := decF h
      have hi' : i = c.regions.length := by omega
      subst hi'
      refine SubR.le ⟨LeD.refl _, LeD.refl _, LeD.refl _, LeD.refl _, ?_, trivial⟩
      rw [List.take_length]
      exact LeD.slc' (bif_len _) fun _ _ _ _ => LeD.refl _
def designR (c : Chan) (p : Pt) : Int × Int := bif errC c != 0 then (0, errC c) else bif !good p then (0, 2) else bif !(desF c p).2 then (0, 11) else ((desF c p).1, 0)
attribute [local irreducible] errC in
theorem gDesign (c : Chan) (p : Pt) (hc : c.ok) : CallP Tryz.prog 38 [chan c, pt p] (rIE (designR c p).1 (designR c p).2) := by
  refine callP_of_ex (rc := []) (N := 26) Tryz.func38 rfl rfl Tryz.call38 tab_ok mix rfl rfl (fun cx href => ?_)
  refine callN (gCheck c hc) ?_
  refine And.intro (fun h1 => ?_) (fun h1 => ?_)
  · exact SubR.of_eq (by unfold designR; rw [h1]; rfl)
  have h0 : errC c = 0 := by simpa using h1
  refine callN (inRange p) ?_
  refine And.intro (fun h2 => ?_) (fun h2 => ?_)
  · exact SubR.of_eq (by unfold designR; rw [h1, h2]; rfl)
  have hp : good p = true := by simpa using h2
  refine callN (design c p (val_of c h0) hp) ?_
  refine And.intro (fun h3 => ?_) (fun h3 => ?_)
  · exact SubR.of_eq (by unfold designR; rw [h1, h2, h3]; rfl)
  · exact SubR.of_eq (by unfold designR; rw [h1, h2, h3]; rfl)
end Go.Ch

namespace Go.Ch
open Go Go.Ax Go.Proofs Go.Proofs.Tryz
set_option maxRecDepth 100000
set_option pp.maxSteps 400
set_option maxHeartbeats 1000000

def mainS : ByteArray := ⟨#[77, 97, 105, 110]⟩
def straightC : Chan := ⟨mainS, [⟨0, 0, 1000, -1000, 4⟩, ⟨10000, 0, 1000, -1000, 4⟩], 30, 0, []⟩
def stripG (n : Int) : Grid := ⟨0, -250, 500, 20, 1, List.replicate 20 n⟩
theorem straight : CallP Tryz.prog 39 [] (chan straightC) := by
  refine callP_of_ex (rc := []) (N := 5) Tryz.func39 rfl rfl Tryz.call39 tab_ok mix rfl rfl (fun cx href => ?_)
  refine SubR.le ⟨LeD.refl _, LeD.slc' rfl fun i j hi hj => LeD.of_eq ?_, LeD.refl _, LeD.refl _, LeD.nil, trivial⟩
  match i, j, hi, hj with
  | 0, 0, _, _ => rfl
  | 0, 1, _, _ => rfl
  | 0, 2, _, _ => rfl
  | 0, 3, _, _ => rfl
  | 0, 4, _, _ => rfl
  | 1, 0, _, _ => rfl
  | 1, 1, _, _ => rfl
  | 1, 2, _, _ => rfl
  | 1, 3, _, _ => rfl
  | 1, 4, _, _ => rfl
theorem intRow {l : List Int} : RowIs 1 (bif l.isEmpty then 0 else l.length) (intEl l) (fun x _ => dI x) l := ⟨bif_len l, fun _ _ _ _ => rfl⟩
theorem strip (n : Int) : CallP Tryz.prog 41 [vI n] (grid (stripG n)) := by
  refine callP_of_ex (rc := []) (N := 17) Tryz.func41 rfl rfl Tryz.call41 tab_ok mix rfl rfl (fun cx href => ?_)
  refine AW.loopI (fun i : Nat => ⟨[(0, vI n), (2, .s (.ptr 2 0)), (3, .s (.ptr 3 0)), (4, vI i)],
      [(2, some (.cells (zvs ty24.zero))), (3, some (.cells [.d (dI 0), .d (dI (-250)), .d (dI 500), .d (dI 20), .d (dI 1), .mo (List.replicate i n).isEmpty 100])), (100, some (.mrow 3 (List.replicate i n).length 1 (intEl (List.replicate i n))))]⟩)
    (fun i => i ≤ 20) (fun i => 20 - i) 0 (Nat.zero_le _) ?_ ?_
  · exact SubI.of0 href [(100, 1000)] rfl ⟨⟨rfl, LeBx.rfl⟩, ⟨rfl, LeBx.cells ⟨LeQ.rfl, LeQ.rfl, LeQ.rfl, LeQ.rfl, LeQ.rfl, LeQ.nil rfl, trivial⟩⟩, ⟨rfl, rfl⟩, trivial⟩ ⟨⟨rfl, LeQ.rfl⟩, ⟨rfl, LeQ.rfl⟩, ⟨rfl, LeQ.rfl⟩, ⟨rfl, LeQ.rfl⟩, trivial⟩
  · intro i hi
    refine ex.sound (rc := []) tab_ok mix href _ ?_
    refine And.intro (fun h => ?_) (fun h => ?_)
    · have h : (i : Int) < 20 := decT h
      have e : List.replicate (i + 1) n = List.replicate i n ++ [n] := List.replicate_succ'
      refine ob (by decide) ?_
      refine ob (by rw [bif_len]; show _ * 8 ≤ _; simp; omega) ?_
      refine ob (fit1 (lt1 rfl)) ?_
      refine ⟨i + 1, by omega, by omega, ?_⟩
      refine SubI.of0 href [(100, 14)] rfl ⟨⟨rfl, LeBx.rfl⟩, ⟨rfl, LeBx.cells ⟨LeQ.rfl, LeQ.rfl, LeQ.rfl, LeQ.rfl, LeQ.rfl, LeQ.mo (by rw [e]; exact isEmpty_snoc _ _), trivial⟩⟩, ⟨rfl, ?_⟩, trivial⟩ ⟨⟨rfl, LeQ.rfl⟩, ⟨rfl, LeQ.rfl⟩, ⟨rfl, LeQ.rfl⟩, ⟨rfl, LeQ.int (w64_of (by omega) (by omega))⟩, trivial⟩
      show LeBx _ (.mrow 3 (List.replicate (i + 1) n).length 1 (intEl (List.replicate (i + 1) n)))
      rw [e]
      exact RowIs.mrow (el := fun x _ => dI x) (RowIs.snoc intRow (lt1 rfl))
    · have h : ¬ (i : Int) < 20 := decF h
      have hi' : i = 20 := by omega
      subst hi'
      exact SubR.le ⟨LeD.refl _, LeD.refl _, LeD.refl _, LeD.refl _, LeD.refl _, LeD.slc' (bif_len _) fun _ _ _ _ => LeD.refl _, trivial⟩
theorem straight_ok : straightC.ok := by
  refine ⟨by decide, by decide, ?_, by decide, by decide, by decide, by intro a ha; cases ha⟩
  intro a ha
  simp only [straightC, List.mem_cons, List.not_mem_nil, or_false] at ha
  rcases ha with rfl | rfl
  · exact ⟨by decide, by decide, by decide, by decide, by decide⟩
  · exact ⟨by decide, by decide, by decide, by decide, by decide⟩
theorem strip_ok {n : Int} (h : i64ok n) : (stripG n).ok := by
  refine ⟨show i64ok 0 by decide, show i64ok (-250) by decide, show i64ok 500 by decide, show i64ok 20 by decide, show i64ok 1 by decide, by simp [stripG], ?_⟩
  intro a ha
  have := List.eq_of_mem_replicate ha
  subst this; exact h
theorem awake : CallP Tryz.prog 14 [] (vB true) := by
  have d1 : CallP Tryz.prog 38 [chan straightC, pt ⟨2500, 1400⟩] (rIE (-900) 0) := by
    have := gDesign straightC ⟨2500, 1400⟩ straight_ok
    rw [show designR straightC ⟨2500, 1400⟩ = (-900, 0) by kernel_rfl] at this
    exact this
  have d2 : CallP Tryz.prog 40 [chan straightC, grid (stripG (-900)), grid (stripG (-1050))] (rIE 650000000 0) := by
    have := gPaid straightC (stripG (-900)) (stripG (-1050)) straight_ok (strip_ok (by decide)) (strip_ok (by decide))
    rw [show remF paidH straightC (stripG (-900)) (stripG (-1050)) = 650000000 by kernel_rfl, show withErr straightC [stripG (-900), stripG (-1050)] = 0 by kernel_rfl] at this
    exact this
  have d3 : CallP Tryz.prog 42 [chan straightC, grid (stripG (-900)), grid (stripG (-1050))] (rIE 100000000 0) := by
    have := gOvercut straightC (stripG (-900)) (stripG (-1050)) straight_ok (strip_ok (by decide)) (strip_ok (by decide))
    rw [show remF overH straightC (stripG (-900)) (stripG (-1050)) = 100000000 by kernel_rfl, show withErr straightC [stripG (-900), stripG (-1050)] = 0 by kernel_rfl] at this
    exact this
  refine callP_of_ex (rc := []) (N := 49) Tryz.func14 rfl rfl Tryz.call14 tab_ok mix rfl rfl (fun cx href => ?_)
  refine callN straight ?_
  refine callN d1 ?_
  refine callN straight ?_
  refine callN (strip (-900)) ?_
  refine callN (strip (-1050)) ?_
  refine callN d2 ?_
  refine callN straight ?_
  refine callN (strip (-900)) ?_
  refine callN (strip (-1050)) ?_
  refine callN d3 ?_
  repeat first | refine sk ?_ | refine st ?_ | refine sg ?_ | refine sh ?_ | refine su ?_ | refine sn1 ?_ | refine sn0 ?_
  exact SubR.refl _
end Go.Ch

namespace Go.Ch
open Go Go.Ax Go.Proofs Go.Proofs.Tryz
set_option maxRecDepth 100000
set_option pp.maxSteps 400
set_option maxHeartbeats 1000000

/-- Where a place lies along a line, rounded down. -/
def alongV (a b p : Pt) : Int := dotE a b p / span a b
theorem alongV_le {a b p : Pt} (ha : good a = true) (hb : good b = true) (hp : good p = true) (hd : 0 ≤ dotE a b p) : 0 ≤ alongV a b p ∧ alongV a b p ≤ 8000000000000 := by
  obtain ⟨_, _, h3⟩ := dot_eq ha hb hp
  have hs := (span_bound ha hb).1
  unfold alongV
  exact ⟨Int.ediv_nonneg hd hs, Int.le_trans (Int.ediv_le_self _ hd) h3⟩
def spanC (c : Chan) (k : Nat) : Int := span (axis c k).pt (axis c (k + 1)).pt
def lenF (c : Chan) : Nat → Int
  | 0 => 0
  | k + 1 => lenF c k + spanC c k
theorem lenF_le {c : Chan} (hv : Val c) : ∀ k, k < c.axis.length → 0 ≤ lenF c k ∧ lenF c k ≤ 3000000 * k
  | 0, _ => by simp [lenF]
  | k + 1, h => by
    have h1 := lenF_le hv k (by omega)
    have h2 : 0 ≤ span (axis c k).pt (axis c (k + 1)).pt ∧ span (axis c k).pt (axis c (k + 1)).pt ≤ 3000000 := span_bound (hv.pts k (by omega)) (hv.pts (k + 1) h)
    rw [lenF]; unfold spanC; omega
/-- The first of some tries that gives something. -/
def first {α : Type} (f : Nat → Option α) : Nat → Option α
  | 0 => none
  | n + 1 => (first f n).or (f n)
theorem first_some {α : Type} {f : Nat → Option α} {x : α} {i : Nat} (h : first f i = some x) : ∀ k, first f (i + k) = some x
  | 0 => h
  | k + 1 => by rw [← Nat.add_assoc, first, first_some h k]; rfl
theorem first_hit {α : Type} {f : Nat → Option α} {x : α} {i n : Nat} (h : first f i = none) (hx : f i = some x) (hn : i < n) : first f n = some x := by
  have h1 : first f (i + 1) = some x := by rw [first, h, hx]; rfl
  have := first_some h1 (n - (i + 1))
  rwa [show i + 1 + (n - (i + 1)) = n by omega] at this
theorem first_miss {α : Type} {f : Nat → Option α} {i : Nat} (h : first f i = none) (hx : f i = none) : first f (i + 1) = none := by rw [first, h, hx]; rfl
theorem first_shift {α : Type} {f g : Nat → Option α} (h0 : f 0 = none) (h : ∀ j, f (j + 1) = g j) : ∀ n, first f (n + 1) = first g n
  | 0 => by rw [first, first, h0]; rfl
  | n + 1 => by rw [first, first_shift h0 h n, h]; rfl

def onL (c : Chan) (p : Pt) (k : Nat) : Option (Int × Int) := (legF c k p).map fun x => (lenF c k + alongV (axis c k).pt (axis c (k + 1)).pt p, x.offset)
def onB (c : Chan) (p : Pt) (j : Nat) : Option (Int × Int) := (bendN c j p).map fun x => (lenF c (j + 1), x.offset)
def onR (c : Chan) (p : Pt) (k : Nat) : Option (Int × Int) := (bendR c k p).map fun x => (lenF c k, x.offset)
def alongF (c : Chan) (p : Pt) : Option (Int × Int) := (first (onL c p) (c.axis.length - 1)).or (first (onB c p) (c.axis.length - 2))
theorem onR_first (c : Chan) (p : Pt) (h : 2 ≤ c.axis.length) : first (onR c p) (c.axis.length - 1) = first (onB c p) (c.axis.length - 2) := by
  have := first_shift (f := onR c p) (g := onB c p) rfl (fun _ => rfl) (c.axis.length - 2)
  rwa [show c.axis.length - 2 + 1 = c.axis.length - 1 by omega] at this
def oII (o : Option (Int × Int)) : Int × Int := o.getD (0, 0)
theorem legF_dot {c : Chan} {k : Nat} {p : Pt} (h : (legF c k p).isSome = true) : 0 ≤ dotE (axis c k).pt (axis c (k + 1)).pt p := by
  unfold legF legP at h
  cases h' : (decide (dotE (c.axis.getD k default).pt (c.axis.getD (k + 1) default).pt p < 0) || decide (dotE (c.axis.getD k default).pt (c.axis.getD (k + 1) default).pt p > dotE (c.axis.getD k default).pt (c.axis.getD (k + 1) default).pt (c.axis.getD (k + 1) default).pt))
  · simp only [Bool.or_eq_false_iff, decide_eq_false_iff_not] at h'
    show 0 ≤ dotE (c.axis.getD k default).pt (c.axis.getD (k + 1) default).pt p
    omega
  · rw [h'] at h; cases h
theorem onL_some {c : Chan} {p : Pt} {k : Nat} (h : (legF c k p).isSome = true) : onL c p k = some (lenF c k + alongV (axis c k).pt (axis c (k + 1)).pt p, (oPrt (legF c k p)).offset) := by
  obtain ⟨x, hx⟩ := Option.isSome_iff_exists.1 h
  unfold onL; rw [hx]; rfl
theorem onB_some {c : Chan} {p : Pt} {k : Nat} (h : (bendN c k p).isSome = true) : onB c p k = some (lenF c (k + 1), (oPrt (bendN c k p)).offset) := by
  obtain ⟨x, hx⟩ := Option.isSome_iff_exists.1 h
  unfold onB; rw [hx]; rfl
theorem onR_some {c : Chan} {p : Pt} {k : Nat} (h : (bendR c k p).isSome = true) : onR c p k = some (lenF c k, (oPrt (bendR c k p)).offset) := by
  obtain ⟨x, hx⟩ := Option.isSome_iff_exists.1 h
  unfold onR; rw [hx]; rfl
theorem map_none {α β : Type} {o : Option α} {f : α → β} (h : o.isSome = false) : o.map f = none := by
  cases o with
  | none => rfl
  | some x => cases h
abbrev rIII (a b e : Int) : AV := .t [.s (.d (dI a)), .s (.d (dI b)), .s (.d (dI e))]
def alongR (c : Chan) (p : Pt) : Int × Int × Int := bif errC c != 0 then (0, 0, errC c) else bif !good p then (0, 0, 2) else ((oII (alongF c p)).1, (oII (alongF c p)).2, bif (alongF c p).isSome then 0 else 11)
abbrev rIIB (a b : Int) (e : Bool) : AV := .t [.s (.d (dI a)), .s (.d (dI b)), .s (.d (.val (.bool e)))]
end Go.Ch

namespace Go.Ch
open Go Go.Ax Go.Proofs Go.Proofs.Tryz
set_option maxRecDepth 100000
set_option pp.maxSteps 400
set_option maxHeartbeats 1000000

theorem first_none {α : Type} {f : Nat → Option α} : ∀ {n : Nat}, first f n = none → ∀ k, k < n → f k = none
  | 0, _, k, hk => absurd hk (Nat.not_lt_zero k)
  | n + 1, h, k, hk => by
    rw [first, Option.or_eq_none_iff] at h
    rcases Nat.lt_or_ge k n with h' | h'
    · exact first_none h.1 k h'
    · obtain rfl : k = n := by omega
      exact h.2
theorem along_none {c : Chan} {p : Pt} (h : (alongF c p).isSome = false) : desF c p = (0, false) := by
  have h : alongF c p = none := by simpa using h
  unfold alongF at h
  rw [Option.or_eq_none_iff] at h
  have h1 := first_none h.1
  have h2 := first_none h.2
  have e1 : legsL c p (c.axis.length - 1) = [] := by
    unfold legsL
    rw [List.filterMap_eq_nil_iff]
    intro k hk
    have := h1 k (List.mem_range.1 hk)
    unfold onL at this
    simpa using this
  have e2 : bendsL c p (c.axis.length - 2) = [] := by
    unfold bendsL
    rw [List.filterMap_eq_nil_iff]
    intro k hk
    have := h2 k (List.mem_range.1 hk)
    unfold onB at this
    simpa using this
  unfold desF partsL
  rw [e1, e2]; rfl
end Go.Ch

namespace Go.Ch
open Go Go.Ax Go.Proofs Go.Proofs.Tryz
set_option maxRecDepth 100000
set_option pp.maxSteps 400
set_option maxHeartbeats 1000000

abbrev prtA (x : Prt) : AV := .g (prtS x)
def onBot (x : Prt) : Bool := decide (x.offset ≤ x.half)
def botF (c : Chan) (p : Pt) : Bool := (partsL c p).any onBot
theorem parts_len (c : Chan) (p : Pt) : (partsL c p).length ≤ 2 * c.axis.length := by
  unfold partsL legsL bendsL
  rw [List.length_append]
  have h1 := List.length_filterMap_le (fun k => legF c k p) (List.range (c.axis.length - 1))
  have h2 := List.length_filterMap_le (fun k => bendN c k p) (List.range (c.axis.length - 2))
  rw [List.length_range] at h1 h2
  omega
theorem botF_holds (c : Chan) (p : Pt) (h2 : 2 ≤ c.axis.length) : (holdsL c p (c.axis.length - 1)).any onBot = botF c p := by
  unfold botF
  rw [Bool.eq_iff_iff, List.any_eq_true, List.any_eq_true]
  exact ⟨fun ⟨x, hx, h⟩ => ⟨x, (parts_holds c p h2 x).2 hx, h⟩, fun ⟨x, hx, h⟩ => ⟨x, (parts_holds c p h2 x).1 hx, h⟩⟩
def lv (g : Grid) (k : Int) : Int := g.levels.getD k.toNat 0
def botI (c : Chan) (g : Grid) (i : Nat) : Bool := botF c (centreG g i)
def stepC (g : Grid) (r : Int × Bool) (i : Nat) : Int × Bool := (bif decide (r.1 < 0) || decide (lv g i > lv g r.1) then (i : Int) else r.1, r.2 || lv g i == 30000)
def contF (c : Chan) (g : Grid) : Nat → Int × Bool
  | 0 => (-1, false)
  | i + 1 => bif !botI c g i then contF c g i else stepC g (contF c g i) i
def ctlR (c : Chan) (g : Grid) : Int × Int := bif withErr c [g] != 0 then (0, withErr c [g]) else bif decide ((contF c g g.levels.length).1 < 0) then (0, 11) else bif (contF c g g.levels.length).2 then (0, 12) else ((contF c g g.levels.length).1, 0)
theorem withErr1_zero {c : Chan} {g : Grid} (h : withErr c [g] = 0) : errC c = 0 ∧ errG g = 0 := by
  rw [withErr1] at h
  cases h1 : errC c != 0 with
  | true => rw [h1] at h; simp at h1; exact absurd h h1
  | false => rw [h1] at h; exact ⟨by simpa using h1, h⟩
theorem contF_in (c : Chan) (g : Grid) : ∀ i, -1 ≤ (contF c g i).1 ∧ (contF c g i).1 < i
  | 0 => by simp [contF]
  | i + 1 => by
    have ih := contF_in c g i
    rw [contF]
    cases h : botI c g i with
    | false => simp only [Bool.not_false, cond_true]; omega
    | true =>
      simp only [Bool.not_true, cond_false]
      unfold stepC
      cases h2 : decide ((contF c g i).1 < 0) || decide (lv g i > lv g (contF c g i).1) with
      | true => simp only [cond_true]; omega
      | false => simp only [cond_false]; omega
end Go.Ch
