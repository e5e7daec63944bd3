/- Part 5: lemmas that the proofs of this seat share; by itself it claims nothing. -/
import Derived.Test.YtgkghihpebdpgaaChecked
import Derived.WalkKit
import Derived.Laws.Externs
import Derived.Test.YtgkghihpebdpgaaPt4
/- The shapes of the types of this seat: by a program. -/
namespace Go.Proofs.Try
open Go Go.Ax

def ty1 : TyI := { und := .func, size := 1, bytes := 8, agg := false, zero := [.nilFunc], flds := [], ints := false }
theorem ty1_ok : TyOK Try.prog 1 ty1 where
  und := ⟨_, Try.underlying1, rfl⟩
  info := ⟨Try.t1, by kernel_rfl, rfl, rfl, _, rfl, rfl⟩
  agg := rfl
  flds := fun fs h => by rw [Try.underlying1] at h; cases h
  eqg := fun h => by cases h
  ints := fun h => by cases h
def ty2 : TyI := { und := .int .i64, size := 1, bytes := 8, agg := false, zero := [.int .i64 0], flds := [], ints := false }
theorem ty2_ok : TyOK Try.prog 2 ty2 where
  und := ⟨_, Try.underlying2, rfl⟩
  info := ⟨Try.t2, by kernel_rfl, rfl, rfl, _, rfl, rfl⟩
  agg := rfl
  flds := fun fs h => by rw [Try.underlying2] at h; cases h
  eqg := fun h => by cases h
  ints := fun h => by cases h
def ty3 : TyI := { und := .int .i64, size := 1, bytes := 8, agg := false, zero := [.int .i64 0], flds := [], ints := false }
theorem ty3_ok : TyOK Try.prog 3 ty3 where
  und := ⟨_, Try.underlying3, rfl⟩
  info := ⟨Try.t3, by kernel_rfl, rfl, rfl, _, rfl, rfl⟩
  agg := rfl
  flds := fun fs h => by rw [Try.underlying3] at h; cases h
  eqg := fun h => by cases h
  ints := fun h => by cases h
def ty4 : TyI := { und := .bool, size := 1, bytes := 1, agg := false, zero := [.bool false], flds := [], ints := false }
theorem ty4_ok : TyOK Try.prog 4 ty4 where
  und := ⟨_, Try.underlying4, rfl⟩
  info := ⟨Try.t4, by kernel_rfl, rfl, rfl, _, rfl, rfl⟩
  agg := rfl
  flds := fun fs h => by rw [Try.underlying4] at h; cases h
  eqg := fun h => by cases h
  ints := fun h => by cases h
def ty5 : TyI := { und := .int .u8, size := 1, bytes := 1, agg := false, zero := [.int .u8 0], flds := [], ints := false }
theorem ty5_ok : TyOK Try.prog 5 ty5 where
  und := ⟨_, Try.underlying5, rfl⟩
  info := ⟨Try.t5, by kernel_rfl, rfl, rfl, _, rfl, rfl⟩
  agg := rfl
  flds := fun fs h => by rw [Try.underlying5] at h; cases h
  eqg := fun h => by cases h
  ints := fun h => by cases h
def ty9 : TyI := { und := .string, size := 1, bytes := 16, agg := false, zero := [.string ⟨#[]⟩], flds := [], ints := false }
theorem ty9_ok : TyOK Try.prog 9 ty9 where
  und := ⟨_, Try.underlying9, rfl⟩
  info := ⟨Try.t9, by kernel_rfl, rfl, rfl, _, rfl, rfl⟩
  agg := rfl
  flds := fun fs h => by rw [Try.underlying9] at h; cases h
  eqg := fun h => by cases h
  ints := fun h => by cases h
theorem cmp23 : CmpT Try.prog 2 23 true [.int .i64 0, .int .i64 0, .int .i64 0, .int .i64 0, .int .i64 0, .int .i64 0, .int .i64 0, .int .i64 0] := cmp_struct Try.underlying23 (by kernel_rfl) (size_of (ti := Try.t23) (by kernel_rfl) rfl) ⟨by decide, rfl, false, [.int .i64 0], [.int .i64 0, .int .i64 0, .int .i64 0, .int .i64 0, .int .i64 0, .int .i64 0, .int .i64 0], rfl, (cmp_int 0 Try.underlying3), by decide, rfl, false, [.int .i64 0], [.int .i64 0, .int .i64 0, .int .i64 0, .int .i64 0, .int .i64 0, .int .i64 0], rfl, (cmp_int 0 Try.underlying3), by decide, rfl, false, [.int .i64 0], [.int .i64 0, .int .i64 0, .int .i64 0, .int .i64 0, .int .i64 0], rfl, (cmp_int 0 Try.underlying3), by decide, rfl, false, [.int .i64 0], [.int .i64 0, .int .i64 0, .int .i64 0, .int .i64 0], rfl, (cmp_int 0 Try.underlying3), by decide, rfl, false, [.int .i64 0], [.int .i64 0, .int .i64 0, .int .i64 0], rfl, (cmp_int 0 Try.underlying3), by decide, rfl, false, [.int .i64 0], [.int .i64 0, .int .i64 0], rfl, (cmp_int 0 Try.underlying3), by decide, rfl, false, [.int .i64 0], [.int .i64 0], rfl, (cmp_int 0 Try.underlying3), by decide, rfl, false, [.int .i64 0], [], rfl, (cmp_int 0 Try.underlying3), rfl⟩
def ty23 : TyI := { und := .struct, size := 8, bytes := 64, agg := true, zero := [.int .i64 0, .int .i64 0, .int .i64 0, .int .i64 0, .int .i64 0, .int .i64 0, .int .i64 0, .int .i64 0], flds := [(0, 1), (1, 1), (2, 1), (3, 1), (4, 1), (5, 1), (6, 1), (7, 1)], ints := true }
theorem ty23_ok : TyOK Try.prog 23 ty23 where
  und := ⟨_, Try.underlying23, rfl⟩
  info := ⟨Try.t23, by kernel_rfl, rfl, rfl, _, rfl, rfl⟩
  agg := rfl
  flds := fun fs h => by
    rw [Try.underlying23] at h; cases h
    exact ⟨rfl, ⟨Try.t3, by kernel_rfl, rfl⟩, rfl, ⟨Try.t3, by kernel_rfl, rfl⟩, rfl, ⟨Try.t3, by kernel_rfl, rfl⟩, rfl, ⟨Try.t3, by kernel_rfl, rfl⟩, rfl, ⟨Try.t3, by kernel_rfl, rfl⟩, rfl, ⟨Try.t3, by kernel_rfl, rfl⟩, rfl, ⟨Try.t3, by kernel_rfl, rfl⟩, rfl, ⟨Try.t3, by kernel_rfl, rfl⟩, trivial⟩
  eqg := fun _ => by kernel_rfl
  ints := fun _ => ints_struct cmp23 (by decide)
def ty25 : TyI := { und := .slice 3, size := 1, bytes := 24, agg := false, zero := [.slice none 0 0], flds := [], ints := false }
theorem ty25_ok : TyOK Try.prog 25 ty25 where
  und := ⟨_, Try.underlying25, rfl⟩
  info := ⟨Try.t25, by kernel_rfl, rfl, rfl, _, rfl, rfl⟩
  agg := rfl
  flds := fun fs h => by rw [Try.underlying25] at h; cases h
  eqg := fun h => by cases h
  ints := fun h => by cases h
def ty27 : TyI := { und := .struct, size := 6, bytes := 64, agg := true, zero := [.int .i64 0, .int .i64 0, .int .i64 0, .int .i64 0, .int .i64 0, .slice none 0 0], flds := [(0, 1), (1, 1), (2, 1), (3, 1), (4, 1), (5, 1)], ints := false }
theorem ty27_ok : TyOK Try.prog 27 ty27 where
  und := ⟨_, Try.underlying27, rfl⟩
  info := ⟨Try.t27, by kernel_rfl, rfl, rfl, _, rfl, rfl⟩
  agg := rfl
  flds := fun fs h => by
    rw [Try.underlying27] at h; cases h
    exact ⟨rfl, ⟨Try.t3, by kernel_rfl, rfl⟩, rfl, ⟨Try.t3, by kernel_rfl, rfl⟩, rfl, ⟨Try.t3, by kernel_rfl, rfl⟩, rfl, ⟨Try.t3, by kernel_rfl, rfl⟩, rfl, ⟨Try.t3, by kernel_rfl, rfl⟩, rfl, ⟨Try.t25, by kernel_rfl, rfl⟩, trivial⟩
  eqg := fun h => by cases h
  ints := fun h => by cases h
def ty33 : TyI := { und := .slice 44, size := 1, bytes := 24, agg := false, zero := [.slice none 0 0], flds := [], ints := false }
theorem ty33_ok : TyOK Try.prog 33 ty33 where
  und := ⟨_, Try.underlying33, rfl⟩
  info := ⟨Try.t33, by kernel_rfl, rfl, rfl, _, rfl, rfl⟩
  agg := rfl
  flds := fun fs h => by rw [Try.underlying33] at h; cases h
  eqg := fun h => by cases h
  ints := fun h => by cases h
def ty35 : TyI := { und := .slice 60, size := 1, bytes := 24, agg := false, zero := [.slice none 0 0], flds := [], ints := false }
theorem ty35_ok : TyOK Try.prog 35 ty35 where
  und := ⟨_, Try.underlying35, rfl⟩
  info := ⟨Try.t35, by kernel_rfl, rfl, rfl, _, rfl, rfl⟩
  agg := rfl
  flds := fun fs h => by rw [Try.underlying35] at h; cases h
  eqg := fun h => by cases h
  ints := fun h => by cases h
def ty36 : TyI := { und := .slice 55, size := 1, bytes := 24, agg := false, zero := [.slice none 0 0], flds := [], ints := false }
theorem ty36_ok : TyOK Try.prog 36 ty36 where
  und := ⟨_, Try.underlying36, rfl⟩
  info := ⟨Try.t36, by kernel_rfl, rfl, rfl, _, rfl, rfl⟩
  agg := rfl
  flds := fun fs h => by rw [Try.underlying36] at h; cases h
  eqg := fun h => by cases h
  ints := fun h => by cases h
def ty38 : TyI := { und := .struct, size := 2, bytes := 48, agg := true, zero := [.slice none 0 0, .slice none 0 0], flds := [(0, 1), (1, 1)], ints := false }
theorem ty38_ok : TyOK Try.prog 38 ty38 where
  und := ⟨_, Try.underlying38, rfl⟩
  info := ⟨Try.t38, by kernel_rfl, rfl, rfl, _, rfl, rfl⟩
  agg := rfl
  flds := fun fs h => by
    rw [Try.underlying38] at h; cases h
    exact ⟨rfl, ⟨Try.t35, by kernel_rfl, rfl⟩, rfl, ⟨Try.t36, by kernel_rfl, rfl⟩, trivial⟩
  eqg := fun h => by cases h
  ints := fun h => by cases h
def ty39 : TyI := { und := .int .i64, size := 1, bytes := 8, agg := false, zero := [.int .i64 0], flds := [], ints := false }
theorem ty39_ok : TyOK Try.prog 39 ty39 where
  und := ⟨_, Try.underlying39, rfl⟩
  info := ⟨Try.t39, by kernel_rfl, rfl, rfl, _, rfl, rfl⟩
  agg := rfl
  flds := fun fs h => by rw [Try.underlying39] at h; cases h
  eqg := fun h => by cases h
  ints := fun h => by cases h
theorem cmp44 : CmpT Try.prog 2 44 true [.int .i64 0, .int .i64 0] := cmp_struct Try.underlying44 (by kernel_rfl) (size_of (ti := Try.t44) (by kernel_rfl) rfl) ⟨by decide, rfl, false, [.int .i64 0], [.int .i64 0], rfl, (cmp_int 0 Try.underlying3), by decide, rfl, false, [.int .i64 0], [], rfl, (cmp_int 0 Try.underlying3), rfl⟩
def ty44 : TyI := { und := .struct, size := 2, bytes := 16, agg := true, zero := [.int .i64 0, .int .i64 0], flds := [(0, 1), (1, 1)], ints := true }
theorem ty44_ok : TyOK Try.prog 44 ty44 where
  und := ⟨_, Try.underlying44, rfl⟩
  info := ⟨Try.t44, by kernel_rfl, rfl, rfl, _, rfl, rfl⟩
  agg := rfl
  flds := fun fs h => by
    rw [Try.underlying44] at h; cases h
    exact ⟨rfl, ⟨Try.t3, by kernel_rfl, rfl⟩, rfl, ⟨Try.t3, by kernel_rfl, rfl⟩, trivial⟩
  eqg := fun _ => by kernel_rfl
  ints := fun _ => ints_struct cmp44 (by decide)
theorem cmp47 : CmpT Try.prog 2 47 true [.int .i64 0, .int .i64 0] := cmp_struct Try.underlying47 (by kernel_rfl) (size_of (ti := Try.t47) (by kernel_rfl) rfl) ⟨by decide, rfl, false, [.int .i64 0], [.int .i64 0], rfl, (cmp_int 0 Try.underlying3), by decide, rfl, false, [.int .i64 0], [], rfl, (cmp_int 0 Try.underlying3), rfl⟩
def ty47 : TyI := { und := .struct, size := 2, bytes := 16, agg := true, zero := [.int .i64 0, .int .i64 0], flds := [(0, 1), (1, 1)], ints := true }
theorem ty47_ok : TyOK Try.prog 47 ty47 where
  und := ⟨_, Try.underlying47, rfl⟩
  info := ⟨Try.t47, by kernel_rfl, rfl, rfl, _, rfl, rfl⟩
  agg := rfl
  flds := fun fs h => by
    rw [Try.underlying47] at h; cases h
    exact ⟨rfl, ⟨Try.t3, by kernel_rfl, rfl⟩, rfl, ⟨Try.t3, by kernel_rfl, rfl⟩, trivial⟩
  eqg := fun _ => by kernel_rfl
  ints := fun _ => ints_struct cmp47 (by decide)
theorem cmp55 : CmpT Try.prog 2 55 true [.int .i64 0, .int .i64 0, .int .i64 0] := cmp_struct Try.underlying55 (by kernel_rfl) (size_of (ti := Try.t55) (by kernel_rfl) rfl) ⟨by decide, rfl, false, [.int .i64 0], [.int .i64 0, .int .i64 0], rfl, (cmp_int 0 Try.underlying3), by decide, rfl, false, [.int .i64 0], [.int .i64 0], rfl, (cmp_int 0 Try.underlying3), by decide, rfl, false, [.int .i64 0], [], rfl, (cmp_int 0 Try.underlying3), rfl⟩
def ty55 : TyI := { und := .struct, size := 3, bytes := 24, agg := true, zero := [.int .i64 0, .int .i64 0, .int .i64 0], flds := [(0, 1), (1, 1), (2, 1)], ints := true }
theorem ty55_ok : TyOK Try.prog 55 ty55 where
  und := ⟨_, Try.underlying55, rfl⟩
  info := ⟨Try.t55, by kernel_rfl, rfl, rfl, _, rfl, rfl⟩
  agg := rfl
  flds := fun fs h => by
    rw [Try.underlying55] at h; cases h
    exact ⟨rfl, ⟨Try.t3, by kernel_rfl, rfl⟩, rfl, ⟨Try.t3, by kernel_rfl, rfl⟩, rfl, ⟨Try.t3, by kernel_rfl, rfl⟩, trivial⟩
  eqg := fun _ => by kernel_rfl
  ints := fun _ => ints_struct cmp55 (by decide)
def ty58 : TyI := { und := .map 3 3, size := 1, bytes := 8, agg := false, zero := [.map none], flds := [], ints := false }
theorem ty58_ok : TyOK Try.prog 58 ty58 where
  und := ⟨_, Try.underlying58, rfl⟩
  info := ⟨Try.t58, by kernel_rfl, rfl, rfl, _, rfl, rfl⟩
  agg := rfl
  flds := fun fs h => by rw [Try.underlying58] at h; cases h
  eqg := fun h => by cases h
  ints := fun h => by cases h
theorem cmp60 : CmpT Try.prog 2 60 true [.int .i64 0, .int .i64 0, .int .i64 0] := cmp_struct Try.underlying60 (by kernel_rfl) (size_of (ti := Try.t60) (by kernel_rfl) rfl) ⟨by decide, rfl, false, [.int .i64 0], [.int .i64 0, .int .i64 0], rfl, (cmp_int 0 Try.underlying3), by decide, rfl, false, [.int .i64 0], [.int .i64 0], rfl, (cmp_int 0 Try.underlying3), by decide, rfl, false, [.int .i64 0], [], rfl, (cmp_int 0 Try.underlying3), rfl⟩
def ty60 : TyI := { und := .struct, size := 3, bytes := 24, agg := true, zero := [.int .i64 0, .int .i64 0, .int .i64 0], flds := [(0, 1), (1, 1), (2, 1)], ints := true }
theorem ty60_ok : TyOK Try.prog 60 ty60 where
  und := ⟨_, Try.underlying60, rfl⟩
  info := ⟨Try.t60, by kernel_rfl, rfl, rfl, _, rfl, rfl⟩
  agg := rfl
  flds := fun fs h => by
    rw [Try.underlying60] at h; cases h
    exact ⟨rfl, ⟨Try.t3, by kernel_rfl, rfl⟩, rfl, ⟨Try.t3, by kernel_rfl, rfl⟩, rfl, ⟨Try.t3, by kernel_rfl, rfl⟩, trivial⟩
  eqg := fun _ => by kernel_rfl
  ints := fun _ => ints_struct cmp60 (by decide)
def ty74 : TyI := { und := .array 3 60, size := 9, bytes := 72, agg := true, zero := [.int .i64 0, .int .i64 0, .int .i64 0, .int .i64 0, .int .i64 0, .int .i64 0, .int .i64 0, .int .i64 0, .int .i64 0], flds := [], ints := false }
theorem ty74_ok : TyOK Try.prog 74 ty74 where
  und := ⟨_, Try.underlying74, rfl⟩
  info := ⟨Try.t74, by kernel_rfl, rfl, rfl, _, rfl, rfl⟩
  agg := rfl
  flds := fun fs h => by rw [Try.underlying74] at h; cases h
  eqg := fun h => by cases h
  ints := fun h => by cases h
def ty75 : TyI := { und := .array 3 44, size := 6, bytes := 48, agg := true, zero := [.int .i64 0, .int .i64 0, .int .i64 0, .int .i64 0, .int .i64 0, .int .i64 0], flds := [], ints := false }
theorem ty75_ok : TyOK Try.prog 75 ty75 where
  und := ⟨_, Try.underlying75, rfl⟩
  info := ⟨Try.t75, by kernel_rfl, rfl, rfl, _, rfl, rfl⟩
  agg := rfl
  flds := fun fs h => by rw [Try.underlying75] at h; cases h
  eqg := fun h => by cases h
  ints := fun h => by cases h
def ty100 : TyI := { und := .int .u64, size := 1, bytes := 8, agg := false, zero := [.int .u64 0], flds := [], ints := false }
theorem ty100_ok : TyOK Try.prog 100 ty100 where
  und := ⟨_, Try.underlying100, rfl⟩
  info := ⟨Try.t100, by kernel_rfl, rfl, rfl, _, rfl, rfl⟩
  agg := rfl
  flds := fun fs h => by rw [Try.underlying100] at h; cases h
  eqg := fun h => by cases h
  ints := fun h => by cases h
def ty103 : TyI := { und := .array 3 3, size := 3, bytes := 24, agg := true, zero := [.int .i64 0, .int .i64 0, .int .i64 0], flds := [], ints := false }
theorem ty103_ok : TyOK Try.prog 103 ty103 where
  und := ⟨_, Try.underlying103, rfl⟩
  info := ⟨Try.t103, by kernel_rfl, rfl, rfl, _, rfl, rfl⟩
  agg := rfl
  flds := fun fs h => by rw [Try.underlying103] at h; cases h
  eqg := fun h => by cases h
  ints := fun h => by cases h
def ty105 : TyI := { und := .int .i64, size := 1, bytes := 8, agg := false, zero := [.int .i64 0], flds := [], ints := false }
theorem ty105_ok : TyOK Try.prog 105 ty105 where
  und := ⟨_, Try.underlying105, rfl⟩
  info := ⟨Try.t105, by kernel_rfl, rfl, rfl, _, rfl, rfl⟩
  agg := rfl
  flds := fun fs h => by rw [Try.underlying105] at h; cases h
  eqg := fun h => by cases h
  ints := fun h => by cases h
def ty112 : TyI := { und := .int .u32, size := 1, bytes := 4, agg := false, zero := [.int .u32 0], flds := [], ints := false }
theorem ty112_ok : TyOK Try.prog 112 ty112 where
  und := ⟨_, Try.underlying112, rfl⟩
  info := ⟨Try.t112, by kernel_rfl, rfl, rfl, _, rfl, rfl⟩
  agg := rfl
  flds := fun fs h => by rw [Try.underlying112] at h; cases h
  eqg := fun h => by cases h
  ints := fun h => by cases h
def ty114 : TyI := { und := .int .u64, size := 1, bytes := 8, agg := false, zero := [.int .u64 0], flds := [], ints := false }
theorem ty114_ok : TyOK Try.prog 114 ty114 where
  und := ⟨_, Try.underlying114, rfl⟩
  info := ⟨Try.t114, by kernel_rfl, rfl, rfl, _, rfl, rfl⟩
  agg := rfl
  flds := fun fs h => by rw [Try.underlying114] at h; cases h
  eqg := fun h => by cases h
  ints := fun h => by cases h
def ty120 : TyI := { und := .int .u64, size := 1, bytes := 8, agg := false, zero := [.int .u64 0], flds := [], ints := false }
theorem ty120_ok : TyOK Try.prog 120 ty120 where
  und := ⟨_, Try.underlying120, rfl⟩
  info := ⟨Try.t120, by kernel_rfl, rfl, rfl, _, rfl, rfl⟩
  agg := rfl
  flds := fun fs h => by rw [Try.underlying120] at h; cases h
  eqg := fun h => by cases h
  ints := fun h => by cases h

/-- The table. -/
def tab : List (Nat × TyI) := [(1, ty1), (2, ty2), (3, ty3), (4, ty4), (5, ty5), (9, ty9), (23, ty23), (25, ty25), (27, ty27), (33, ty33), (35, ty35), (36, ty36), (38, ty38), (39, ty39), (44, ty44), (47, ty47), (55, ty55), (58, ty58), (60, ty60), (74, ty74), (75, ty75), (100, ty100), (103, ty103), (105, ty105), (112, ty112), (114, ty114), (120, ty120)]
theorem tab_ok : TabOK Try.prog tab := ⟨ty1_ok, ty2_ok, ty3_ok, ty4_ok, ty5_ok, ty9_ok, ty23_ok, ty25_ok, ty27_ok, ty33_ok, ty35_ok, ty36_ok, ty38_ok, ty39_ok, ty44_ok, ty47_ok, ty55_ok, ty58_ok, ty60_ok, ty74_ok, ty75_ok, ty100_ok, ty103_ok, ty105_ok, ty112_ok, ty114_ok, ty120_ok, trivial⟩
end Go.Proofs.Try

/- The data of the program, and how the executor sees it. -/
namespace Go.Ch
open Go Go.Ax Go.Proofs Go.Proofs.Try

theorem mix : Try.prog.follows .mixedOrders = true := by kernel_rfl

structure Pt where
  x : Int
  y : Int
  deriving DecidableEq, Inhabited
structure Ap where
  x : Int
  y : Int
  half : Int
  level : Int
  run : Int
  deriving DecidableEq, Inhabited
structure Reg where
  name : ByteArray
  kind : Int
  corners : List Pt
  deriving Inhabited
structure Chan where
  name : ByteArray
  axis : List Ap
  over : Int
  buffer : Int
  regions : List Reg
  deriving Inhabited
structure Grid where
  x : Int
  y : Int
  side : Int
  cols : Int
  rows : Int
  levels : List Int
  deriving Inhabited

abbrev dS (s : ByteArray) : DV := .val (.string s)
abbrev vS (s : ByteArray) : AV := .s (.d (dS s))
abbrev pt (p : Pt) : AV := .g [.d (dI p.x), .d (dI p.y)]
abbrev ap (p : Ap) : AV := .g [.d (dI p.x), .d (dI p.y), .d (dI p.half), .d (dI p.level), .d (dI p.run)]
def ptD (p : Pt) : Nat → DV
  | 0 => dI p.x
  | 1 => dI p.y
  | _ => .junk
def apD (p : Ap) : Nat → DV
  | 0 => dI p.x
  | 1 => dI p.y
  | 2 => dI p.half
  | 3 => dI p.level
  | 4 => dI p.run
  | _ => .junk
def ptEl (l : List Pt) : Nat → Nat → DV := fun i => ptD (l.getD i default)
def dPts (l : List Pt) : DV := .slc l.length 2 (ptEl l)
abbrev pts (l : List Pt) : AV := .s (.d (dPts l))
def apEl (l : List Ap) : Nat → Nat → DV := fun i => apD (l.getD i default)
def dAps (l : List Ap) : DV := .slc l.length 5 (apEl l)
def regD (p : Reg) : Nat → DV
  | 0 => dS p.name
  | 1 => dI p.kind
  | 2 => dPts p.corners
  | _ => .junk
abbrev reg (p : Reg) : AV := .g [.d (dS p.name), .d (dI p.kind), .d (dPts p.corners)]
def regEl (l : List Reg) : Nat → Nat → DV := fun i => regD (l.getD i default)
def dRegs (l : List Reg) : DV := .slc l.length 3 (regEl l)
abbrev vRegs (l : List Reg) : AV := .s (.d (dRegs l))
abbrev vAps (l : List Ap) : AV := .s (.d (dAps l))
abbrev chan (c : Chan) : AV := .g [.d (dS c.name), .d (dAps c.axis), .d (dI c.over), .d (dI c.buffer), .d (dRegs c.regions)]
abbrev grid (g : Grid) : AV := .g [.d (dI g.x), .d (dI g.y), .d (dI g.side), .d (dI g.cols), .d (dI g.rows), .d (dInts g.levels)]

theorem natOf {i : Nat} : ((i : Int)).toNat = i := rfl
theorem getD_of {α : Type} [Inhabited α] {l : List α} {i : Nat} (h : i < l.length) {d : α} : l.getD i d = l[i] := by simp [List.getElem?_eq_getElem h]
theorem decT {p : Prop} [Decidable p] (h : decide p = true) : p := of_decide_eq_true h
theorem decF {p : Prop} [Decidable p] (h : decide p = false) : ¬ p := of_decide_eq_false h

/-- What the program computes. -/
def within (n lo hi : Int) : Bool := decide (n ≥ lo) && decide (n ≤ hi)
def cross (a b c : Pt) : Int := w64 (w64 (w64 (b.x - a.x) * w64 (c.y - a.y)) - w64 (w64 (b.y - a.y) * w64 (c.x - a.x)))
def dot (a b c : Pt) : Int := w64 (w64 (w64 (b.x - a.x) * w64 (c.x - a.x)) + w64 (w64 (b.y - a.y) * w64 (c.y - a.y)))
def between (a b p : Pt) : Bool := cross a b p == 0 && within p.x (mm false a.x b.x) (mm true a.x b.x) && within p.y (mm false a.y b.y) (mm true a.y b.y)
def sgn (n : Int) : Int := if n < 0 then -1 else if n > 0 then 1 else 0
def meet (a b c d : Pt) : Bool :=
  (((between a b c || between a b d) || between c d a) || between c d b) || (decide (w64 (sgn (cross a b c) * sgn (cross a b d)) < 0) && decide (w64 (sgn (cross c d a) * sgn (cross c d b)) < 0))
def good (p : Pt) : Bool := within p.x (-1000000) 1000000 && within p.y (-1000000) 1000000
def Ap.pt (a : Ap) : Pt := ⟨a.x, a.y⟩
end Go.Ch

/- Hulls: the chain of the sorted points and the gift wrapping have fewer than three corners for the same points. No program in this text. -/
namespace Go.Hull
set_option maxRecDepth 100000

abbrev P2 := Go.Ch.Pt
def crs (a b c : P2) : Int := (b.x - a.x) * (c.y - a.y) - (b.y - a.y) * (c.x - a.x)
def sqr (a b : P2) : Int := (b.x - a.x) * (b.x - a.x) + (b.y - a.y) * (b.y - a.y)
/-- An order along which points go: x first, then y. -/
def tt (p : P2) : Int := p.x * 4000001 + p.y
def okP (p : P2) : Prop := -1000000 ≤ p.x ∧ p.x ≤ 1000000 ∧ -1000000 ≤ p.y ∧ p.y ≤ 1000000
theorem tt_lt {a b : P2} (ha : okP a) (hb : okP b) : tt a < tt b ↔ a.x < b.x ∨ (a.x = b.x ∧ a.y < b.y) := by
  unfold okP at ha hb; unfold tt; omega
theorem tt_eq {a b : P2} (ha : okP a) (hb : okP b) (h : tt a = tt b) : a = b := by
  unfold okP at ha hb; unfold tt at h
  have h1 : a.x = b.x := by omega
  have h2 : a.y = b.y := by omega
  cases a; cases b; simp_all
theorem nonneg_of {X A : Int} (hA : 0 < A) (h : 0 ≤ X * A) : 0 ≤ X := by
  rcases Int.lt_or_le X 0 with h1 | h1
  · exfalso
    have := Int.mul_neg_of_neg_of_pos h1 hA
    omega
  · exact h1
theorem zero_of {X A : Int} (hA : A ≠ 0) (h : X * A = 0) : X = 0 := by
  rcases Int.mul_eq_zero.1 h with h | h
  · exact h
  · exact absurd h hA
/-- Vectors from u: (p × q) t(v) = (v × q) t(p) - (v × p) t(q). -/
theorem plu (u v p q : P2) : crs u p q * (tt v - tt u) = crs u v q * (tt p - tt u) - crs u v p * (tt q - tt u) := by
  unfold crs tt; grind
/-- Vectors from p. -/
theorem plu' (u v p q : P2) : crs u p q * (tt p - tt v) = crs v p q * (tt p - tt u) - crs u v p * (tt p - tt q) := by
  unfold crs tt; grind
theorem crs_cyc (a b c : P2) : crs a b c = crs b c a := by unfold crs; grind
theorem crs_swap (a b c : P2) : crs a b c = - crs b a c := by unfold crs; grind
theorem crs_aab (a b : P2) : crs a a b = 0 := by unfold crs; grind
theorem crs_aba (a b : P2) : crs a b a = 0 := by unfold crs; grind
theorem crs_abb (a b : P2) : crs a b b = 0 := by unfold crs; grind
/-- Three points on one line with two that differ. -/
theorem line3 {p r a b c : P2} (h : tt p ≠ tt r) (ha : crs p r a = 0) (hb : crs p r b = 0) (hc : crs p r c = 0) : crs a b c = 0 := by
  have h1 : crs p a b = 0 := zero_of (A := tt r - tt p) (by omega) (by rw [plu p r a b, ha, hb]; simp)
  have h2 : crs p b c = 0 := zero_of (A := tt r - tt p) (by omega) (by rw [plu p r b c, hb, hc]; simp)
  have h3 : crs p a c = 0 := zero_of (A := tt r - tt p) (by omega) (by rw [plu p r a c, ha, hc]; simp)
  have : crs a b c = crs p b c - crs p a c + crs p a b := by unfold crs; grind
  omega

def popS (p : P2) : List P2 → List P2
  | v :: u :: r => if crs u v p ≤ 0 then popS p (u :: r) else v :: u :: r
  | l => l
def chain : List P2 → List P2 → List P2
  | st, [] => st
  | st, p :: ps => chain (p :: popS p st) ps
/-- s = 1 or -1: the way in which the points go. -/
def Dec (s : Int) : List P2 → Prop
  | v :: u :: r => s * tt u < s * tt v ∧ Dec s (u :: r)
  | _ => True
def Cov (s : Int) : List P2 → P2 → Prop
  | v :: u :: r, q => (s * tt u ≤ s * tt q ∧ s * tt q ≤ s * tt v ∧ 0 ≤ s * s * crs u v q) ∨ Cov s (u :: r) q
  | [v], q => q = v
  | [], _ => False
theorem Dec.tail {s : Int} {v : P2} {r : List P2} (h : Dec s (v :: r)) : Dec s r := by
  cases r with
  | nil => trivial
  | cons u r => exact h.2
theorem pop_cov {s : Int} (hs : s = 1 ∨ s = -1) {p q : P2} : ∀ (st : List P2), Dec s (p :: st) → Cov s (p :: st) q → Cov s (p :: popS p st) q ∧ Dec s (p :: popS p st)
  | [], hd, hc => ⟨hc, hd⟩
  | [v], hd, hc => ⟨hc, hd⟩
  | v :: u :: r, hd, hc => by
    unfold popS
    by_cases hx : crs u v p ≤ 0
    · rw [if_pos hx]
      obtain ⟨d1, d2, d3⟩ := hd
      have hd' : Dec s (p :: u :: r) := ⟨by omega, d3⟩
      refine pop_cov hs (u :: r) hd' ?_
      have e1 : s * s = 1 := by rcases hs with rfl | rfl <;> rfl
      simp only [Cov, e1, Int.one_mul] at hc ⊢
      rcases hc with ⟨a1, a2, a3⟩ | ⟨a1, a2, a3⟩ | hc
      · left
        refine ⟨by omega, a2, ?_⟩
        rcases hs with rfl | rfl
        · refine nonneg_of (A := tt p - tt v) (by omega) ?_
          rw [plu']
          have h1 := Int.mul_nonneg a3 (show 0 ≤ tt p - tt u by omega)
          have h2 := Int.mul_nonneg (show 0 ≤ -crs u v p by omega) (show 0 ≤ tt p - tt q by omega)
          rw [Int.neg_mul] at h2
          omega
        · refine nonneg_of (A := tt v - tt p) (by omega) ?_
          have := plu' u v p q
          have h1 := Int.mul_nonneg a3 (show 0 ≤ tt u - tt p by omega)
          have h2 := Int.mul_nonneg (show 0 ≤ -crs u v p by omega) (show 0 ≤ tt q - tt p by omega)
          have e2 : crs u p q * (tt v - tt p) = crs v p q * (tt u - tt p) - crs u v p * (tt q - tt p) := by grind
          rw [Int.neg_mul] at h2
          omega
      · left
        refine ⟨a1, by omega, ?_⟩
        rcases hs with rfl | rfl
        · refine nonneg_of (A := tt v - tt u) (by omega) ?_
          rw [plu]
          have h1 := Int.mul_nonneg a3 (show 0 ≤ tt p - tt u by omega)
          have h2 := Int.mul_nonneg (show 0 ≤ -crs u v p by omega) (show 0 ≤ tt q - tt u by omega)
          rw [Int.neg_mul] at h2
          omega
        · refine nonneg_of (A := tt u - tt v) (by omega) ?_
          have := plu u v p q
          have h1 := Int.mul_nonneg a3 (show 0 ≤ tt u - tt p by omega)
          have h2 := Int.mul_nonneg (show 0 ≤ -crs u v p by omega) (show 0 ≤ tt u - tt q by omega)
          have e2 : crs u p q * (tt u - tt v) = crs u v q * (tt u - tt p) - crs u v p * (tt u - tt q) := by grind
          rw [Int.neg_mul] at h2
          omega
      · exact .inr hc
    · rw [if_neg hx]
      exact ⟨hc, hd⟩
theorem popS_ne {p : P2} : ∀ (st : List P2), st ≠ [] → popS p st ≠ [] ∧ (popS p st).getLast? = st.getLast?
  | [], h => absurd rfl h
  | [v], _ => by simp [popS]
  | v :: u :: r, _ => by
    unfold popS
    by_cases hx : crs u v p ≤ 0
    · rw [if_pos hx]
      obtain ⟨h1, h2⟩ := popS_ne (u :: r) (by simp)
      exact ⟨h1, by rw [h2]; simp⟩
    · rw [if_neg hx]; simp
theorem popS_le {p : P2} : ∀ (st : List P2), (popS p st).length ≤ st.length
  | [] => by simp [popS]
  | [v] => by simp [popS]
  | v :: u :: r => by
    unfold popS
    by_cases hx : crs u v p ≤ 0
    · rw [if_pos hx]
      have := popS_le (p := p) (u :: r)
      simp at this ⊢; omega
    · rw [if_neg hx]; simp
/-- What holds of the chain behind points ps. -/
structure ChainI (s : Int) (st ps : List P2) : Prop where
  dec : Dec s st
  cov : ∀ q ∈ ps, Cov s st q
  head : st.head? = ps.getLast?
  last : st.getLast? = ps.head?
  two : 2 ≤ ps.length → 2 ≤ st.length
  one : ps.length = st.length ∨ 1 ≤ st.length
def Inc (s : Int) : List P2 → Prop
  | u :: v :: r => s * tt u < s * tt v ∧ Inc s (v :: r)
  | _ => True
theorem chain_step {s : Int} (hs : s = 1 ∨ s = -1) {st ps : List P2} {p : P2} (h : ChainI s st ps) (hp : ∀ q, ps.getLast? = some q → s * tt q < s * tt p) : ChainI s (p :: popS p st) (ps ++ [p]) := by
  have hd : Dec s (p :: st) := by
    cases st with
    | nil => trivial
    | cons v r =>
      refine ⟨hp v ?_, h.dec⟩
      rw [← h.head]; rfl
  have e1 : s * s = 1 := by rcases hs with rfl | rfl <;> rfl
  have hself : Cov s (p :: st) p := by
    cases st with
    | nil => rfl
    | cons v r =>
      have := hd.1
      left
      exact ⟨by omega, by omega, by rw [crs_abb]; omega⟩
  have hcov : ∀ q ∈ ps ++ [p], Cov s (p :: st) q := by
    intro q hq
    rw [List.mem_append] at hq
    rcases hq with hq | hq
    · have := h.cov q hq
      cases st with
      | nil => exact this.elim
      | cons v r => exact .inr this
    · simp at hq; subst hq; exact hself
  cases hst : st with
  | nil =>
    subst hst
    have hps : ps = [] := by
      cases ps with
      | nil => rfl
      | cons a b => exact (h.cov a (by simp)).elim
    subst hps
    exact ⟨trivial, fun q hq => (by simp at hq; subst hq; rfl), rfl, rfl, fun h => absurd h (by simp), .inl rfl⟩
  | cons v r =>
    have hne : st ≠ [] := by rw [hst]; simp
    obtain ⟨n1, n2⟩ := popS_ne (p := p) st hne
    have hps : ps ≠ [] := by
      intro e
      have := h.last
      rw [e, hst] at this
      simp at this
    refine ⟨?_, ?_, ?_, ?_, ?_, ?_⟩
    · rw [← hst]; exact (pop_cov hs st hd hself).2
    · intro q hq
      rw [← hst]; exact (pop_cov hs st hd (hcov q hq)).1
    · simp
    · rw [← hst]
      have : (p :: popS p st).getLast? = (popS p st).getLast? := by
        cases hq : popS p st with
        | nil => exact absurd hq n1
        | cons a b => simp
      rw [this, n2, h.last]
      cases ps with
      | nil => exact absurd rfl hps
      | cons a b => simp
    · intro _
      rw [← hst]
      have := List.length_pos_iff.2 n1
      simp; omega
    · right; simp
theorem chain_all {s : Int} (hs : s = 1 ∨ s = -1) : ∀ (l st ps : List P2), ChainI s st ps → Inc s (ps.getLast?.toList ++ l) → ChainI s (chain st l) (ps ++ l)
  | [], st, ps, h, _ => by simpa [chain] using h
  | p :: l, st, ps, h, hi => by
    have h1 := chain_step hs (p := p) h (fun q hq => by
      rw [hq] at hi
      exact hi.1)
    have := chain_all hs l _ _ h1 (by
      have e : (ps ++ [p]).getLast? = some p := by simp
      rw [e]
      cases hq : ps.getLast? with
      | none => rw [hq] at hi; exact hi
      | some q => rw [hq] at hi; exact hi.2)
    unfold chain
    simpa using this
theorem chain_inv {s : Int} (hs : s = 1 ∨ s = -1) {l : List P2} (h : Inc s l) : ChainI s (chain [] l) l := by
  have := chain_all hs l [] [] ⟨trivial, fun q hq => absurd hq (by simp), rfl, rfl, fun h => absurd h (by simp), .inl rfl⟩ (by simpa using h)
  simpa using this
/-- All points are on one line. -/
def Flat (l : List P2) : Prop := ∀ a ∈ l, ∀ b ∈ l, ∀ c ∈ l, crs a b c = 0
theorem chain_two {s : Int} (hs : s = 1 ∨ s = -1) {l : List P2} (h : Inc s l) (h2 : (chain [] l).length = 2) : ∃ u v, l.head? = some u ∧ l.getLast? = some v ∧ ∀ q ∈ l, 0 ≤ crs u v q := by
  have hc := chain_inv hs h
  match hq : chain [] l, h2 with
  | [v, u], _ =>
    rw [hq] at hc
    have e1 : s * s = 1 := by rcases hs with rfl | rfl <;> rfl
    refine ⟨u, v, by rw [← hc.last]; rfl, by rw [← hc.head]; rfl, fun q hq => ?_⟩
    rcases hc.cov q hq with ⟨_, _, h3⟩ | h3
    · rw [e1, Int.one_mul] at h3; exact h3
    · have : q = u := h3
      subst this
      rw [crs_aba]; exact Int.le_refl 0
theorem chain_flat {l : List P2} (hf : Flat l) (hl : 2 ≤ l.length) : (chain [] l).length = 2 := by
  have key : ∀ (r st : List P2), (∀ x ∈ r, x ∈ l) → (∀ x ∈ st, x ∈ l) → (st.length = 1 ∨ st.length = 2) → 2 ≤ st.length + r.length → (chain st r).length = 2 := by
    intro r
    induction r with
    | nil => intro st _ _ h1 h2; simp [chain] at h2 ⊢; omega
    | cons p r ih =>
      intro st hr hst h1 h2
      unfold chain
      have hp := hr p (by simp)
      have e : ∃ u, u ∈ l ∧ popS p st = [u] := by
        match st, h1 with
        | [u], _ => exact ⟨u, hst u (by simp), rfl⟩
        | [v, u], _ =>
          refine ⟨u, hst u (by simp), ?_⟩
          unfold popS
          rw [if_pos (by rw [hf u (hst u (by simp)) v (hst v (by simp)) p hp]; exact Int.le_refl 0)]
          rfl
      obtain ⟨u, hu, e⟩ := e
      rw [e]
      refine ih [p, u] (fun x hx => hr x (by simp [hx])) ?_ (.inr rfl) (by simp)
      intro x hx
      simp at hx
      rcases hx with rfl | rfl
      · exact hp
      · exact hu
  match l, hl with
  | a :: b :: r, _ =>
    unfold chain
    exact key (b :: r) [a] (fun x hx => by simp at hx ⊢; exact .inr hx) (fun x hx => by simp at hx; simp [hx]) (.inl rfl) (by simp; omega)
theorem Inc.rev : ∀ {l : List P2}, Inc 1 l → Inc (-1) l.reverse := by
  have app : ∀ (l : List P2) (p : P2), Inc (-1) l → (∀ q, l.getLast? = some q → tt p < tt q) → Inc (-1) (l ++ [p]) := by
    intro l
    induction l with
    | nil => intro p _ _; trivial
    | cons a l ih =>
      intro p h hq
      cases l with
      | nil => exact ⟨by have := hq a rfl; omega, trivial⟩
      | cons b l =>
        refine ⟨h.1, ih p h.2 (fun q e => hq q (by rw [← e]; simp))⟩
  intro l
  induction l with
  | nil => intro _; trivial
  | cons a l ih =>
    intro h
    rw [List.reverse_cons]
    cases l with
    | nil => exact trivial
    | cons b l =>
      refine app _ _ (ih h.2) (fun q e => ?_)
      rw [List.getLast?_reverse] at e
      have : b = q := by simpa using e
      subst this
      have := h.1; omega
/-- The number of corners that the chains make. -/
def hullN (l : List P2) : Nat := (chain [] l).length - 1 + ((chain [] l.reverse).length - 1)
theorem hullN_flat {l : List P2} (h : Inc 1 l) (hl : 2 ≤ l.length) : hullN l < 3 ↔ Flat l := by
  have hr := Inc.rev h
  have c1 := (chain_inv (.inl rfl) h).two hl
  have c2 := (chain_inv (.inr rfl) hr).two (by simpa using hl)
  constructor
  · intro hn
    unfold hullN at hn
    obtain ⟨u, v, e1, e2, h1⟩ := chain_two (.inl rfl) h (by omega)
    obtain ⟨u', v', e3, e4, h2⟩ := chain_two (.inr rfl) hr (by omega)
    rw [List.head?_reverse] at e3
    rw [List.getLast?_reverse] at e4
    rw [e2] at e3; rw [e1] at e4
    cases e3; cases e4
    have hne : tt u ≠ tt v := by
      have inc : ∀ (l : List P2) (a b : P2), Inc 1 (a :: l) → (a :: l).getLast? = some b → tt a ≤ tt b := by
        intro l
        induction l with
        | nil => intro a b _ e; simp at e; subst e; omega
        | cons c l ih =>
          intro a b hi e
          have := ih c b hi.2 (by rw [← e]; simp)
          have := hi.1; omega
      match l, hl with
      | a :: c :: r, _ =>
        simp at e1; subst e1
        have := inc r c v h.2 (by rw [← e2]; simp)
        have := h.1; omega
    intro a ha b hb c hc
    have z : ∀ q ∈ l, crs u v q = 0 := by
      intro q hq
      have a1 := h1 q hq
      have a2 := h2 q (by simpa using hq)
      rw [crs_swap] at a2
      omega
    exact line3 hne (z a ha) (z b hb) (z c hc)
  · intro hf
    have f2 : Flat l.reverse := fun a ha b hb c hc => hf a (by simpa using ha) b (by simpa using hb) c (by simpa using hc)
    have a1 := chain_flat hf hl
    have a2 := chain_flat f2 (by simpa using hl)
    unfold hullN; omega
end Go.Hull

/- Gift wrapping: fewer than three corners just for points on one line. No program in this text. -/
namespace Go.Hull
set_option maxRecDepth 100000

def wrapStep (a next q : P2) : P2 := if next = a ∨ crs a next q < 0 ∨ (crs a next q = 0 ∧ sqr a next < sqr a q) then q else next
def nextP (a : P2) (l : List P2) : P2 := l.foldl (wrapStep a) a
theorem sqr_nonneg (a b : P2) : 0 ≤ sqr a b := by
  unfold sqr
  have h1 : 0 ≤ (b.x - a.x) * (b.x - a.x) := by
    rcases Int.le_total 0 (b.x - a.x) with h | h
    · exact Int.mul_nonneg h h
    · exact Int.mul_nonneg_of_nonpos_of_nonpos h h
  have h2 : 0 ≤ (b.y - a.y) * (b.y - a.y) := by
    rcases Int.le_total 0 (b.y - a.y) with h | h
    · exact Int.mul_nonneg h h
    · exact Int.mul_nonneg_of_nonpos_of_nonpos h h
  omega
theorem sqr_self (a : P2) : sqr a a = 0 := by unfold sqr; simp
theorem sqr_zero {a b : P2} (h : sqr a b = 0) : a = b := by
  unfold sqr at h
  have h1 : 0 ≤ (b.x - a.x) * (b.x - a.x) := by
    rcases Int.le_total 0 (b.x - a.x) with h | h
    · exact Int.mul_nonneg h h
    · exact Int.mul_nonneg_of_nonpos_of_nonpos h h
  have h2 : 0 ≤ (b.y - a.y) * (b.y - a.y) := by
    rcases Int.le_total 0 (b.y - a.y) with h | h
    · exact Int.mul_nonneg h h
    · exact Int.mul_nonneg_of_nonpos_of_nonpos h h
  have e1 : (b.x - a.x) * (b.x - a.x) = 0 := by omega
  have e2 : (b.y - a.y) * (b.y - a.y) = 0 := by omega
  have e3 : b.x - a.x = 0 := by rcases Int.mul_eq_zero.1 e1 with h | h <;> exact h
  have e4 : b.y - a.y = 0 := by rcases Int.mul_eq_zero.1 e2 with h | h <;> exact h
  cases a; cases b; simp at e3 e4 ⊢; omega
theorem sq_lt {a c : Int} (h0 : 0 ≤ a) (h : a < c) : a * a < c * c := by
  have h1 := Int.mul_le_mul_of_nonneg_left (Int.le_of_lt h) h0
  have h2 := Int.mul_lt_mul_of_pos_right h (show 0 < c by omega)
  omega
theorem on_sq {u a r : P2} (h : crs u a r = 0) : sqr u r * ((tt a - tt u) * (tt a - tt u)) = sqr u a * ((tt r - tt u) * (tt r - tt u)) := by
  have h1 : (r.x - u.x) * (tt a - tt u) = (a.x - u.x) * (tt r - tt u) := by unfold crs at h; unfold tt; grind
  have h2 : (r.y - u.y) * (tt a - tt u) = (a.y - u.y) * (tt r - tt u) := by unfold crs at h; unfold tt; grind
  unfold sqr
  grind
/-- On a line, what is not further away stands not further along. -/
theorem on_le {u a r : P2} (h : crs u a r = 0) (ha : tt u < tt a) (_hr : tt u ≤ tt r) (hs : sqr u r ≤ sqr u a) (hp : 0 < sqr u a) : tt r ≤ tt a := by
  rcases Int.lt_or_le (tt a) (tt r) with hlt | hle
  · exfalso
    have e := on_sq h
    have hT : 0 < (tt a - tt u) * (tt a - tt u) := Int.mul_pos (by omega) (by omega)
    have hS : (tt a - tt u) * (tt a - tt u) < (tt r - tt u) * (tt r - tt u) := sq_lt (by omega) (by omega)
    have h1 : sqr u r * ((tt a - tt u) * (tt a - tt u)) ≤ sqr u a * ((tt a - tt u) * (tt a - tt u)) := Int.mul_le_mul_of_nonneg_right hs (by omega)
    have h2 : sqr u a * ((tt a - tt u) * (tt a - tt u)) < sqr u a * ((tt r - tt u) * (tt r - tt u)) := Int.mul_lt_mul_of_pos_left hS hp
    omega
  · exact hle
/-- On a line, what stands nearer along is nearer. -/
theorem on_lt {u a r : P2} (h : crs u a r = 0) (ha : tt u ≠ tt a) (hr : (tt u ≤ tt r ∧ tt r < tt a) ∨ (tt a < tt r ∧ tt r ≤ tt u)) : sqr u r < sqr u a := by
  have hp : 0 < sqr u a := by
    have := sqr_nonneg u a
    rcases Int.lt_or_le 0 (sqr u a) with h' | h'
    · exact h'
    · exfalso
      have : u = a := sqr_zero (by omega)
      exact ha (by rw [this])
  have e := on_sq h
  have hS : (tt r - tt u) * (tt r - tt u) < (tt a - tt u) * (tt a - tt u) := by
    rcases hr with ⟨a1, a2⟩ | ⟨a1, a2⟩
    · rcases Int.lt_or_eq_of_le a1 with h' | h'
      · exact sq_lt (by omega) (by omega)
      · rw [h', Int.sub_self, Int.zero_mul]; exact Int.mul_pos (by omega) (by omega)
    · have e1 : (tt r - tt u) * (tt r - tt u) = (tt u - tt r) * (tt u - tt r) := by grind
      have e2 : (tt a - tt u) * (tt a - tt u) = (tt u - tt a) * (tt u - tt a) := by grind
      rw [e1, e2]
      exact sq_lt (by omega) (by omega)
  rcases Int.lt_or_le (sqr u r) (sqr u a) with h' | h'
  · exact h'
  · exfalso
    have hT : 0 ≤ (tt a - tt u) * (tt a - tt u) := by
      have e0 : 0 ≤ (tt r - tt u) * (tt r - tt u) := by
        rcases Int.le_total 0 (tt r - tt u) with h | h
        · exact Int.mul_nonneg h h
        · exact Int.mul_nonneg_of_nonpos_of_nonpos h h
      omega
    have h1 : sqr u a * ((tt a - tt u) * (tt a - tt u)) ≤ sqr u r * ((tt a - tt u) * (tt a - tt u)) := Int.mul_le_mul_of_nonneg_right h' hT
    have h2 : sqr u a * ((tt r - tt u) * (tt r - tt u)) < sqr u a * ((tt a - tt u) * (tt a - tt u)) := Int.mul_lt_mul_of_pos_left hS hp
    omega
theorem step_or (a next q : P2) : wrapStep a next q = q ∨ wrapStep a next q = next := by
  unfold wrapStep; split
  · exact .inl rfl
  · exact .inr rfl
theorem step_ne {a next q : P2} (h : next ≠ a) : wrapStep a next q ≠ a := by
  unfold wrapStep
  split
  · rename_i hc
    rintro rfl
    rcases hc with hc | hc | ⟨_, hc⟩
    · exact h hc
    · rw [crs_aba] at hc; omega
    · rw [sqr_self] at hc
      have := sqr_nonneg q next
      omega
  · exact h
theorem fold_ne (a : P2) : ∀ (l : List P2) (next : P2), next ≠ a ∨ (∃ q ∈ l, q ≠ a) → l.foldl (wrapStep a) next ≠ a
  | [], next, h => by
    rcases h with h | ⟨q, hq, _⟩
    · exact h
    · cases hq
  | q :: l, next, h => by
    rw [List.foldl_cons]
    refine fold_ne a l _ ?_
    by_cases hn : next = a
    · have e : wrapStep a next q = q := by unfold wrapStep; rw [if_pos (.inl hn)]
      rw [e]
      by_cases hq : q = a
      · right
        rcases h with h | ⟨r, hr, hra⟩
        · exact absurd hn h
        · rcases List.mem_cons.1 hr with rfl | hr
          · exact absurd hq hra
          · exact ⟨r, hr, hra⟩
      · exact .inl hq
    · exact .inl (step_ne hn)
theorem nextP_ne {a : P2} {l : List P2} (h : ∃ q ∈ l, q ≠ a) : nextP a l ≠ a := fold_ne a l a (.inr h)
theorem fold_mem (a : P2) : ∀ (l : List P2) (next : P2), l.foldl (wrapStep a) next = next ∨ l.foldl (wrapStep a) next ∈ l
  | [], next => .inl rfl
  | q :: l, next => by
    rw [List.foldl_cons]
    rcases fold_mem a l (wrapStep a next q) with h | h
    · rw [h]
      rcases step_or a next q with h | h
      · rw [h]; exact .inr (by simp)
      · exact .inl h
    · exact .inr (List.mem_cons_of_mem _ h)
theorem nextP_mem {a : P2} {l : List P2} : nextP a l = a ∨ nextP a l ∈ l := fold_mem a l a

/-- The first step: every point on the left, or nearer. -/
def Lft (u next : P2) (ps : List P2) : Prop := (next = u ∧ ∀ q ∈ ps, q = u) ∨ (tt u < tt next ∧ ∀ q ∈ ps, 0 ≤ crs u next q ∧ (crs u next q = 0 → sqr u q ≤ sqr u next))
theorem lft_step {u next q : P2} {ps : List P2} (h : Lft u next ps) (hu : ∀ r ∈ ps ++ [q], tt u ≤ tt r) (hi : ∀ r ∈ ps ++ [q], tt u = tt r → r = u) : Lft u (wrapStep u next q) (ps ++ [q]) := by
  have hq := hu q (by simp)
  have hself : ∀ n : P2, 0 ≤ crs u n n ∧ (crs u n n = 0 → sqr u n ≤ sqr u n) := fun n => ⟨by rw [crs_abb]; omega, fun _ => Int.le_refl _⟩
  rcases h with ⟨h1, h2⟩ | ⟨h1, h2⟩
  · have e : wrapStep u next q = q := by unfold wrapStep; rw [if_pos (.inl h1)]
    rw [e]
    by_cases hqu : q = u
    · exact .inl ⟨hqu, fun r hr => by simp at hr; rcases hr with hr | rfl; exact h2 r hr; exact hqu⟩
    · right
      refine ⟨?_, fun r hr => ?_⟩
      · rcases Int.lt_or_eq_of_le hq with h | h
        · exact h
        · exact absurd (hi q (by simp) h) hqu
      · simp at hr
        rcases hr with hr | rfl
        · rw [h2 r hr, crs_aba, sqr_self]
          exact ⟨Int.le_refl 0, fun _ => sqr_nonneg _ _⟩
        · exact hself _
  · unfold wrapStep
    split
    · rename_i hc
      have hqn : tt u < tt q := by
        rcases Int.lt_or_eq_of_le hq with h | h
        · exact h
        · exfalso
          have := hi q (by simp) h
          subst this
          rcases hc with hc | hc | ⟨_, hc⟩
          · rw [hc] at h1; omega
          · rw [crs_aba] at hc; omega
          · rw [sqr_self] at hc
            have := sqr_nonneg q next; omega
      right
      refine ⟨hqn, fun r hr => ?_⟩
      rw [List.mem_append] at hr
      rcases hr with hr | hr
      · obtain ⟨b1, b2⟩ := h2 r hr
        have hr0 := hu r (by simp [hr])
        have e := plu u next q r
        have m1 := Int.mul_nonneg b1 (show 0 ≤ tt q - tt u by omega)
        rcases hc with hc | hc | ⟨hc, hs⟩
        · rw [hc] at h1; omega
        · have m2 := Int.mul_nonneg (show 0 ≤ -crs u next q by omega) (show 0 ≤ tt r - tt u by omega)
          rw [Int.neg_mul] at m2
          refine ⟨nonneg_of (A := tt next - tt u) (by omega) (by omega), fun hz => ?_⟩
          rw [hz, Int.zero_mul] at e
          have : crs u next q * (tt r - tt u) = 0 := by omega
          rcases Int.mul_eq_zero.1 this with h' | h'
          · omega
          · have := hi r (by simp [hr]) (by omega)
            rw [this, sqr_self]; exact sqr_nonneg _ _
        · rw [hc, Int.zero_mul, Int.sub_zero] at e
          refine ⟨nonneg_of (A := tt next - tt u) (by omega) (by omega), fun hz => ?_⟩
          rw [hz, Int.zero_mul] at e
          have : crs u next r = 0 := zero_of (A := tt q - tt u) (by omega) e.symm
          have := b2 this
          omega
      · simp at hr; subst hr
        exact hself _
    · rename_i hc
      right
      refine ⟨h1, fun r hr => ?_⟩
      rw [List.mem_append] at hr
      rcases hr with hr | hr
      · exact h2 r hr
      · simp at hr; subst hr
        refine ⟨?_, fun hz => ?_⟩
        · rcases Int.lt_or_le (crs u next r) 0 with h | h
          · exact absurd (.inr (.inl h)) hc
          · exact h
        · rcases Int.lt_or_le (sqr u next) (sqr u r) with h | h
          · exact absurd (.inr (.inr ⟨hz, h⟩)) hc
          · exact h
theorem lft_fold (u : P2) : ∀ (l ps : List P2) (next : P2), Lft u next ps → (∀ r ∈ ps ++ l, tt u ≤ tt r) → (∀ r ∈ ps ++ l, tt u = tt r → r = u) → Lft u (l.foldl (wrapStep u) next) (ps ++ l)
  | [], ps, next, h, _, _ => by simpa using h
  | q :: l, ps, next, h, hu, hi => by
    have := lft_fold u l (ps ++ [q]) (wrapStep u next q) (lft_step h (fun r hr => hu r (by simp at hr ⊢; rcases hr with h | h <;> simp [h])) (fun r hr => hi r (by simp at hr ⊢; rcases hr with h | h <;> simp [h])))
      (by simpa using hu) (by simpa using hi)
    simpa using this
theorem lft_next {u : P2} {l : List P2} (hu : ∀ r ∈ l, tt u ≤ tt r) (hi : ∀ r ∈ l, tt u = tt r → r = u) : Lft u (nextP u l) l := by
  have := lft_fold u l [] u (.inl ⟨rfl, fun q hq => by cases hq⟩) (by simpa using hu) (by simpa using hi)
  simpa [nextP] using this

/-- The second step. -/
theorem pos_step {u A next q : P2} (hA : tt u < tt A) (hq : 0 ≤ crs u A q) (hqa : crs u A q = 0 → tt q ≤ tt A) (hqi : tt q = tt A → crs u A q = 0 → q = A) (hn : next = A ∨ (0 ≤ crs u A next ∧ (crs u A next = 0 → tt next < tt A)))
    (h : 0 < crs u A next ∨ 0 < crs u A q) : 0 < crs u A (wrapStep A next q) := by
  have e := plu A u next q
  have e1 : crs A u q = - crs u A q := crs_swap A u q
  have e2 : crs A u next = - crs u A next := crs_swap A u next
  rw [e1, e2] at e
  have e3 : crs A next q * (tt A - tt u) = crs u A next * (tt A - tt q) - crs u A q * (tt A - tt next) := by grind
  unfold wrapStep
  split
  · rename_i hc
    rcases Int.lt_or_eq_of_le hq with h' | h'
    · exact h'
    · exfalso
      have h0 : crs u A q = 0 := h'.symm
      rw [h0, Int.zero_mul, Int.sub_zero] at e3
      have hp : 0 < crs u A next := by omega
      have hta := hqa h0
      have m := Int.mul_nonneg (show 0 ≤ crs u A next by omega) (show 0 ≤ tt A - tt q by omega)
      have hx : 0 ≤ crs A next q := nonneg_of (A := tt A - tt u) (by omega) (by omega)
      rcases hc with hc | hc | ⟨hc, hs⟩
      · rw [hc, crs_abb] at hp; omega
      · omega
      · rw [hc, Int.zero_mul] at e3
        rcases Int.mul_eq_zero.1 e3.symm with h | h
        · omega
        · have := hqi (by omega) h0
          subst this
          rw [sqr_self] at hs
          have := sqr_nonneg q next; omega
  · rename_i hc
    rcases hn with hn | ⟨hn, hn2⟩
    · exact absurd (.inl hn) hc
    · rcases Int.lt_or_eq_of_le hn with h' | h'
      · exact h'
      · exfalso
        have h0 : crs u A next = 0 := h'.symm
        rw [h0, Int.zero_mul, Int.zero_sub] at e3
        have hp : 0 < crs u A q := by omega
        have m := Int.mul_pos hp (show 0 < tt A - tt next by have := hn2 h0; omega)
        have hx : crs A next q < 0 := by
          rcases Int.lt_or_le (crs A next q) 0 with h | h
          · exact h
          · have := Int.mul_nonneg h (show 0 ≤ tt A - tt u by omega)
            omega
        exact hc (.inr (.inl hx))
theorem pos_fold {u A : P2} (hA : tt u < tt A) : ∀ (l : List P2) (next : P2), (∀ q ∈ l, 0 ≤ crs u A q ∧ (crs u A q = 0 → tt q ≤ tt A) ∧ (tt q = tt A → crs u A q = 0 → q = A)) →
    (next = A ∨ (0 ≤ crs u A next ∧ (crs u A next = 0 → tt next < tt A))) → (0 < crs u A next ∨ ∃ q ∈ l, 0 < crs u A q) → 0 < crs u A (l.foldl (wrapStep A) next)
  | [], next, _, _, h => by
    rcases h with h | ⟨q, hq, _⟩
    · exact h
    · cases hq
  | q :: l, next, hl, hn, h => by
    rw [List.foldl_cons]
    obtain ⟨b1, b2, b3⟩ := hl q (by simp)
    have hn' : wrapStep A next q = A ∨ (0 ≤ crs u A (wrapStep A next q) ∧ (crs u A (wrapStep A next q) = 0 → tt (wrapStep A next q) < tt A)) := by
      rcases step_or A next q with e | e
      · rw [e]
        by_cases hqa : q = A
        · exact .inl hqa
        · right
          refine ⟨b1, fun hz => ?_⟩
          have := b2 hz
          rcases Int.lt_or_eq_of_le this with h | h
          · exact h
          · exact absurd (b3 h hz) hqa
      · rw [e]; exact hn
    refine pos_fold hA l _ (fun r hr => hl r (List.mem_cons_of_mem _ hr)) hn' ?_
    rcases h with h | ⟨r, hr, hp⟩
    · exact .inl (pos_step hA b1 b2 b3 hn (.inl h))
    · rcases List.mem_cons.1 hr with rfl | hr
      · exact .inl (pos_step hA b1 b2 b3 hn (.inr hp))
      · exact .inr ⟨r, hr, hp⟩
theorem first_fold {u A : P2} (hne : u ≠ A) (l : List P2) (hf : ∀ q ∈ l, ∀ r ∈ l, crs A q r = 0) (hA : ∀ q ∈ l, q ≠ u → sqr A q < sqr A u) : ∀ (k : List P2) (next : P2), (∀ q ∈ k, q ∈ l) → (next = A ∨ next ∈ l) → (next = u ∨ u ∈ k) → u ∈ l → k.foldl (wrapStep A) next = u
  | [], next, _, _, h, _ => by
    rcases h with h | h
    · exact h
    · cases h
  | q :: k, next, hk, hn, h, hu => by
    rw [List.foldl_cons]
    have hq := hk q (by simp)
    refine first_fold hne l hf hA k _ (fun r hr => hk r (List.mem_cons_of_mem _ hr)) ?_ ?_ hu
    · rcases step_or A next q with e | e
      · rw [e]; exact .inr hq
      · rw [e]; exact hn
    · rcases h with h | h
      · subst h
        unfold wrapStep
        split
        · rename_i hc
          left
          rcases hc with hc | hc | ⟨_, hc⟩
          · exact absurd hc hne
          · rw [hf next hu q hq] at hc; omega
          · by_cases hqu : q = next
            · exact hqu
            · have := hA q hq hqu; omega
        · exact .inl rfl
      · rcases List.mem_cons.1 h with rfl | h
        · left
          unfold wrapStep
          split
          · rfl
          · rename_i hc
            rcases hn with hn | hn
            · exact absurd (.inl hn) hc
            · by_cases hnu : next = u
              · exact hnu
              · exact absurd (.inr (.inr ⟨hf next hn u hq, hA next hn hnu⟩)) hc
        · exact .inr h

/-- Gift wrapping stops before the third corner just for points on one line. -/
theorem wrap_flat {u : P2} {l : List P2} (hul : u ∈ l) (hu : ∀ r ∈ l, tt u ≤ tt r) (hinj : ∀ r ∈ l, ∀ q ∈ l, tt r = tt q → r = q) :
    (nextP u l = u ∨ nextP (nextP u l) l = u ∨ nextP (nextP u l) l = nextP u l) ↔ Flat l := by
  have hi : ∀ r ∈ l, tt u = tt r → r = u := fun r hr e => (hinj u hul r hr e).symm
  have hL := lft_next hu hi
  constructor
  · intro h
    rcases hL with ⟨_, h2⟩ | ⟨h1, h2⟩
    · intro a ha b hb c hc
      rw [h2 a ha, h2 b hb, crs_aab]
    · have hne : nextP u l ≠ u := by
        intro e; rw [e] at h1; omega
      have hAl : nextP u l ∈ l := by
        rcases nextP_mem (a := u) (l := l) with h | h
        · exact absurd h hne
        · exact h
      generalize hA : nextP u l = A at *
      by_cases hall : ∀ q ∈ l, crs u A q = 0
      · intro a ha b hb c hc
        exact line3 (p := u) (r := A) (by omega) (hall a ha) (hall b hb) (hall c hc)
      · exfalso
        have hq : ∃ q ∈ l, 0 < crs u A q := by
          apply Classical.byContradiction
          intro hn
          apply hall
          intro q hq
          have := (h2 q hq).1
          rcases Int.lt_or_eq_of_le this with h' | h'
          · exact absurd ⟨q, hq, h'⟩ hn
          · exact h'.symm
        have hpA : 0 < sqr u A := by
          have := sqr_nonneg u A
          rcases Int.lt_or_le 0 (sqr u A) with h' | h'
          · exact h'
          · exact absurd (sqr_zero (show sqr u A = 0 by omega)).symm hne
        have hp := pos_fold h1 l A (fun q hq => ⟨(h2 q hq).1, fun hz => on_le hz h1 (hu q hq) ((h2 q hq).2 hz) hpA, fun e _ => hinj q hq A hAl e⟩) (.inl rfl) (.inr hq)
        have hp : 0 < crs u A (nextP A l) := hp
        rcases h with h | h | h
        · exact hne h
        · rw [h, crs_aba] at hp; omega
        · rw [h, crs_abb] at hp; omega
  · intro hf
    rcases hL with ⟨h1, _⟩ | ⟨h1, h2⟩
    · exact .inl h1
    · right; left
      have hne : nextP u l ≠ u := by
        intro e; rw [e] at h1; omega
      have hAl : nextP u l ∈ l := by
        rcases nextP_mem (a := u) (l := l) with h | h
        · exact absurd h hne
        · exact h
      generalize hA : nextP u l = A at *
      have hpA : 0 < sqr u A := by
        have := sqr_nonneg u A
        rcases Int.lt_or_le 0 (sqr u A) with h' | h'
        · exact h'
        · exact absurd (sqr_zero (show sqr u A = 0 by omega)).symm hne
      refine first_fold (fun e => hne e.symm) l (fun q hq r hr => hf A hAl q hq r hr) ?_ l A (fun q hq => hq) (.inl rfl) (.inr hul) hul
      intro q hq hqu
      have hle := on_le (hf u hul A hAl q hq) h1 (hu q hq) ((h2 q hq).2 (hf u hul A hAl q hq)) hpA
      have hlt : tt u < tt q := by
        rcases Int.lt_or_eq_of_le (hu q hq) with h | h
        · exact h
        · exact absurd (hi q hq h) hqu
      exact on_lt (hf A hAl u hul q hq) (by omega) (.inr ⟨hlt, hle⟩)
end Go.Hull

/- Delaunay triangles: the two tests agree, and so do the two lists. No program in this text. -/
namespace Go.Hull
set_option maxRecDepth 100000

/-- Twice .. : the sign says whether d is in the circle through a, b, c (counterclockwise). -/
def det3 (a b c d : P2) : Int := sqr d a * crs d b c + sqr d b * crs d c a + sqr d c * crs d a b
theorem det3_rot (a b c d : P2) : det3 a b c d = det3 b c a d := by unfold det3; omega
theorem det3_a (a b c : P2) : det3 a b c a = 0 := by
  unfold det3; rw [sqr_self, crs_aba, crs_aab]; simp
theorem det3_b (a b c : P2) : det3 a b c b = 0 := by rw [det3_rot]; exact det3_a b c a
theorem det3_c (a b c : P2) : det3 a b c c = 0 := by rw [det3_rot, det3_rot]; exact det3_a c a b
/-- Before: by x, then by y. -/
def bef (p q : P2) : Bool := decide (p.x < q.x) || (p.x == q.x && decide (p.y < q.y))
def dotP (p a b : P2) : Int := (a.x - p.x) * (b.x - p.x) + (a.y - p.y) * (b.y - p.y)
theorem det_line (f a b p : P2) (h : crs a b p = 0) : det3 f a b p = - (dotP p a b * crs f a b) := by
  have h1 : (a.x - p.x) * (b.y - p.y) - (a.y - p.y) * (b.x - p.x) = 0 := by unfold crs at h; grind
  unfold det3 dotP sqr crs
  grind
theorem on_ends {a b p : P2} (h : crs a b p = 0) (hd : dotP p a b = 0) : p = a ∨ p = b := by
  have h1 : (a.x - p.x) * (b.y - p.y) - (a.y - p.y) * (b.x - p.x) = 0 := by unfold crs at h; grind
  have h2 : sqr p a * sqr p b = 0 := by
    have : sqr p a * sqr p b = dotP p a b * dotP p a b + ((a.x - p.x) * (b.y - p.y) - (a.y - p.y) * (b.x - p.x)) * ((a.x - p.x) * (b.y - p.y) - (a.y - p.y) * (b.x - p.x)) := by
      unfold sqr dotP; grind
    rw [this, hd, h1]; rfl
  rcases Int.mul_eq_zero.1 h2 with h | h
  · exact .inl (sqr_zero h)
  · exact .inr (sqr_zero h)
/-- The program's test for one point, f being the first corner. -/
def okProg (f a b p : P2) : Bool := !(decide (det3 f a b p > 0)) && (!(det3 f a b p == 0) || (!(bef p f) && !(decide (crs a b p < 0))))
def okRef (f a b p : P2) : Bool := !(decide (det3 f a b p > 0)) && (!(det3 f a b p == 0) || (!(bef p f) && decide (crs a b p > 0)))
theorem ok_eq {f a b p : P2} (hc : 0 < crs f a b) (ha : p ≠ a) (hb : p ≠ b) : okProg f a b p = okRef f a b p := by
  unfold okProg okRef
  cases hd : det3 f a b p == 0 with
  | false => simp
  | true =>
    have hd : det3 f a b p = 0 := by simpa using hd
    have hn : crs a b p ≠ 0 := by
      intro h0
      rw [det_line f a b p h0] at hd
      have : dotP p a b * crs f a b = 0 := by omega
      rcases Int.mul_eq_zero.1 this with h | h
      · rcases on_ends h0 h with h | h
        · exact ha h
        · exact hb h
      · omega
    have : (!(decide (crs a b p < 0))) = decide (crs a b p > 0) := by
      rw [Bool.eq_iff_iff]; simp; omega
    rw [this]
theorem ok_vertex {f a b p : P2} (hc : 0 < crs f a b) (hfa : bef a f = false) (hfb : bef b f = false) (h : p = f ∨ p = a ∨ p = b) : okProg f a b p = true := by
  have hf : bef f f = false := by unfold bef; simp
  unfold okProg
  rcases h with rfl | rfl | rfl
  · have e := crs_cyc p a b
    rw [det3_a, hf]
    simp
    omega
  · rw [det3_b, hfa, crs_aba]; simp
  · rw [det3_c, hfb, crs_abb]; simp

structure Tri where
  A : Nat
  B : Nat
  C : Nat
  deriving DecidableEq, Inhabited
/-- The corner that comes first, and the other two in their turn. -/
def rot1 (t : P2 × P2 × P2) : P2 × P2 × P2 := if bef t.2.1 t.1 || bef t.2.2 t.1 then (t.2.1, t.2.2, t.1) else t
def rotP (p q r : P2) : P2 × P2 × P2 := rot1 (rot1 (p, q, r))
def rotR (p q r : P2) : P2 × P2 × P2 :=
  if bef q p then (if bef r q then (r, p, q) else (q, r, p)) else (if bef r p then (r, p, q) else (p, q, r))
theorem bef_irr (p : P2) : bef p p = false := by unfold bef; simp
theorem bef_asym {p q : P2} (h : bef p q = true) : bef q p = false := by
  unfold bef at *
  simp only [Bool.or_eq_true, Bool.and_eq_true, decide_eq_true_eq, beq_iff_eq] at h
  simp only [Bool.or_eq_false_iff, Bool.and_eq_false_iff, decide_eq_false_iff_not, beq_eq_false_iff_ne]
  omega
theorem bef_tot {p q : P2} (h : p ≠ q) (hb : bef p q = false) : bef q p = true := by
  unfold bef at *
  simp only [Bool.or_eq_false_iff, Bool.and_eq_false_iff, decide_eq_false_iff_not, beq_eq_false_iff_ne] at hb
  simp only [Bool.or_eq_true, Bool.and_eq_true, decide_eq_true_eq, beq_iff_eq]
  by_cases hx : p.x = q.x
  · have : p.y ≠ q.y := by
      intro hy; apply h; cases p; cases q; simp_all
    omega
  · omega
theorem bef_trans {p q r : P2} (h : bef p q = true) (k : bef q r = true) : bef p r = true := by
  unfold bef at *
  simp only [Bool.or_eq_true, Bool.and_eq_true, decide_eq_true_eq, beq_iff_eq] at *
  omega
theorem rot_eq {p q r : P2} (h1 : p ≠ q) (h2 : q ≠ r) (_h3 : p ≠ r) : rotP p q r = rotR p q r := by
  unfold rotP rotR rot1
  cases a : bef q p with
  | true =>
    have a' := bef_asym a
    cases b : bef r q with
    | true =>
      have c := bef_trans b a
      have c' := bef_asym c
      have b' := bef_asym b
      simp [b, c, a']
    | false =>
      have b' := bef_tot (fun e => h2 e.symm) b
      simp [b, a']
  | false =>
    have a' := bef_tot (fun e => h1 e.symm) a
    cases b : bef r p with
    | true =>
      have b' := bef_asym b
      have c := bef_trans b a'
      have c' := bef_asym c
      simp [c, a']
    | false =>
      simp [a, b]
theorem rotR_cases (p q r : P2) : rotR p q r = (p, q, r) ∨ rotR p q r = (q, r, p) ∨ rotR p q r = (r, p, q) := by
  unfold rotR
  split <;> split <;> simp
theorem rotR_least {p q r : P2} (h1 : p ≠ q) (_h2 : q ≠ r) (_h3 : p ≠ r) : bef (rotR p q r).2.1 (rotR p q r).1 = false ∧ bef (rotR p q r).2.2 (rotR p q r).1 = false := by
  unfold rotR
  cases a : bef q p with
  | true =>
    have a' := bef_asym a
    cases b : bef r q with
    | true => have c := bef_trans b a; simp [bef_asym c, bef_asym b]
    | false => simp [b, a']
  | false =>
    have a' := bef_tot (fun e => h1 e.symm) a
    cases b : bef r p with
    | true => have c := bef_trans b a'; simp [bef_asym c, bef_asym b]
    | false => simp [a, b]
/-- The program's belongs, at corners p, q, r. -/
def belP (l : List P2) (p q r : P2) : Bool := let t := rotP p q r; l.all fun x => okProg t.1 t.2.1 t.2.2 x
/-- The reference's Belongs, at numbers. -/
def belR (l : List P2) (t : Tri) : Bool :=
  let p := l.getD t.A default; let q := l.getD t.B default; let r := l.getD t.C default
  let s := rotR p q r
  (List.range l.length).all fun i => i == t.A || i == t.B || i == t.C || okRef s.1 s.2.1 s.2.2 (l.getD i default)
def Dist (l : List P2) : Prop := ∀ i j, i < l.length → j < l.length → i ≠ j → l.getD i default ≠ l.getD j default
theorem bel_eq {l : List P2} (hd : Dist l) {t : Tri} (hA : t.A < l.length) (hB : t.B < l.length) (hC : t.C < l.length) (hc : 0 < crs (l.getD t.A default) (l.getD t.B default) (l.getD t.C default)) :
    belP l (l.getD t.A default) (l.getD t.B default) (l.getD t.C default) = belR l t := by
  have n1 : t.A ≠ t.B := by intro e; rw [e, crs_aab] at hc; omega
  have n2 : t.B ≠ t.C := by intro e; rw [e, crs_abb] at hc; omega
  have n3 : t.A ≠ t.C := by intro e; rw [e, crs_aba] at hc; omega
  have d1 := hd _ _ hA hB n1
  have d2 := hd _ _ hB hC n2
  have d3 := hd _ _ hA hC n3
  unfold belP belR
  simp only
  rw [rot_eq d1 d2 d3]
  have hl := rotR_least d1 d2 d3
  have hcs : 0 < crs (rotR (l.getD t.A default) (l.getD t.B default) (l.getD t.C default)).1 (rotR (l.getD t.A default) (l.getD t.B default) (l.getD t.C default)).2.1 (rotR (l.getD t.A default) (l.getD t.B default) (l.getD t.C default)).2.2 := by
    rcases rotR_cases (l.getD t.A default) (l.getD t.B default) (l.getD t.C default) with e | e | e <;> rw [e]
    · exact hc
    · rw [← crs_cyc]; exact hc
    · rw [crs_cyc]; exact hc
  have hmem : ∀ x, (x = l.getD t.A default ∨ x = l.getD t.B default ∨ x = l.getD t.C default) ↔ (x = (rotR (l.getD t.A default) (l.getD t.B default) (l.getD t.C default)).1 ∨ x = (rotR (l.getD t.A default) (l.getD t.B default) (l.getD t.C default)).2.1 ∨ x = (rotR (l.getD t.A default) (l.getD t.B default) (l.getD t.C default)).2.2) := by
    intro x
    rcases rotR_cases (l.getD t.A default) (l.getD t.B default) (l.getD t.C default) with e | e | e <;> rw [e] <;> simp only <;> constructor <;> intro h <;> rcases h with h | h | h <;> simp [h]
  generalize rotR (l.getD t.A default) (l.getD t.B default) (l.getD t.C default) = s at *
  have hx : ∀ i, i < l.length → okProg s.1 s.2.1 s.2.2 (l.getD i default) = (i == t.A || i == t.B || i == t.C || okRef s.1 s.2.1 s.2.2 (l.getD i default)) := by
    intro i hi
    by_cases hv : i = t.A ∨ i = t.B ∨ i = t.C
    · have : l.getD i default = l.getD t.A default ∨ l.getD i default = l.getD t.B default ∨ l.getD i default = l.getD t.C default := by
        rcases hv with rfl | rfl | rfl <;> simp
      rw [ok_vertex hcs hl.1 hl.2 ((hmem _).1 this)]
      rcases hv with h | h | h <;> simp [h]
    · have hno : ¬ (l.getD i default = l.getD t.A default ∨ l.getD i default = l.getD t.B default ∨ l.getD i default = l.getD t.C default) := by
        intro h
        rcases h with h | h | h
        · exact hd i t.A hi hA (fun e => hv (.inl e)) h
        · exact hd i t.B hi hB (fun e => hv (.inr (.inl e))) h
        · exact hd i t.C hi hC (fun e => hv (.inr (.inr e))) h
      rw [hmem] at hno
      rw [ok_eq hcs (fun e => hno (.inr (.inl e))) (fun e => hno (.inr (.inr e)))]
      have e1 : (i == t.A) = false := by simp; intro e; exact hv (.inl e)
      have e2 : (i == t.B) = false := by simp; intro e; exact hv (.inr (.inl e))
      have e3 : (i == t.C) = false := by simp; intro e; exact hv (.inr (.inr e))
      rw [e1, e2, e3]; simp
  rw [Bool.eq_iff_iff, List.all_eq_true, List.all_eq_true]
  constructor
  · intro h i hi
    have hi := List.mem_range.1 hi
    rw [← hx i hi]
    exact h _ (by rw [List.getD_eq_getElem?_getD, List.getElem?_eq_getElem hi]; exact List.getElem_mem hi)
  · intro h x hxm
    obtain ⟨i, hi, rfl⟩ := List.getElem_of_mem hxm
    have := h i (List.mem_range.2 hi)
    rw [← hx i hi] at this
    rw [List.getD_eq_getElem?_getD, List.getElem?_eq_getElem hi] at this
    exact this
end Go.Hull

/- The lists of triangles: the program's, sorted, is the reference's. No program in this text. -/
namespace Go.Hull
set_option maxRecDepth 100000

def progC (l : List P2) (a b c : Nat) : Option Tri :=
  let turn := crs (l.getD a default) (l.getD b default) (l.getD c default)
  let t : Tri := if turn < 0 then ⟨a, c, b⟩ else ⟨a, b, c⟩
  if turn ≠ 0 ∧ belP l (l.getD t.A default) (l.getD t.B default) (l.getD t.C default) = true then some t else none
def refC (l : List P2) (a b c : Nat) : Option Tri :=
  if 0 < crs (l.getD a default) (l.getD b default) (l.getD c default) ∧ belR l ⟨a, b, c⟩ = true then some ⟨a, b, c⟩ else none
def pC (l : List P2) (a b k : Nat) : List Tri := (List.range k).filterMap fun j => progC l a b (b + 1 + j)
def pB (l : List P2) (a k : Nat) : List Tri := (List.range k).flatMap fun j => pC l a (a + 1 + j) (l.length - (a + 1 + j + 1))
def pA (l : List P2) (k : Nat) : List Tri := (List.range k).flatMap fun a => pB l a (l.length - (a + 1))
def rC (l : List P2) (a b k : Nat) : List Tri := (List.range k).filterMap fun j => refC l a b (a + 1 + j)
def rB (l : List P2) (a k : Nat) : List Tri := (List.range k).flatMap fun j => rC l a (a + 1 + j) (l.length - (a + 1))
def rA (l : List P2) (k : Nat) : List Tri := (List.range k).flatMap fun a => rB l a (l.length - (a + 1))
def triP (l : List P2) : List Tri := pA l l.length
def triR (l : List P2) : List Tri := rA l l.length
theorem progC_some {l : List P2} {a b c : Nat} {t : Tri} (h : progC l a b c = some t) : (t = ⟨a, b, c⟩ ∨ t = ⟨a, c, b⟩) ∧ 0 < crs (l.getD t.A default) (l.getD t.B default) (l.getD t.C default) ∧ belP l (l.getD t.A default) (l.getD t.B default) (l.getD t.C default) = true := by
  unfold progC at h
  simp only at h
  by_cases hn : crs (l.getD a default) (l.getD b default) (l.getD c default) < 0
  · rw [if_pos hn] at h
    split at h
    · rename_i hh
      cases h
      refine ⟨.inr rfl, ?_, hh.2⟩
      simp only
      have := crs_swap (l.getD a default) (l.getD c default) (l.getD b default)
      have e1 := crs_cyc (l.getD c default) (l.getD a default) (l.getD b default)
      omega
    · cases h
  · rw [if_neg hn] at h
    split at h
    · rename_i hh
      cases h
      exact ⟨.inl rfl, by simp only; omega, hh.2⟩
    · cases h
theorem refC_some {l : List P2} {a b c : Nat} {t : Tri} : refC l a b c = some t ↔ t = ⟨a, b, c⟩ ∧ 0 < crs (l.getD a default) (l.getD b default) (l.getD c default) ∧ belR l ⟨a, b, c⟩ = true := by
  unfold refC
  split
  · rename_i h
    constructor
    · intro e; cases e; exact ⟨rfl, h⟩
    · rintro ⟨rfl, _⟩; rfl
  · rename_i h
    constructor
    · intro e; cases e
    · rintro ⟨_, h'⟩; exact absurd h' h
theorem mem_triR {l : List P2} {t : Tri} : t ∈ triR l ↔ t.A < t.B ∧ t.A < t.C ∧ t.B < l.length ∧ t.C < l.length ∧ 0 < crs (l.getD t.A default) (l.getD t.B default) (l.getD t.C default) ∧ belR l t = true := by
  unfold triR rA rB rC
  simp only [List.mem_flatMap, List.mem_filterMap, List.mem_range]
  constructor
  · rintro ⟨a, ha, j, hj, k, hk, h⟩
    obtain ⟨rfl, h1, h2⟩ := refC_some.1 h
    exact ⟨by simp only; omega, by simp only; omega, by simp only; omega, by simp only; omega, h1, h2⟩
  · obtain ⟨A, B, C⟩ := t
    rintro ⟨h1, h2, h3, h4, h5, h6⟩
    simp only at h1 h2 h3 h4
    refine ⟨A, by omega, B - (A + 1), by omega, C - (A + 1), by omega, ?_⟩
    rw [show A + 1 + (B - (A + 1)) = B by omega, show A + 1 + (C - (A + 1)) = C by omega]
    exact refC_some.2 ⟨rfl, h5, h6⟩
theorem mem_triP {l : List P2} {t : Tri} : t ∈ triP l ↔ t.A < t.B ∧ t.A < t.C ∧ t.B < l.length ∧ t.C < l.length ∧ 0 < crs (l.getD t.A default) (l.getD t.B default) (l.getD t.C default) ∧ belP l (l.getD t.A default) (l.getD t.B default) (l.getD t.C default) = true := by
  unfold triP pA pB pC
  simp only [List.mem_flatMap, List.mem_filterMap, List.mem_range]
  constructor
  · rintro ⟨a, ha, j, hj, k, hk, h⟩
    obtain ⟨h0, h1, h2⟩ := progC_some h
    rcases h0 with rfl | rfl
    · exact ⟨by simp only; omega, by simp only; omega, by simp only; omega, by simp only; omega, h1, h2⟩
    · exact ⟨by simp only; omega, by simp only; omega, by simp only; omega, by simp only; omega, h1, h2⟩
  · obtain ⟨A, B, C⟩ := t
    rintro ⟨h1, h2, h3, h4, h5, h6⟩
    simp only at h1 h2 h3 h4 h5 h6
    have hne : B ≠ C := by intro e; rw [e, crs_abb] at h5; omega
    by_cases hBC : B < C
    · refine ⟨A, by omega, B - (A + 1), by omega, C - (B + 1), by omega, ?_⟩
      rw [show A + 1 + (B - (A + 1)) = B by omega, show B + 1 + (C - (B + 1)) = C by omega]
      unfold progC
      simp only
      have ht : (if crs (l.getD A default) (l.getD B default) (l.getD C default) < 0 then (⟨A, C, B⟩ : Tri) else ⟨A, B, C⟩) = ⟨A, B, C⟩ := if_neg (by omega)
      rw [ht, if_pos ⟨by omega, h6⟩]
    · refine ⟨A, by omega, C - (A + 1), by omega, B - (C + 1), by omega, ?_⟩
      rw [show A + 1 + (C - (A + 1)) = C by omega, show C + 1 + (B - (C + 1)) = B by omega]
      have e1 := crs_swap (l.getD A default) (l.getD C default) (l.getD B default)
      have e2 := crs_cyc (l.getD C default) (l.getD A default) (l.getD B default)
      unfold progC
      simp only
      have ht : (if crs (l.getD A default) (l.getD C default) (l.getD B default) < 0 then (⟨A, B, C⟩ : Tri) else ⟨A, C, B⟩) = ⟨A, B, C⟩ := if_pos (by omega)
      rw [ht, if_pos ⟨by omega, h6⟩]
/-- By A, then B, then C. -/
def tLt (s t : Tri) : Prop := s.A < t.A ∨ (s.A = t.A ∧ (s.B < t.B ∨ (s.B = t.B ∧ s.C < t.C)))
def kLt (s t : Tri) : Prop := s.A < t.A ∨ (s.A = t.A ∧ (min s.B s.C < min t.B t.C ∨ (min s.B s.C = min t.B t.C ∧ max s.B s.C < max t.B t.C)))
theorem pw_range {n : Nat} {R : Nat → Nat → Prop} (h : ∀ i j, i < j → R i j) : (List.range n).Pairwise R := by
  rw [List.pairwise_iff_getElem]
  intro i j hi hj hij
  simp
  exact h i j hij
theorem triR_sorted (l : List P2) : (triR l).Pairwise tLt := by
  unfold triR rA rB rC
  rw [List.pairwise_flatMap]
  refine ⟨fun a _ => ?_, pw_range fun a a' haa => ?_⟩
  · rw [List.pairwise_flatMap]
    refine ⟨fun j _ => ?_, pw_range fun j j' hjj => ?_⟩
    · rw [List.pairwise_filterMap]
      refine pw_range fun k k' hkk x hx y hy => ?_
      obtain ⟨rfl, _⟩ := refC_some.1 hx
      obtain ⟨rfl, _⟩ := refC_some.1 hy
      exact .inr ⟨rfl, .inr ⟨rfl, by simp only; omega⟩⟩
    · intro x hx y hy
      simp only [List.mem_filterMap] at hx hy
      obtain ⟨k, _, hx⟩ := hx
      obtain ⟨k', _, hy⟩ := hy
      obtain ⟨rfl, _⟩ := refC_some.1 hx
      obtain ⟨rfl, _⟩ := refC_some.1 hy
      exact .inr ⟨rfl, .inl (by simp only; omega)⟩
  · intro x hx y hy
    simp only [List.mem_flatMap, List.mem_filterMap] at hx hy
    obtain ⟨_, _, k, _, hx⟩ := hx
    obtain ⟨_, _, k', _, hy⟩ := hy
    obtain ⟨rfl, _⟩ := refC_some.1 hx
    obtain ⟨rfl, _⟩ := refC_some.1 hy
    exact .inl haa
theorem triP_sorted (l : List P2) : (triP l).Pairwise kLt := by
  unfold triP pA pB pC
  rw [List.pairwise_flatMap]
  refine ⟨fun a _ => ?_, pw_range fun a a' haa => ?_⟩
  · rw [List.pairwise_flatMap]
    refine ⟨fun j _ => ?_, pw_range fun j j' hjj => ?_⟩
    · rw [List.pairwise_filterMap]
      refine pw_range fun k k' hkk x hx y hy => ?_
      obtain ⟨hx, _⟩ := progC_some hx
      obtain ⟨hy, _⟩ := progC_some hy
      rcases hx with rfl | rfl <;> rcases hy with rfl | rfl <;> refine .inr ⟨rfl, .inr ⟨?_, ?_⟩⟩ <;> simp only <;> omega
    · intro x hx y hy
      simp only [List.mem_filterMap] at hx hy
      obtain ⟨k, _, hx⟩ := hx
      obtain ⟨k', _, hy⟩ := hy
      obtain ⟨hx, _⟩ := progC_some hx
      obtain ⟨hy, _⟩ := progC_some hy
      rcases hx with rfl | rfl <;> rcases hy with rfl | rfl <;> refine .inr ⟨rfl, .inl ?_⟩ <;> simp only <;> omega
  · intro x hx y hy
    simp only [List.mem_flatMap, List.mem_filterMap] at hx hy
    obtain ⟨_, _, k, _, hx⟩ := hx
    obtain ⟨_, _, k', _, hy⟩ := hy
    obtain ⟨hx, _⟩ := progC_some hx
    obtain ⟨hy, _⟩ := progC_some hy
    rcases hx with rfl | rfl <;> rcases hy with rfl | rfl <;> exact .inl haa
theorem nodup_of {R : Tri → Tri → Prop} (hR : ∀ t, ¬ R t t) {l : List Tri} (h : l.Pairwise R) : l.Nodup :=
  List.Pairwise.imp (S := fun a b => a ≠ b) (fun {a b} hab (e : a = b) => hR a (by rw [← e] at hab; exact hab)) h
theorem perm_of_mem {a b : List Tri} (ha : a.Nodup) (hb : b.Nodup) (h : ∀ t, t ∈ a ↔ t ∈ b) : a.Perm b := by
  rw [List.perm_iff_count]
  intro t
  rw [ha.count, hb.count]
  by_cases ht : t ∈ a
  · rw [if_pos ht, if_pos ((h t).1 ht)]
  · rw [if_neg ht, if_neg fun h' => ht ((h t).2 h')]
theorem tri_perm {l : List P2} (hd : Dist l) : (triP l).Perm (triR l) := by
  refine perm_of_mem (nodup_of ?_ (triP_sorted l)) (nodup_of ?_ (triR_sorted l)) fun t => ?_
  · intro t h; unfold kLt at h; omega
  · intro t h; unfold tLt at h; omega
  · rw [mem_triP, mem_triR]
    constructor
    · rintro ⟨h1, h2, h3, h4, h5, h6⟩
      exact ⟨h1, h2, h3, h4, h5, by rw [← bel_eq hd (by omega) h3 h4 h5]; exact h6⟩
    · rintro ⟨h1, h2, h3, h4, h5, h6⟩
      exact ⟨h1, h2, h3, h4, h5, by rw [bel_eq hd (by omega) h3 h4 h5]; exact h6⟩
/-- The comparison of the program. -/
def cfT (s t : Tri) : Int :=
  let x := (s.A : Int) - t.A; let y := (s.B : Int) - t.B; let z := (s.C : Int) - t.C
  if x ≠ 0 then x else if y ≠ 0 then y else z
theorem cfT_lt (s t : Tri) : cfT s t < 0 ↔ tLt s t := by
  unfold cfT tLt
  simp only
  split
  · omega
  · split <;> omega
theorem tri_sorted {l : List P2} (hd : Dist l) : (triP l).mergeSort (fun x y => !(decide (cfT y x < 0))) = triR l := by
  refine List.Perm.eq_of_pairwise (le := fun x y => (!(decide (cfT y x < 0))) = true) ?_ ?_ ?_ ((List.mergeSort_perm _ _).trans (tri_perm hd))
  · intro a b _ _ h1 h2
    have h1 : ¬ cfT b a < 0 := by simpa using h1
    have h2 : ¬ cfT a b < 0 := by simpa using h2
    rw [cfT_lt] at h1 h2
    unfold tLt at h1 h2
    obtain ⟨A, B, C⟩ := a
    obtain ⟨A', B', C'⟩ := b
    simp only at h1 h2
    have : A = A' := by omega
    have : B = B' := by omega
    have : C = C' := by omega
    simp_all
  · refine List.pairwise_mergeSort ?_ ?_ _
    · intro a b c h1 h2
      have h1 : ¬ cfT b a < 0 := by simpa using h1
      have h2 : ¬ cfT c b < 0 := by simpa using h2
      have : ¬ cfT c a < 0 := by
        rw [cfT_lt] at h1 h2 ⊢
        unfold tLt at *
        omega
      simpa using this
    · intro a b
      by_cases h : cfT b a < 0
      · have : ¬ cfT a b < 0 := by
          rw [cfT_lt] at h ⊢
          unfold tLt at *
          omega
        simp [this]
      · simp
        omega
  · refine (triR_sorted l).imp fun {a b} h => ?_
    have : ¬ cfT b a < 0 := by
      rw [cfT_lt]
      unfold tLt at *
      omega
    simpa using this
end Go.Hull

/- Both hulls have fewer than three corners for the same patches. No program in this text. -/
namespace Go.Hull
set_option maxRecDepth 100000

def cmpI (x y : Int) : Int := if x < y then -1 else if y < x then 1 else 0
def aheadI (a b : P2) : Int := if cmpI a.x b.x ≠ 0 then cmpI a.x b.x else cmpI a.y b.y
theorem cmpI_neg (x y : Int) : cmpI x y < 0 ↔ x < y := by
  unfold cmpI; split
  · simp [*]
  · split
    · simp; omega
    · simp; omega
theorem cmpI_zero (x y : Int) : cmpI x y = 0 ↔ x = y := by
  unfold cmpI; split
  · simp; omega
  · split
    · simp; omega
    · simp; omega
theorem aheadI_neg (a b : P2) : aheadI a b < 0 ↔ bef a b = true := by
  unfold aheadI bef
  simp only [Bool.or_eq_true, Bool.and_eq_true, decide_eq_true_eq, beq_iff_eq]
  by_cases h : cmpI a.x b.x ≠ 0
  · rw [if_pos h, cmpI_neg]
    have : a.x ≠ b.x := fun e => h ((cmpI_zero _ _).2 e)
    omega
  · rw [if_neg h, cmpI_neg]
    have : a.x = b.x := (cmpI_zero _ _).1 (by omega)
    omega
theorem bef_tt {a b : P2} (ha : okP a) (hb : okP b) : bef a b = true ↔ tt a < tt b := by
  rw [tt_lt ha hb]
  unfold bef
  simp only [Bool.or_eq_true, Bool.and_eq_true, decide_eq_true_eq, beq_iff_eq]
def sortP (l : List P2) : List P2 := l.mergeSort fun x y => !(decide (aheadI y x < 0))
theorem sortP_perm (l : List P2) : (sortP l).Perm l := List.mergeSort_perm _ _
theorem sortP_pw (l : List P2) : (sortP l).Pairwise fun x y => bef y x = false := by
  have : (sortP l).Pairwise fun x y => (!(decide (aheadI y x < 0))) = true := by
    refine List.pairwise_mergeSort ?_ ?_ _
    · intro a b c h1 h2
      have h1 : ¬ aheadI b a < 0 := by simpa using h1
      have h2 : ¬ aheadI c b < 0 := by simpa using h2
      rw [aheadI_neg] at h1 h2
      have : ¬ aheadI c a < 0 := by
        rw [aheadI_neg]
        unfold bef at *
        simp only [Bool.or_eq_true, Bool.and_eq_true, decide_eq_true_eq, beq_iff_eq] at *
        omega
      simpa using this
    · intro a b
      by_cases h : aheadI b a < 0
      · have : ¬ aheadI a b < 0 := by
          rw [aheadI_neg] at h ⊢
          rw [bef_asym h]; simp
        simp [this]
      · simp
        omega
  refine this.imp fun {a b} h => ?_
  have h : ¬ aheadI b a < 0 := by simpa using h
  rw [aheadI_neg] at h
  simpa using h
theorem dist_nodup {l : List P2} (h : Dist l) : l.Nodup := by
  unfold List.Nodup
  rw [List.pairwise_iff_getElem]
  intro i j hi hj hij e
  refine h i j hi hj (by omega) ?_
  rw [List.getD_eq_getElem?_getD, List.getD_eq_getElem?_getD, List.getElem?_eq_getElem hi, List.getElem?_eq_getElem hj]
  exact e
theorem inc_of {l : List P2} (h : l.Pairwise fun a b => tt a < tt b) : Inc 1 l := by
  induction l with
  | nil => trivial
  | cons a l ih =>
    cases l with
    | nil => trivial
    | cons b l =>
      rw [List.pairwise_cons] at h
      have := h.1 b (by simp)
      exact ⟨by omega, ih h.2⟩
theorem sortP_inc {l : List P2} (hd : Dist l) (ho : ∀ p ∈ l, okP p) : Inc 1 (sortP l) := by
  have hn : (sortP l).Nodup := (sortP_perm l).nodup_iff.2 (dist_nodup hd)
  have hm : ∀ p ∈ sortP l, okP p := fun p hp => ho p ((sortP_perm l).mem_iff.1 hp)
  refine inc_of ?_
  have hp := sortP_pw l
  unfold List.Nodup at hn
  rw [List.pairwise_iff_getElem] at *
  intro i j hi hj hij
  have h1 := hp i j hi hj hij
  have h2 := hn i j hi hj hij
  have h3 := bef_tot (fun e => h2 e.symm) h1
  exact (bef_tt (hm _ (List.getElem_mem hi)) (hm _ (List.getElem_mem hj))).1 h3
theorem flat_perm {a b : List P2} (h : a.Perm b) : Flat a ↔ Flat b := by
  unfold Flat
  constructor
  · intro k x hx y hy z hz
    exact k x (h.mem_iff.2 hx) y (h.mem_iff.2 hy) z (h.mem_iff.2 hz)
  · intro k x hx y hy z hz
    exact k x (h.mem_iff.1 hx) y (h.mem_iff.1 hy) z (h.mem_iff.1 hz)
/-- How many corners the program's hull has. -/
def hullP (l : List P2) : Nat := if l.length < 2 then l.length else hullN (sortP l)
theorem hullP_flat {l : List P2} (hd : Dist l) (ho : ∀ p ∈ l, okP p) : hullP l < 3 ↔ Flat l := by
  unfold hullP
  by_cases hl : l.length < 2
  · rw [if_pos hl]
    constructor
    · intro _ a ha b hb c hc
      match l, hl with
      | [], _ => cases ha
      | [x], _ =>
        simp at ha hb hc
        subst ha; subst hb; subst hc
        exact crs_aab _ _
    · intro _; omega
  · rw [if_neg hl, hullN_flat (sortP_inc hd ho) (by rw [(sortP_perm l).length_eq]; omega), flat_perm (sortP_perm l)]
/-- The least point, as the reference finds it. -/
def leastP (u : P2) (l : List P2) : P2 := l.foldl (fun f q => if bef q f = true then q else f) u
theorem leastP_spec : ∀ (l : List P2) (u : P2), okP u → (∀ p ∈ l, okP p) → (leastP u l = u ∨ leastP u l ∈ l) ∧ tt (leastP u l) ≤ tt u ∧ ∀ q ∈ l, tt (leastP u l) ≤ tt q
  | [], u, _, _ => ⟨.inl rfl, Int.le_refl _, fun q hq => by cases hq⟩
  | q :: l, u, hu, ho => by
    have hq := ho q (by simp)
    have ho' := fun p hp => ho p (List.mem_cons_of_mem _ hp)
    by_cases hb : bef q u = true
    · have e : leastP u (q :: l) = leastP q l := by unfold leastP; rw [List.foldl_cons, if_pos hb]
      obtain ⟨h1, h2, h3⟩ := leastP_spec l q hq ho'
      have hlt := (bef_tt hq hu).1 hb
      rw [e]
      refine ⟨.inr ?_, by omega, fun r hr => ?_⟩
      · rcases h1 with h | h
        · rw [h]; simp
        · exact List.mem_cons_of_mem _ h
      · rcases List.mem_cons.1 hr with rfl | hr
        · exact h2
        · exact h3 r hr
    · have e : leastP u (q :: l) = leastP u l := by unfold leastP; rw [List.foldl_cons, if_neg hb]
      obtain ⟨h1, h2, h3⟩ := leastP_spec l u hu ho'
      have hge : tt u ≤ tt q := by
        rcases Int.lt_or_le (tt q) (tt u) with h | h
        · exact absurd ((bef_tt hq hu).2 h) hb
        · exact h
      rw [e]
      refine ⟨h1.imp id (fun h => List.mem_cons_of_mem _ h), h2, fun r hr => ?_⟩
      rcases List.mem_cons.1 hr with rfl | hr
      · omega
      · exact h3 r hr
/-- The corners that gift wrapping finds. -/
def wrapF (l : List P2) (first : P2) : Nat → List P2 → P2 → List P2
  | 0, out, _ => out
  | k + 1, out, a => let n := nextP a l; if n = first ∨ n = a then out else wrapF l first k (out ++ [n]) n
theorem wrapF_len (l : List P2) (first : P2) : ∀ (k : Nat) (out : List P2) (a : P2), out.length ≤ (wrapF l first k out a).length
  | 0, out, a => Nat.le_refl _
  | k + 1, out, a => by
    unfold wrapF
    simp only
    split
    · exact Nat.le_refl _
    · have := wrapF_len l first k (out ++ [nextP a l]) (nextP a l)
      simp at this; omega
/-- The reference's hull: at most n rounds behind the first corner. -/
def hullR (l : List P2) : List P2 := match l with
  | [] => []
  | u :: r => let f := leastP u r; wrapF l f l.length [f] f
theorem hullR_flat {l : List P2} (hd : Dist l) (ho : ∀ p ∈ l, okP p) : (hullR l).length < 3 ↔ Flat l := by
  match l, hd, ho with
  | [], _, _ => exact ⟨fun _ a ha => by (cases ha), fun _ => by simp [hullR]⟩
  | u :: r, hd, ho =>
    obtain ⟨h1, h2, h3⟩ := leastP_spec r u (ho u (by simp)) (fun p hp => ho p (by simp [hp]))
    have hmem : leastP u r ∈ u :: r := by
      rcases h1 with h | h
      · rw [h]; simp
      · simp [h]
    have hle : ∀ q ∈ u :: r, tt (leastP u r) ≤ tt q := by
      intro q hq
      rcases List.mem_cons.1 hq with rfl | hq
      · exact h2
      · exact h3 q hq
    have hw := wrap_flat hmem hle (fun a ha b hb e => tt_eq (ho a ha) (ho b hb) e)
    rw [← hw]
    unfold hullR
    simp only
    generalize leastP u r = f at *
    generalize hl : u :: r = l at *
    cases r with
    | nil =>
      -- one point
      have hn : nextP f l = f := by
        subst hl
        simp at hmem
        subst hmem
        unfold nextP
        simp only [List.foldl_cons, List.foldl_nil]
        unfold wrapStep
        rw [if_pos (.inl rfl)]
      constructor
      · intro _; exact .inl hn
      · intro _
        subst hl
        unfold wrapF
        simp only [List.length_cons, List.length_nil]
        rw [if_pos (.inl hn)]
        simp
    | cons b r =>
      have hlen : ∃ k, l.length = k + 2 := ⟨r.length, by rw [← hl]; simp⟩
      obtain ⟨k, hk⟩ := hlen
      rw [hk]
      unfold wrapF
      simp only
      by_cases c1 : nextP f l = f
      · rw [if_pos (.inl c1)]
        simp [c1]
      · rw [if_neg (by rintro (h | h) <;> exact c1 h)]
        unfold wrapF
        simp only
        by_cases c2 : nextP (nextP f l) l = f ∨ nextP (nextP f l) l = nextP f l
        · rw [if_pos c2]
          simp [c2]
        · rw [if_neg c2]
          have := wrapF_len l f k ([f] ++ [nextP f l] ++ [nextP (nextP f l) l]) (nextP (nextP f l) l)
          simp only [List.length_append, List.length_cons, List.length_nil] at this
          constructor
          · intro h; omega
          · rintro (h | h)
            · exact absurd h c1
            · exact absurd h c2
theorem hulls {l : List P2} (hd : Dist l) (ho : ∀ p ∈ l, okP p) : hullP l < 3 ↔ (hullR l).length < 3 := by
  rw [hullP_flat hd ho, hullR_flat hd ho]
end Go.Hull

/- Patches: equal points, points that are far apart. No program in this text. -/
namespace Go.Hull
set_option maxRecDepth 100000

def far (p q : P2) : Bool := decide (p.x - q.x > 20000) || decide (p.y - q.y > 20000)
def apartB (l : List P2) : Bool := l.any fun p => l.any fun q => far p q
def absI (n : Int) : Int := if n < 0 then -n else n
def farA (p q : P2) : Bool := decide (absI (p.x - q.x) > 20000) || decide (absI (p.y - q.y) > 20000)
def closeR (l : List P2) : Bool := (List.range l.length).all fun i => (List.range i).all fun k => !farA (l.getD i default) (l.getD k default)
def dupR (l : List P2) : Bool := (List.range l.length).any fun i => (List.range i).any fun k => l.getD i default == l.getD k default
def dupP (l : List P2) : Bool := (List.range l.length).any fun i => (l.take i).any fun q => q == l.getD i default
theorem getD_at {l : List P2} {i : Nat} (h : i < l.length) : l.getD i default = l[i] := by
  rw [List.getD_eq_getElem?_getD, List.getElem?_eq_getElem h]; rfl
theorem farA_eq (p q : P2) : farA p q = (far p q || far q p) := by
  rw [Bool.eq_iff_iff]
  unfold farA far absI
  simp only [Bool.or_eq_true, decide_eq_true_eq]
  split <;> split <;> omega
theorem far_self (p : P2) : far p p = false := by unfold far; simp
theorem close_eq (l : List P2) : closeR l = !apartB l := by
  rw [Bool.eq_iff_iff]
  unfold closeR apartB
  simp only [List.all_eq_true, List.mem_range, Bool.not_eq_true', List.any_eq_false, Bool.not_eq_true]
  constructor
  · intro h p hp q hq
    obtain ⟨i, hi, rfl⟩ := List.getElem_of_mem hp
    obtain ⟨k, hk, rfl⟩ := List.getElem_of_mem hq
    rcases Nat.lt_trichotomy k i with hki | hki | hki
    · have := h i hi k hki
      rw [farA_eq, getD_at hi, getD_at hk, Bool.or_eq_false_iff] at this
      exact this.1
    · subst hki; exact far_self _
    · have := h k hk i hki
      rw [farA_eq, getD_at hi, getD_at hk, Bool.or_eq_false_iff] at this
      exact this.2
  · intro h i hi k hk
    have hk' : k < l.length := by omega
    rw [farA_eq, getD_at hi, getD_at hk', Bool.or_eq_false_iff]
    exact ⟨h _ (List.getElem_mem hi) _ (List.getElem_mem hk'), h _ (List.getElem_mem hk') _ (List.getElem_mem hi)⟩
theorem dup_eq (l : List P2) : dupP l = dupR l := by
  rw [Bool.eq_iff_iff]
  unfold dupP dupR
  simp only [List.any_eq_true, List.mem_range, beq_iff_eq]
  constructor
  · rintro ⟨i, hi, q, hq, e⟩
    obtain ⟨k, hk, rfl⟩ := List.getElem_of_mem hq
    have hk : k < i ∧ k < l.length := by
      have : k < min i l.length := by simpa using hk
      omega
    refine ⟨i, hi, k, hk.1, ?_⟩
    rw [← e, getD_at hk.2]; simp
  · rintro ⟨i, hi, k, hk, e⟩
    have hk' : k < l.length := by omega
    refine ⟨i, hi, l[k], ?_, by rw [e, getD_at hk']⟩
    rw [List.mem_take_iff_getElem]
    exact ⟨k, by omega, rfl⟩
theorem dist_of {l : List P2} (h : dupR l = false) : Dist l := by
  unfold dupR at h
  have key : ∀ i, i < l.length → ∀ k, k < i → l.getD i default ≠ l.getD k default := by
    intro i hi k hk e
    rw [List.any_eq_false] at h
    have h1 := h i (List.mem_range.2 hi)
    rw [Bool.not_eq_true, List.any_eq_false] at h1
    have h2 := h1 k (List.mem_range.2 hk)
    rw [e] at h2
    simp at h2
  intro i j hi hj hij e
  rcases Nat.lt_or_gt_of_ne hij with h' | h'
  · exact key j hj i h' e.symm
  · exact key i hi j h' e
theorem near_of {l : List P2} (h : apartB l = false) {p q : P2} (hp : p ∈ l) (hq : q ∈ l) : -20000 ≤ p.x - q.x ∧ p.x - q.x ≤ 20000 ∧ -20000 ≤ p.y - q.y ∧ p.y - q.y ≤ 20000 := by
  unfold apartB at h
  simp only [List.any_eq_false, Bool.not_eq_true] at h
  have h1 := h p hp q hq
  have h2 := h q hq p hp
  unfold far at h1 h2
  simp only [Bool.or_eq_false_iff, decide_eq_false_iff_not] at h1 h2
  omega
end Go.Hull

/- Triangulations of unit grids, moved and stretched. No program in this text. -/
namespace Go.Hull
set_option maxRecDepth 1000000

def aff (x0 y0 s : Int) (p : P2) : P2 := ⟨x0 + s * p.x, y0 + s * p.y⟩
theorem crs_aff (x0 y0 s : Int) (a b c : P2) : crs (aff x0 y0 s a) (aff x0 y0 s b) (aff x0 y0 s c) = s * s * crs a b c := by
  unfold crs aff; grind
theorem sqr_aff (x0 y0 s : Int) (a b : P2) : sqr (aff x0 y0 s a) (aff x0 y0 s b) = s * s * sqr a b := by
  unfold sqr aff; grind
theorem det3_aff (x0 y0 s : Int) (a b c d : P2) : det3 (aff x0 y0 s a) (aff x0 y0 s b) (aff x0 y0 s c) (aff x0 y0 s d) = s * s * (s * s) * det3 a b c d := by
  unfold det3
  rw [crs_aff, crs_aff, crs_aff, sqr_aff, sqr_aff, sqr_aff]
  grind
theorem lt_aff {x s a b : Int} (hs : 0 < s) : x + s * a < x + s * b ↔ a < b := by
  constructor
  · intro h
    exact Int.lt_of_mul_lt_mul_left (show s * a < s * b by omega) (by omega)
  · intro h
    have := Int.mul_lt_mul_of_pos_left h hs
    omega
theorem eq_aff {x s a b : Int} (hs : 0 < s) : x + s * a = x + s * b ↔ a = b := by
  constructor
  · intro h
    exact Int.eq_of_mul_eq_mul_left (show s ≠ 0 by omega) (show s * a = s * b by omega)
  · intro h; rw [h]
theorem bef_aff {x0 y0 s : Int} (hs : 0 < s) (p q : P2) : bef (aff x0 y0 s p) (aff x0 y0 s q) = bef p q := by
  unfold bef aff
  simp only
  rw [Bool.eq_iff_iff]
  simp only [Bool.or_eq_true, Bool.and_eq_true, decide_eq_true_eq, beq_iff_eq]
  rw [lt_aff hs, lt_aff hs, eq_aff hs]
theorem pos_mul {k n : Int} (hk : 0 < k) : k * n > 0 ↔ n > 0 := by
  constructor
  · intro h
    exact Int.pos_of_mul_pos_right h (by omega)
  · intro h; exact Int.mul_pos hk h
theorem zero_mul {k n : Int} (hk : 0 < k) : k * n = 0 ↔ n = 0 := by
  rw [Int.mul_eq_zero]; omega
theorem okRef_aff {x0 y0 s : Int} (hs : 0 < s) (f a b p : P2) : okRef (aff x0 y0 s f) (aff x0 y0 s a) (aff x0 y0 s b) (aff x0 y0 s p) = okRef f a b p := by
  have h2 : 0 < s * s := Int.mul_pos hs hs
  have h4 : 0 < s * s * (s * s) := Int.mul_pos h2 h2
  unfold okRef
  rw [det3_aff, crs_aff, bef_aff hs]
  have e1 : decide (s * s * (s * s) * det3 f a b p > 0) = decide (det3 f a b p > 0) := by
    rw [Bool.eq_iff_iff, decide_eq_true_eq, decide_eq_true_eq]; exact pos_mul h4
  have e2 : (s * s * (s * s) * det3 f a b p == 0) = (det3 f a b p == 0) := by
    rw [Bool.eq_iff_iff, beq_iff_eq, beq_iff_eq]; exact zero_mul h4
  have e3 : decide (s * s * crs a b p > 0) = decide (crs a b p > 0) := by
    rw [Bool.eq_iff_iff, decide_eq_true_eq, decide_eq_true_eq]; exact pos_mul h2
  rw [e1, e2, e3]
theorem rotR_aff {x0 y0 s : Int} (hs : 0 < s) (p q r : P2) : rotR (aff x0 y0 s p) (aff x0 y0 s q) (aff x0 y0 s r) = (aff x0 y0 s (rotR p q r).1, aff x0 y0 s (rotR p q r).2.1, aff x0 y0 s (rotR p q r).2.2) := by
  unfold rotR
  simp only [bef_aff hs]
  split <;> split <;> rfl
theorem getD_map {f : P2 → P2} {l : List P2} {i : Nat} (h : i < l.length) : (l.map f).getD i default = f (l.getD i default) := by
  rw [List.getD_eq_getElem?_getD, List.getD_eq_getElem?_getD, List.getElem?_map, List.getElem?_eq_getElem h]; rfl
theorem all_ext {α : Type} {f g : α → Bool} : ∀ {l : List α}, (∀ a ∈ l, f a = g a) → l.all f = l.all g
  | [], _ => rfl
  | a :: r, h => by rw [List.all_cons, List.all_cons, h a (by simp), all_ext (l := r) fun b hb => h b (by simp [hb])]
theorem belR_aff {x0 y0 s : Int} (hs : 0 < s) {l : List P2} {t : Tri} (hA : t.A < l.length) (hB : t.B < l.length) (hC : t.C < l.length) : belR (l.map (aff x0 y0 s)) t = belR l t := by
  unfold belR
  simp only [List.length_map]
  rw [getD_map hA, getD_map hB, getD_map hC, rotR_aff hs]
  refine all_ext fun i hi => ?_
  rw [List.mem_range] at hi
  rw [getD_map hi, okRef_aff hs]
theorem refC_aff {x0 y0 s : Int} (hs : 0 < s) {l : List P2} {a b c : Nat} (hA : a < l.length) (hB : b < l.length) (hC : c < l.length) : refC (l.map (aff x0 y0 s)) a b c = refC l a b c := by
  unfold refC
  rw [belR_aff hs (t := ⟨a, b, c⟩) hA hB hC, getD_map hA, getD_map hB, getD_map hC, crs_aff]
  have h2 : 0 < s * s := Int.mul_pos hs hs
  have e : (0 < s * s * crs (l.getD a default) (l.getD b default) (l.getD c default)) ↔ 0 < crs (l.getD a default) (l.getD b default) (l.getD c default) := pos_mul h2
  simp only [e]
theorem flatMap_ext {α β : Type} {f g : α → List β} : ∀ {l : List α}, (∀ a ∈ l, f a = g a) → l.flatMap f = l.flatMap g
  | [], _ => rfl
  | a :: r, h => by rw [List.flatMap_cons, List.flatMap_cons, h a (by simp), flatMap_ext (l := r) fun b hb => h b (by simp [hb])]
theorem filterMap_ext {α β : Type} {f g : α → Option β} : ∀ {l : List α}, (∀ a ∈ l, f a = g a) → l.filterMap f = l.filterMap g
  | [], _ => rfl
  | a :: r, h => by
    have ih := filterMap_ext (l := r) fun b hb => h b (by simp [hb])
    rw [List.filterMap_cons, List.filterMap_cons, h a (by simp), ih]
theorem triR_aff {x0 y0 s : Int} (hs : 0 < s) (l : List P2) : triR (l.map (aff x0 y0 s)) = triR l := by
  unfold triR rA
  rw [List.length_map]
  refine flatMap_ext fun a ha => ?_
  rw [List.mem_range] at ha
  unfold rB
  rw [List.length_map]
  refine flatMap_ext fun j hj => ?_
  rw [List.mem_range] at hj
  unfold rC
  refine filterMap_ext fun k hk => ?_
  rw [List.mem_range] at hk
  exact refC_aff hs ha (by omega) (by omega)

/-- The unit grid. -/
def unitG (c r : Nat) : List P2 := (List.range (c * r)).map fun i => ⟨((i % c : Nat) : Int), ((i / c : Nat) : Int)⟩
def sumI {α : Type} (f : α → Int) : List α → Int
  | [] => 0
  | a :: r => f a + sumI f r
def dT (l : List P2) (t : Tri) : Int := crs (l.getD t.A default) (l.getD t.B default) (l.getD t.C default)
def xT (l : List P2) (t : Tri) : Int := (l.getD t.A default).x + (l.getD t.B default).x + (l.getD t.C default).x
def yT (l : List P2) (t : Tri) : Int := (l.getD t.A default).y + (l.getD t.B default).y + (l.getD t.C default).y
def cellB (c r k : Nat) : Bool := decide (k % c + 1 < c) && decide (k / c + 1 < r)
def cellW (c r : Nat) (f : Nat → Int) : Int := sumI (fun k => bif cellB c r k then f k else 0) (List.range (c * r))
def chk (c r : Nat) : Bool :=
  let u := unitG c r
  let T := triR u
  (sumI (dT u) T == 2 * cellW c r (fun _ => 1)) && (sumI (fun t => dT u t * xT u t) T == 3 * cellW c r (fun k => 2 * (k % c : Nat) + 1)) && (sumI (fun t => dT u t * yT u t) T == 3 * cellW c r (fun k => 2 * (k / c : Nat) + 1)) &&
    decide (T.length ≤ 64) && ((List.range (c * r)).all fun i => T.any fun t => t.A == i || t.B == i || t.C == i)
theorem chk_all : ∀ c, c < 9 → ∀ r, r < 9 → 2 ≤ c → 2 ≤ r → c * r ≤ 16 → chk c r = true := by decide +kernel
end Go.Hull

namespace Go.Ch
open Go Go.Ax Go.Proofs Go.Proofs.Try

set_option maxRecDepth 100000
set_option pp.maxSteps 400

theorem Within (n lo hi : Int) : CallP Try.prog 6 [vI n, vI lo, vI hi] (vB (within n lo hi)) := by
  refine callP_of_ex (rc := []) (N := 15) Try.func6 rfl rfl Try.call6 tab_ok mix rfl rfl (fun cx _ => ?_)
  exact ⟨fun h => h, fun h => h, fun h => h, trivial, SubR.refl _⟩
theorem gcross (a b c : Pt) : CallP Try.prog 44 [pt a, pt b, pt c] (vI (cross a b c)) := by
  refine callP_of_ex (rc := []) (N := 30) Try.func44 rfl rfl Try.call44 tab_ok mix rfl rfl (fun cx _ => ?_)
  exact SubR.refl _
theorem isNaN (n : Int) : CallP Try.prog 88 [vI n] (vB false) := by
  refine callP_of_ex (rc := []) (N := 6) Try.func88 rfl rfl Try.call88 tab_ok mix rfl rfl (fun cx _ => ?_)
  exact SubR.of_eq (by show vB (n != n) = vB false; simp)
theorem Compare (n m : Int) : CallP Try.prog 69 [vI n, vI m] (vI (sgn (n - m))) := by
  refine callP_of_ex (rc := []) (N := 20) Try.func69 rfl rfl Try.call69 tab_ok mix rfl rfl (fun cx _ => ?_)
  refine callN (isNaN n) ?_
  refine callN (isNaN m) ?_
  refine And.intro (fun h => by cases h) (fun _ => And.intro (fun h => by cases h) (fun _ => And.intro (fun h => ?_) (fun h => And.intro (fun h' => ?_) (fun h' => ?_))))
  · have := decT h
    exact SubR.of_eq (by rw [sgn, if_pos (by omega)]; rfl)
  · have := decT h'
    exact SubR.of_eq (by rw [sgn, if_neg (by omega), if_pos (by omega)]; rfl)
  · have := decF h
    have := decF h'
    exact SubR.of_eq (by rw [sgn, if_neg (by omega), if_neg (by omega)]; rfl)
theorem gout1 (p : Pt) : CallP Try.prog 57 [pt p] (vB (!good p)) := by
  refine callP_of_ex (rc := []) (N := 21) Try.func57 rfl rfl Try.call57 tab_ok mix rfl rfl (fun cx _ => ?_)
  repeat first | refine sk ?_ | refine st ?_ | refine sg ?_
  refine SubR.of_eq ?_
  show vB _ = vB _
  refine congrArg vB ?_
  rw [Bool.eq_iff_iff]
  simp [good, within]
  omega
theorem Abs (n : Int) : CallP Try.prog 17 [vI n] (vI (if n < 0 then w64 (0 - n) else n)) := by
  refine callP_of_ex (rc := []) (N := 8) Try.func17 rfl rfl Try.call17 tab_ok mix rfl rfl (fun cx _ => ?_)
  refine And.intro (fun h => ?_) (fun h => ?_)
  · exact SubR.of_eq (by rw [if_pos (decT h)]; rfl)
  · exact SubR.of_eq (by rw [if_neg (decF h)]; rfl)
end Go.Ch

namespace Go.Ch
open Go Go.Ax Go.Proofs Go.Proofs.Try
set_option maxRecDepth 100000
set_option pp.maxSteps 400

/-- The level of a part: the number, and whether there is one. -/
def lvl (off half bottom run : Int) : Int × Bool :=
  bif decide (off ≤ half) then (bottom, true) else bif run == 0 then (0, false) else (w64 (bottom + w64 (Int.tdiv (w64 (off - half)) run)), decide (w64 (bottom + w64 (Int.tdiv (w64 (off - half)) run)) ≤ 20000))
abbrev part (off half bottom run : Int) : AV := .g [.d (dI off), .d (dI half), .d (dI bottom), .d (dI run)]
abbrev rIB (r : Int × Bool) : AV := .t [.s (.d (.val (.int .i64 r.1))), .s (.d (.val (.bool r.2)))]
theorem SubR.ib {n m : Int} {b c : Bool} (h : n = m) (k : b = c) : SubR (.t [.s (.d (.val (.int .i64 n))), .s (.d (.lit b))]) (.t [.s (.d (.val (.int .i64 m))), .s (.d (.val (.bool c)))]) := by
  subst h; subst k; exact SubR.t ⟨LeD.refl _, fun _ _ r => r, trivial⟩
def cornerG (g : Grid) (i : Int) : Pt := ⟨w64 (g.x + w64 (i.tmod g.cols * g.side)), w64 (g.y + w64 (w64 (i.tdiv g.cols) * g.side))⟩
def centreG (g : Grid) (i : Int) : Pt := ⟨w64 ((cornerG g i).x + w64 (g.side.tdiv 2)), w64 ((cornerG g i).y + w64 (g.side.tdiv 2))⟩
theorem bcorner (g : Grid) (i : Int) (h : g.cols ≠ 0) : CallP Try.prog 38 [grid g, vI i] (pt (cornerG g i)) := by
  refine callP_of_ex (rc := []) (N := 26) Try.func38 rfl rfl Try.call38 tab_ok mix rfl rfl (fun cx _ => ?_)
  refine oi h ?_
  refine oi h ?_
  refine And.intro (by kernel_rfl) ?_
  refine SubR.of_eq ?_
  rfl
theorem bcentre (g : Grid) (i : Int) (h : g.cols ≠ 0) : CallP Try.prog 20 [grid g, vI i] (pt (centreG g i)) := by
  refine callP_of_ex (rc := []) (N := 22) Try.func20 rfl rfl Try.call20 tab_ok mix rfl rfl (fun cx _ => ?_)
  refine callN (bcorner g i h) ?_
  refine oi (by decide) ?_
  refine oi (by decide) ?_
  refine SubR.of_eq ?_
  rfl
theorem Centre (g : Grid) (i : Int) (h : g.cols ≠ 0) : CallP Try.prog 13 [grid g, vI i] (pt (centreG g i)) := by
  refine callP_of_ex (rc := []) (N := 34) Try.func13 rfl rfl Try.call13 tab_ok mix rfl rfl (fun cx _ => ?_)
  refine oi h ?_
  refine oi (by decide) ?_
  refine oi h ?_
  refine oi (by decide) ?_
  refine And.intro (by kernel_rfl) ?_
  refine SubR.of_eq ?_
  rfl
def alike (a b : Grid) : Bool := a.x == b.x && a.y == b.y && a.side == b.side && a.cols == b.cols && a.rows == b.rows
end Go.Ch

namespace Go.Ch
open Go Go.Ax Go.Proofs Go.Proofs.Try
set_option maxRecDepth 100000
set_option pp.maxSteps 400
def idxF {α : Type} (p : α → Bool) : List α → Nat → Int
  | [], _ => -1
  | x :: r, k => bif p x then k else idxF p r (k + 1)
theorem idxF_any {α : Type} (p : α → Bool) : ∀ (l : List α) (k : Nat), decide (idxF p l k ≥ 0) = l.any p
  | [], _ => rfl
  | x :: r, k => by
    rw [idxF, List.any_cons]
    cases h : p x with
    | true => simp
    | false => simpa using idxF_any p r (k + 1)
theorem indexFuncI (l : List Int) (hl : l.length ≤ 9223372036854775807) (f k : Nat) (c : Nat → DV) (p : Int → Bool) (hp : ∀ x ∈ l, CallP Try.prog f (vI x :: capD c k 0) (vB (p x))) :
    CallP Try.prog 47 [vInts l, .s (.d (.clo f k c))] (vI (idxF p l 0)) := by
  refine callP_of_ex (rc := []) (N := 19) Try.func47 rfl rfl Try.call47 tab_ok mix rfl rfl (fun cx href => ?_)
  refine AW.loop (fun i : Nat => ⟨[(0, vInts l), (1, .s (.d (.clo f k c))), (7, vI l.length), (8, vI i), (4, vI 0)], []⟩) (fun i => i ≤ l.length ∧ idxF p l 0 = idxF p (l.drop i) i) (fun i => l.length - i) 0 ⟨Nat.zero_le _, rfl⟩ ?_ ?_
  · refine Sub.of0 href trivial ⟨⟨rfl, rfl⟩, ⟨rfl, rfl⟩, ⟨rfl, rfl⟩, ⟨rfl, rfl⟩, ⟨rfl, rfl⟩, trivial⟩
  · rintro i ⟨hi, he⟩
    refine ex.sound (rc := []) tab_ok mix href _ ?_
    refine And.intro (fun h => ?_) (fun h => ?_)
    · have h : (i : Int) < l.length := decT h
      have hi' : i < l.length := by omega
      have hd : l.drop i = l[i] :: l.drop (i + 1) := List.drop_eq_getElem_cons hi'
      have hg : l.getD i default = l[i] := getD_of hi'
      refine oi ⟨by omega, by omega⟩ ?_
      refine callN ((hp (l.getD i default) (by rw [hg]; simp)).conv (args' := _) ⟨LeD.refl _, LeAs.capD⟩) ?_
      rw [hd, idxF] at he
      rw [hg]
      refine And.intro (fun h => ?_) (fun h => ?_)
      · refine SubR.of_eq ?_
        rw [he, h]; rfl
      · refine ⟨i + 1, ⟨by omega, ?_⟩, by omega, ?_⟩
        · rw [he, h]; rfl
        · refine Sub.of0 href trivial ⟨⟨rfl, rfl⟩, ⟨rfl, rfl⟩, ⟨rfl, rfl⟩, ⟨rfl, ?_⟩, ⟨rfl, rfl⟩, trivial⟩
          exact congrArg vI (w64_of (by omega) (by omega))
    · have h : ¬ (i : Int) < l.length := decF h
      have hi' : i = l.length := by omega
      subst hi'
      refine SubR.of_eq ?_
      rw [he, List.drop_length]; rfl
theorem containsI (l : List Int) (hl : l.length ≤ 9223372036854775807) (f k : Nat) (c : Nat → DV) (p : Int → Bool) (hp : ∀ x ∈ l, CallP Try.prog f (vI x :: capD c k 0) (vB (p x))) :
    CallP Try.prog 36 [vInts l, .s (.d (.clo f k c))] (vB (l.any p)) := by
  refine callP_of_ex (rc := []) (N := 9) Try.func36 rfl rfl Try.call36 tab_ok mix rfl rfl (fun cx href => ?_)
  refine callN (indexFuncI l hl f k c p hp) ?_
  exact SubR.of_eq (congrArg vB (idxF_any p l 0))
theorem indexFuncP (l : List Pt) (hl : l.length ≤ 9223372036854775807) (f k : Nat) (c : Nat → DV) (p : Pt → Bool) (hp : ∀ x ∈ l, CallP Try.prog f (pt x :: capD c k 0) (vB (p x))) :
    CallP Try.prog 67 [pts l, .s (.d (.clo f k c))] (vI (idxF p l 0)) := by
  refine callP_of_ex (rc := []) (N := 19) Try.func67 rfl rfl Try.call67 tab_ok mix rfl rfl (fun cx href => ?_)
  refine AW.loop (fun i : Nat => ⟨[(0, pts l), (1, .s (.d (.clo f k c))), (7, vI l.length), (8, vI i), (4, vI 0)], []⟩) (fun i => i ≤ l.length ∧ idxF p l 0 = idxF p (l.drop i) i) (fun i => l.length - i) 0 ⟨Nat.zero_le _, rfl⟩ ?_ ?_
  · refine Sub.of0 href trivial ⟨⟨rfl, rfl⟩, ⟨rfl, rfl⟩, ⟨rfl, rfl⟩, ⟨rfl, rfl⟩, ⟨rfl, rfl⟩, trivial⟩
  · rintro i ⟨hi, he⟩
    refine ex.sound (rc := []) tab_ok mix href _ ?_
    refine And.intro (fun h => ?_) (fun h => ?_)
    · have h : (i : Int) < l.length := decT h
      have hi' : i < l.length := by omega
      have hd : l.drop i = l[i] :: l.drop (i + 1) := List.drop_eq_getElem_cons hi'
      have hg : l.getD i default = l[i] := getD_of hi'
      refine oi ⟨by omega, by omega⟩ ?_
      refine callN ((hp (l.getD i default) (by rw [hg]; simp)).conv (args' := _) ⟨⟨LeD.refl _, LeD.refl _, trivial⟩, LeAs.capD⟩) ?_
      rw [hd, idxF] at he
      rw [hg]
      refine And.intro (fun h => ?_) (fun h => ?_)
      · refine SubR.of_eq ?_
        rw [he, h]; rfl
      · refine ⟨i + 1, ⟨by omega, ?_⟩, by omega, ?_⟩
        · rw [he, h]; rfl
        · refine Sub.of0 href trivial ⟨⟨rfl, rfl⟩, ⟨rfl, rfl⟩, ⟨rfl, rfl⟩, ⟨rfl, ?_⟩, ⟨rfl, rfl⟩, trivial⟩
          exact congrArg vI (w64_of (by omega) (by omega))
    · have h : ¬ (i : Int) < l.length := decF h
      have hi' : i = l.length := by omega
      subst hi'
      refine SubR.of_eq ?_
      rw [he, List.drop_length]; rfl
theorem containsP (l : List Pt) (hl : l.length ≤ 9223372036854775807) (f k : Nat) (c : Nat → DV) (p : Pt → Bool) (hp : ∀ x ∈ l, CallP Try.prog f (pt x :: capD c k 0) (vB (p x))) :
    CallP Try.prog 56 [pts l, .s (.d (.clo f k c))] (vB (l.any p)) := by
  refine callP_of_ex (rc := []) (N := 9) Try.func56 rfl rfl Try.call56 tab_ok mix rfl rfl (fun cx href => ?_)
  refine callN (indexFuncP l hl f k c p hp) ?_
  exact SubR.of_eq (congrArg vB (idxF_any p l 0))
end Go.Ch

namespace Go.Ch
open Go Go.Ax Go.Proofs Go.Proofs.Try
set_option maxRecDepth 100000
set_option pp.maxSteps 400

theorem bbetween1 (n lo hi : Int) (f g : Nat → DV) (hf : f 0 = dI lo) (hg : g 0 = dI hi) : CallP Try.prog 46 [vI n, .s (.d (.rp 1 f)), .s (.d (.rp 1 g))] (vB (!within n lo hi)) := by
  have h1 : LeAs [vI n, .s (.d (.rp 1 f)), .s (.d (.rp 1 g))] [vI n, .s (.d (.rp 1 fun _ => dI lo)), .s (.d (.rp 1 fun _ => dI hi))] :=
    ⟨LeD.refl _, LeD.rp fun j hj => LeD.of_eq (by rw [show j = 0 by omega]; exact hf), LeD.rp fun j hj => LeD.of_eq (by rw [show j = 0 by omega]; exact hg), trivial⟩
  refine CallP.conv ?_ h1
  refine callP_of_ex (rc := []) (N := 13) Try.func46 rfl rfl Try.call46 tab_ok mix rfl rfl (fun cx _ => ?_)
  repeat first | refine sk ?_ | refine st ?_ | refine sg ?_
  refine SubR.of_eq ?_
  show vB _ = vB _
  refine congrArg vB ?_
  rw [Bool.eq_iff_iff]
  simp [within]
def outL (lo hi : Int) (l : List Int) : Bool := l.any fun n => !within n lo hi
theorem bbetween (lo hi : Int) (l : List Int) (hl : l.length ≤ 9223372036854775807) : CallP Try.prog 35 [vI lo, vI hi, vInts l] (vB (!outL lo hi l)) := by
  refine callP_of_ex (rc := []) (N := 11) Try.func35 rfl rfl Try.call35 tab_ok mix rfl rfl (fun cx _ => ?_)
  refine callN (containsI l hl 46 2 _ (fun n => !within n lo hi) (fun x _ => bbetween1 x lo hi _ _ rfl rfl)) ?_
  exact SubR.refl _
theorem isLevel (n : Int) : CallP Try.prog 24 [vI n] (vB (within n (-20000) 20000)) := by
  refine callP_of_ex (rc := []) (N := 6) Try.func24 rfl rfl Try.call24 tab_ok mix rfl rfl (fun cx _ => ?_)
  refine callN ((bbetween (-20000) 20000 [n] (by simp)).conv (args' := _) ⟨LeD.refl _, LeD.refl _, LeD.slc fun i j hi hj => ?_, trivial⟩) ?_
  · have : i = 0 := by have : i < 1 := hi; omega
    have : j = 0 := by have : j < 1 := hj; omega
    subst i j; exact LeD.refl _
  exact SubR.of_eq (by show vB _ = vB _; simp [outL])
def badL (n : Int) : Bool := n != 30000 && !within n (-20000) 20000
theorem bcheck1 (n : Int) : CallP Try.prog 37 [vI n] (vB (badL n)) := by
  refine callP_of_ex (rc := []) (N := 10) Try.func37 rfl rfl Try.call37 tab_ok mix rfl rfl (fun cx _ => ?_)
  repeat first | refine sk ?_ | refine st ?_ | refine sg ?_
  refine callG (isLevel n) ?_
  repeat first | refine sk ?_ | refine st ?_ | refine sg ?_
  exact SubR.refl _
def e1 (g : Grid) : Bool := !(within g.x (-1000000) 1000000) || !(within g.y (-1000000) 1000000) || !(within g.side 100 10000) || !(within g.cols 1 1024) || !(within g.rows 1 1024)
def errG (g : Grid) : Int :=
  bif e1 g then 2
  else bif decide (w64 (g.cols * g.rows) > 1024) then 8
  else bif decide (w64 (g.x + w64 (g.cols * g.side)) > 1000000) || decide (w64 (g.y + w64 (g.rows * g.side)) > 1000000) then 2
  else bif (g.levels.length : Int) != w64 (g.cols * g.rows) then 10
  else bif g.levels.any badL then 2 else 0
theorem bcheck (g : Grid) (hl : g.levels.length ≤ 9223372036854775807) : CallP Try.prog 18 [grid g] (vI (errG g)) := by
  refine callP_of_ex (rc := []) (N := 69) Try.func18 rfl rfl Try.call18 tab_ok mix rfl rfl (fun cx _ => ?_)
  have two : ∀ (a b : Int) (f : Nat → Nat → DV) (h0 : f 0 0 = dI a) (h1 : f 1 0 = dI b), LeD (.slc 2 1 f) (dInts [a, b]) := by
    intro a b f h0 h1
    refine LeD.slc fun i j hi hj => ?_
    have : j = 0 := by omega
    subst j
    match i, hi with
    | 0, _ => exact LeD.of_eq h0
    | 1, _ => exact LeD.of_eq h1
  have one : ∀ (a : Int) (f : Nat → Nat → DV) (h0 : f 0 0 = dI a), LeD (.slc 1 1 f) (dInts [a]) := by
    intro a f h0
    refine LeD.slc fun i j hi hj => ?_
    have : j = 0 := by omega
    have : i = 0 := by omega
    subst i j
    exact LeD.of_eq h0
  refine callN ((bbetween (-1000000) 1000000 [g.x, g.y] (by simp)).conv (args' := _) ⟨LeD.refl _, LeD.refl _, two _ _ _ rfl rfl, trivial⟩) ?_
  repeat first | refine sk ?_ | refine st ?_ | refine sg ?_
  refine And.intro (fun h1 => ?_) (fun h1 => ?_)
  · refine ob (by rw [h1]; rfl) ?_
    refine callN ((bbetween 100 10000 [g.side] (by simp)).conv (args' := _) ⟨LeD.refl _, LeD.refl _, one _ _ rfl, trivial⟩) ?_
    repeat first | refine sk ?_ | refine st ?_ | refine sg ?_
    refine And.intro (fun h2 => ?_) (fun h2 => ?_)
    · skip
      refine ob (by rw [h2]; rfl) ?_
      refine ob (by rw [h2]; rfl) ?_
      refine callN ((bbetween 1 1024 [g.cols, g.rows] (by simp)).conv (args' := _) ⟨LeD.refl _, LeD.refl _, two _ _ _ rfl rfl, trivial⟩) ?_
      refine And.intro (fun h3 => ?_) (fun h3 => ?_)
      · exact SubR.of_eq (by rw [errG, show e1 g = true by simp [outL] at h1 h2 h3; simp [e1, h1, h2, h3]]; rfl)
      have he : e1 g = false := by simp [outL] at h1 h2 h3; simp [e1, h1, h2, h3]
      refine And.intro (fun h4 => ?_) (fun h4 => ?_)
      · exact SubR.of_eq (by rw [errG, he, h4]; rfl)
      repeat first | refine sk ?_ | refine st ?_ | refine sg ?_
      refine And.intro (fun h5 => ?_) (fun h5 => ?_)
      · exact SubR.of_eq (by rw [errG, he, h4, h5]; rfl)
      refine And.intro (fun h6 => ?_) (fun h6 => ?_)
      · exact SubR.of_eq (by rw [errG, he, h4, h5, h6]; rfl)
      refine callN ((containsI g.levels hl 37 0 (fun _ => .junk) badL (fun x _ => bcheck1 x)).conv (args' := _) ⟨LeD.refl _, LeD.clo fun j hj => absurd hj (Nat.not_lt_zero j), trivial⟩) ?_
      refine And.intro (fun h7 => ?_) (fun h7 => ?_)
      · exact SubR.of_eq (by rw [errG, he, h4, h5, h6, h7]; rfl)
      · exact SubR.of_eq (by rw [errG, he, h4, h5, h6, h7]; rfl)
    · exact SubR.of_eq (by rw [errG, show e1 g = true by simp [outL] at h1 h2; simp [e1, h1, h2]]; rfl)
  · exact SubR.of_eq (by rw [errG, show e1 g = true by simp [outL] at h1; simp [e1, h1]]; rfl)
theorem Leveled (n : Int) : CallP Try.prog 7 [vI n] (vB (within n (-20000) 20000)) := by
  refine callP_of_ex (rc := []) (N := 5) Try.func7 rfl rfl Try.call7 tab_ok mix rfl rfl (fun cx _ => ?_)
  refine callN (Within _ _ _) ?_
  exact SubR.refl _
theorem RCheck (g : Grid) (hl : g.levels.length ≤ 9223372036854775807) : CallP Try.prog 8 [grid g] (vI (errG g)) := by
  refine callP_of_ex (rc := []) (N := 89) Try.func8 rfl rfl Try.call8 tab_ok mix rfl rfl (fun cx _ => ?_)
  refine callN (Within _ _ _) ?_
  repeat first | refine sk ?_ | refine st ?_ | refine sg ?_
  refine callG (Within _ _ _) ?_
  repeat first | refine sk ?_ | refine st ?_ | refine sg ?_
  refine callG (Within _ _ _) ?_
  repeat first | refine sk ?_ | refine st ?_ | refine sg ?_
  refine callG (Within _ _ _) ?_
  repeat first | refine sk ?_ | refine st ?_ | refine sg ?_
  refine callG (Within _ _ _) ?_
  repeat first | refine sk ?_ | refine st ?_ | refine sg ?_
  refine And.intro (fun h => ?_) (fun h => ?_)
  · exact SubR.of_eq (by rw [errG, e1, h]; rfl)
  refine And.intro (fun h2 => ?_) (fun h2 => ?_)
  · exact SubR.of_eq (by rw [errG, e1, h, h2]; rfl)
  repeat first | refine sk ?_ | refine st ?_ | refine sg ?_
  refine And.intro (fun h3 => ?_) (fun h3 => ?_)
  · exact SubR.of_eq (by rw [errG, e1, h, h2, h3]; rfl)
  refine And.intro (fun h4 => ?_) (fun h4 => ?_)
  · exact SubR.of_eq (by rw [errG, e1, h, h2, h3, h4]; rfl)
  refine AW.loop (fun i : Nat => ⟨[(1, .s (.ptr 1 0)), (3, vI i)], [(1, some (.cells [.d (dI g.x), .d (dI g.y), .d (dI g.side), .d (dI g.cols), .d (dI g.rows), .d (dInts g.levels)]))]⟩) (fun i => i ≤ g.levels.length ∧ g.levels.any badL = (g.levels.drop i).any badL) (fun i => g.levels.length - i) 0 ⟨Nat.zero_le _, rfl⟩ ?_ ?_
  · refine Sub.of0 (by assumption) ⟨⟨rfl, rfl⟩, trivial⟩ ⟨⟨rfl, rfl⟩, ⟨rfl, rfl⟩, trivial⟩
  · rintro i ⟨hi, hj⟩
    refine ex.sound (rc := []) tab_ok mix (by assumption) _ ?_
    refine And.intro (fun h5 => ?_) (fun h5 => ?_)
    · have h5 : (i : Int) < g.levels.length := decT h5
      have hi' : i < g.levels.length := by omega
      have hd : g.levels.drop i = g.levels[i] :: g.levels.drop (i + 1) := List.drop_eq_getElem_cons hi'
      have hg : g.levels.getD i 0 = g.levels[i] := getD_of hi'
      refine oi ⟨by omega, by omega⟩ ?_
      repeat first | refine sk ?_ | refine st ?_ | refine sg ?_
      refine oi ?_ ?_
      · exact fun _ => ⟨by omega, by omega⟩
      repeat first | refine sk ?_ | refine st ?_ | refine sg ?_
      refine callG (Leveled _) ?_
      repeat first | refine sk ?_ | refine st ?_ | refine sg ?_
      rw [hd, List.any_cons] at hj
      refine And.intro (fun h6 => ?_) (fun h6 => ?_)
      · have h6 : badL g.levels[i] = true := hg ▸ h6
        refine SubR.of_eq ?_
        rw [errG, e1, h, h2, h3, h4, hj, h6]; rfl
      · have h6 : badL g.levels[i] = false := hg ▸ h6
        refine ⟨i + 1, ⟨by omega, by rw [hj, h6]; rfl⟩, by omega, ?_⟩
        refine Sub.of0 (by assumption) ⟨⟨rfl, rfl⟩, trivial⟩ ⟨⟨rfl, rfl⟩, ⟨rfl, ?_⟩, trivial⟩
        exact congrArg vI (w64_of (by omega) (by omega))
    · have h5 : ¬ (i : Int) < g.levels.length := decF h5
      have hi' : i = g.levels.length := by omega
      refine SubR.of_eq ?_
      rw [errG, e1, h, h2, h3, h4, hj, hi', List.drop_length]; rfl
end Go.Ch

namespace Go.Ch
open Go Go.Ax Go.Proofs Go.Proofs.Try
set_option maxRecDepth 100000
set_option pp.maxSteps 400

theorem errG_cols {g : Grid} (h : errG g = 0) : 1 ≤ g.cols ∧ g.cols ≤ 1024 := by
  cases he : e1 g with
  | true => rw [errG, he] at h; cases h
  | false =>
    simp [e1, within] at he
    omega
def few (g : Grid) : Bool := (decide ((g.levels.length : Int) ≤ 40) && ((decide (g.cols ≤ 40) && decide (g.rows ≤ 40)) || (g.levels.length : Int) != w64 (g.cols * g.rows))) || (decide ((g.levels.length : Int) ≤ 1100) && errG g != 0)
end Go.Ch

namespace Go.Ch
open Go Go.Ax Go.Proofs Go.Proofs.Try
set_option maxRecDepth 100000
set_option pp.maxSteps 400

def u8 (s : ByteArray) (i : Nat) : Int := (s[i]!.toNat : Int)
def letter (c : Int) : Bool := (decide (c ≥ 97) && decide (c ≤ 122)) || (decide (c ≥ 65) && decide (c ≤ 90))
def badC (i : Int) (c : Int) : Bool := !letter c && (i == 0 || !((decide (c ≥ 48) && decide (c ≤ 57)) || c == 45))
theorem badC_eq (i c : Int) : (!letter c && (i == 0 || (c != 45 && (decide (c < 48) || decide (c > 57))))) = badC i c := by
  rw [badC, Bool.eq_iff_iff]
  simp
  intro _
  omega
def badFrom (s : ByteArray) : Nat → Nat → Bool
  | 0, _ => false
  | n + 1, i => badC i (u8 s i) || badFrom s n (i + 1)
def isName (s : ByteArray) : Bool := !(decide ((s.size : Int) < 1) || decide ((s.size : Int) > 12)) && !badFrom s s.size 0
theorem isName' (s : ByteArray) : isName s = (!(s.toList == (ByteArray.mk #[]).toList || decide ((s.size : Int) > 12)) && !badFrom s s.size 0) := by
  have : decide ((s.size : Int) < 1) = (s.toList == (ByteArray.mk #[]).toList) := by
    rw [Bool.eq_iff_iff]
    rw [show ((s.toList == (ByteArray.mk #[]).toList) = true) = (s.data.toList = []) by rw [ByteArray.toList_eq, ByteArray.toList_eq]; simp]
    have h1 : s.size = s.data.toList.length := by show s.data.size = _; simp
    rw [← List.length_eq_zero_iff, ← h1]
    rw [decide_eq_true_iff]
    omega
  rw [isName, this]
end Go.Ch

namespace Go.Ch
open Go Go.Ax Go.Proofs Go.Proofs.Try
set_option maxRecDepth 100000
set_option pp.maxSteps 400

def halve (s : Int) : Nat → Int → Int → Int
  | 0, lo, _ => lo
  | k + 1, lo, hi => bif decide (lo < hi) then (bif decide (((lo + hi) / 2) * ((lo + hi) / 2) ≥ s) then halve s k lo ((lo + hi) / 2) else halve s k ((lo + hi) / 2 + 1) hi) else lo
def span (a b : Pt) : Int := halve (dot a b b) 23 0 4000000

theorem goutside (l : List Pt) (hl : l.length ≤ 9223372036854775807) : CallP Try.prog 43 [pts l] (vB (l.any fun p => !good p)) := by
  refine callP_of_ex (rc := []) (N := 5) Try.func43 rfl rfl Try.call43 tab_ok mix rfl rfl (fun cx _ => ?_)
  refine callN ((containsP l hl 57 0 (fun _ => .junk) (fun p => !good p) (fun x _ => gout1 x)).conv (args' := _) ⟨LeD.refl _, LeD.clo fun j hj => absurd hj (Nat.not_lt_zero j), trivial⟩) ?_
  exact SubR.refl _
end Go.Ch

namespace Go.Ch
open Go Go.Ax Go.Proofs Go.Proofs.Try Go.RowKit
set_option maxRecDepth 100000

end Go.Ch

namespace Go.Ch
open Go Go.Ax Go.Proofs Go.Proofs.Try
set_option maxRecDepth 100000
set_option pp.maxSteps 400

theorem good_iff {p : Pt} : good p = true ↔ (-1000000 ≤ p.x ∧ p.x ≤ 1000000) ∧ (-1000000 ≤ p.y ∧ p.y ≤ 1000000) := by
  simp [good, within]
theorem mul_le_of {a b A B : Int} (ha : -A ≤ a) (ha' : a ≤ A) (hb : -B ≤ b) (hb' : b ≤ B) : -(A * B) ≤ a * b ∧ a * b ≤ A * B := by
  have hA : 0 ≤ A := by omega
  have hB : 0 ≤ B := by omega
  have h1 : 0 ≤ (A - a) * (B - b) := Int.mul_nonneg (by omega) (by omega)
  have h2 : 0 ≤ (A + a) * (B + b) := Int.mul_nonneg (by omega) (by omega)
  have h3 : 0 ≤ (A - a) * (B + b) := Int.mul_nonneg (by omega) (by omega)
  have h4 : 0 ≤ (A + a) * (B - b) := Int.mul_nonneg (by omega) (by omega)
  simp only [Int.mul_add, Int.mul_sub, Int.add_mul, Int.sub_mul] at h1 h2 h3 h4
  omega
/-- The exact dot product. -/
def dotE (a b c : Pt) : Int := (b.x - a.x) * (c.x - a.x) + (b.y - a.y) * (c.y - a.y)
def crossE (a b c : Pt) : Int := (b.x - a.x) * (c.y - a.y) - (b.y - a.y) * (c.x - a.x)
theorem dot_eq {a b c : Pt} (ha : good a = true) (hb : good b = true) (hc : good c = true) : dot a b c = dotE a b c ∧ -8000000000000 ≤ dotE a b c ∧ dotE a b c ≤ 8000000000000 := by
  rw [good_iff] at ha hb hc
  have h1 := mul_le_of (a := b.x - a.x) (b := c.x - a.x) (A := 2000000) (B := 2000000) (by omega) (by omega) (by omega) (by omega)
  have h2 := mul_le_of (a := b.y - a.y) (b := c.y - a.y) (A := 2000000) (B := 2000000) (by omega) (by omega) (by omega) (by omega)
  unfold dot dotE
  rw [w64_of (n := b.x - a.x) (by omega) (by omega), w64_of (n := c.x - a.x) (by omega) (by omega), w64_of (n := b.y - a.y) (by omega) (by omega), w64_of (n := c.y - a.y) (by omega) (by omega)]
  rw [w64_of (n := (b.x - a.x) * (c.x - a.x)) (by omega) (by omega), w64_of (n := (b.y - a.y) * (c.y - a.y)) (by omega) (by omega), w64_of (by omega) (by omega)]
  exact ⟨rfl, by omega, by omega⟩
theorem cross_eq {a b c : Pt} (ha : good a = true) (hb : good b = true) (hc : good c = true) : cross a b c = crossE a b c ∧ -8000000000000 ≤ crossE a b c ∧ crossE a b c ≤ 8000000000000 := by
  rw [good_iff] at ha hb hc
  have h1 := mul_le_of (a := b.x - a.x) (b := c.y - a.y) (A := 2000000) (B := 2000000) (by omega) (by omega) (by omega) (by omega)
  have h2 := mul_le_of (a := b.y - a.y) (b := c.x - a.x) (A := 2000000) (B := 2000000) (by omega) (by omega) (by omega) (by omega)
  unfold cross crossE
  rw [w64_of (n := b.x - a.x) (by omega) (by omega), w64_of (n := c.x - a.x) (by omega) (by omega), w64_of (n := b.y - a.y) (by omega) (by omega), w64_of (n := c.y - a.y) (by omega) (by omega)]
  rw [w64_of (n := (b.x - a.x) * (c.y - a.y)) (by omega) (by omega), w64_of (n := (b.y - a.y) * (c.x - a.x)) (by omega) (by omega), w64_of (by omega) (by omega)]
  exact ⟨rfl, by omega, by omega⟩
theorem mul_self_nonneg (x : Int) : 0 ≤ x * x := by
  rcases Int.le_total 0 x with h | h
  · exact Int.mul_nonneg h h
  · exact Int.mul_nonneg_of_nonpos_of_nonpos h h
theorem sq_nonneg (a b : Pt) : 0 ≤ dotE a b b := by
  have h1 := mul_self_nonneg (b.x - a.x)
  have h2 := mul_self_nonneg (b.y - a.y)
  unfold dotE; omega
theorem mul_self_pos {x : Int} (h : x ≠ 0) : 0 < x * x := by
  have h1 := mul_self_nonneg x
  have h2 : x * x ≠ 0 := fun e => by rcases Int.mul_eq_zero.1 e with h' | h' <;> exact h h'
  omega
theorem sq_pos {a b : Pt} (h : a ≠ b) : 0 < dotE a b b := by
  have h1 := mul_self_nonneg (b.x - a.x)
  have h2 := mul_self_nonneg (b.y - a.y)
  by_cases hx : b.x - a.x = 0
  · by_cases hy : b.y - a.y = 0
    · exact absurd (by cases a; cases b; simp at hx hy ⊢; omega) h
    · have := mul_self_pos hy
      unfold dotE; omega
  · have := mul_self_pos hx
    unfold dotE; omega

/-- The least n that is not negative and whose square is at least s. -/
def IsSpan (s n : Int) : Prop := 0 ≤ n ∧ s ≤ n * n ∧ (n = 0 ∨ (n - 1) * (n - 1) < s)
theorem sq_le {a b : Int} (h0 : 0 ≤ a) (h : a ≤ b) : a * a ≤ b * b := Int.mul_le_mul h h h0 (by omega)
theorem IsSpan.le {s n m : Int} (h : IsSpan s n) (hm : 0 ≤ m) (h2 : s ≤ m * m) : n ≤ m := by
  obtain ⟨h0, h1, h3⟩ := h
  rcases Int.lt_or_le m n with hlt | hge
  · rcases h3 with rfl | h3
    · omega
    · have := sq_le hm (show m ≤ n - 1 by omega)
      omega
  · exact hge
theorem IsSpan.unique {s n m : Int} (h : IsSpan s n) (k : IsSpan s m) : n = m := Int.le_antisymm (h.le k.1 k.2.1) (k.le h.1 h.2.1)
theorem halve_spec (s : Int) : ∀ (k : Nat) (lo hi : Int), 0 ≤ lo → lo ≤ hi → hi - lo < 2 ^ k → s ≤ hi * hi → (lo = 0 ∨ (lo - 1) * (lo - 1) < s) → IsSpan s (halve s k lo hi)
  | 0, lo, hi, h0, h1, h2, h3, h4 => by
    rw [halve]
    have : lo = hi := by simp at h2; omega
    subst this
    exact ⟨h0, h3, h4⟩
  | k + 1, lo, hi, h0, h1, h2, h3, h4 => by
    rw [halve]
    rw [Int.pow_succ] at h2
    by_cases hlt : lo < hi
    · rw [decide_eq_true hlt]
      simp only [cond_true]
      by_cases hm : (lo + hi) / 2 * ((lo + hi) / 2) ≥ s
      · rw [decide_eq_true hm]
        exact halve_spec s k lo _ h0 (by omega) (by omega) hm h4
      · rw [decide_eq_false hm]
        refine halve_spec s k _ hi (by omega) (by omega) (by omega) h3 (.inr ?_)
        have : (lo + hi) / 2 + 1 - 1 = (lo + hi) / 2 := by omega
        rw [this]; omega
    · rw [decide_eq_false hlt]
      have : lo = hi := by omega
      subst this
      exact ⟨h0, h3, h4⟩
theorem span_spec {a b : Pt} (ha : good a = true) (hb : good b = true) : IsSpan (dotE a b b) (span a b) := by
  obtain ⟨h1, h2, h3⟩ := dot_eq ha hb hb
  unfold span
  rw [h1]
  exact halve_spec _ 23 0 4000000 (by omega) (by omega) (by decide) (by omega) (.inl rfl)
theorem span_bound {a b : Pt} (ha : good a = true) (hb : good b = true) : 0 ≤ span a b ∧ span a b ≤ 3000000 := by
  have h := span_spec ha hb
  obtain ⟨h1, h2, h3⟩ := dot_eq ha hb hb
  exact ⟨h.1, h.le (by omega) (by omega)⟩
theorem span_pos {a b : Pt} (ha : good a = true) (hb : good b = true) (hab : a ≠ b) : 0 < span a b := by
  have h := span_spec ha hb
  have := sq_pos hab
  have h0 := h.1
  rcases Int.lt_or_le 0 (span a b) with h' | h'
  · exact h'
  · have : span a b = 0 := by omega
    have h1 := h.2.1
    rw [this] at h1
    omega

/-- How far a place is from a line, rounded down. -/
def offs (a b p : Pt) : Int := mm true (cross a b p) (w64 (0 - cross a b p)) / span a b
theorem mm_abs {c : Int} (h : -8000000000000 ≤ c) (k : c ≤ 8000000000000) : 0 ≤ mm true c (w64 (0 - c)) ∧ mm true c (w64 (0 - c)) ≤ 8000000000000 ∧ mm true c (w64 (0 - c)) = (if c < 0 then w64 (0 - c) else c) := by
  rw [w64_of (by omega) (by omega)]
  unfold mm
  simp only
  split <;> split <;> omega
theorem offs_le {a b p : Pt} (ha : good a = true) (hb : good b = true) (hp : good p = true) (hab : a ≠ b) : 0 ≤ offs a b p ∧ offs a b p ≤ 8000000000000 := by
  obtain ⟨h1, h2, h3⟩ := cross_eq ha hb hp
  have hs := span_pos ha hb hab
  obtain ⟨h4, h5, _⟩ := mm_abs (c := cross a b p) (by omega) (by omega)
  unfold offs
  exact ⟨Int.ediv_nonneg h4 (by omega), Int.le_trans (Int.ediv_le_self _ h4) h5⟩
end Go.Ch

/- What came in: channels, grids. -/
namespace Go.Ch
open Go Go.Ax Go.Proofs Go.Proofs.Try
set_option maxRecDepth 100000

abbrev i64ok (n : Int) : Prop := (Lit.int .i64 n).wf = true
theorem rI : Rd Try.prog 3 1 (fun n : Int => [.d (dI n)]) i64ok := rd_int Try.underlying3 (by kernel_rfl)
theorem rErr : Rd Try.prog 39 1 (fun n : Int => [.d (dI n)]) i64ok := rd_int Try.underlying39 (by kernel_rfl)
theorem rS : Rd Try.prog 9 1 (fun s : ByteArray => [.d (dS s)]) (fun s => s.size ≤ 9223372036854775807) := rd_str Try.underlying9 (by kernel_rfl)
def Pt.ok (p : Pt) : Prop := i64ok p.x ∧ i64ok p.y
theorem rPt : Rd Try.prog 44 2 (fun p : Pt => [.d (dI p.x), .d (dI p.y)]) Pt.ok :=
  (rd_struct Try.underlying44 rfl (by kernel_rfl) (rdf_cons rfl rI (rdf_cons rfl rI rdf_nil))).to (fun a => ⟨a.1, a.2.1⟩) (fun _ => rfl) (fun _ h => ⟨h.1, h.2.1⟩)
def Ap.ok (p : Ap) : Prop := i64ok p.x ∧ i64ok p.y ∧ i64ok p.half ∧ i64ok p.level ∧ i64ok p.run
theorem rPts : Rd Try.prog 33 1 (fun l : List Pt => [.d (dPts l)]) (fun l => l.length ≤ 9223372036854775807 ∧ ∀ a ∈ l, a.ok) :=
  rd_slice Try.underlying33 (by kernel_rfl) rPt (by decide) ptD (fun _ => rfl) (fun a j hj => by match j, hj with | 0, _ => rfl | 1, _ => rfl)
theorem rInts : Rd Try.prog 25 1 (fun l : List Int => [.d (dInts l)]) (fun l => l.length ≤ 9223372036854775807 ∧ ∀ a ∈ l, i64ok a) :=
  rd_slice Try.underlying25 (by kernel_rfl) rI (by decide) (fun n _ => dI n) (fun _ => rfl) (fun a j hj => by match j, hj with | 0, _ => rfl)
def Reg.ok (p : Reg) : Prop := p.name.size ≤ 9223372036854775807 ∧ i64ok p.kind ∧ p.corners.length ≤ 9223372036854775807 ∧ ∀ a ∈ p.corners, a.ok
structure Chan.ok (c : Chan) : Prop where
  name : c.name.size ≤ 9223372036854775807
  axis : c.axis.length ≤ 9223372036854775807
  aps : ∀ a ∈ c.axis, a.ok
  over : i64ok c.over
  buffer : i64ok c.buffer
  regions : c.regions.length ≤ 9223372036854775807
  regs : ∀ a ∈ c.regions, a.ok
structure Grid.ok (g : Grid) : Prop where
  x : i64ok g.x
  y : i64ok g.y
  side : i64ok g.side
  cols : i64ok g.cols
  rows : i64ok g.rows
  levels : g.levels.length ≤ 9223372036854775807
  lev : ∀ a ∈ g.levels, i64ok a
theorem rGrid : RdA Try.prog 27 grid Grid.ok :=
  rda_agg (k := 6) Try.underlying27 ((rd_struct Try.underlying27 rfl (by kernel_rfl) (rdf_cons rfl rI (rdf_cons rfl rI (rdf_cons rfl rI (rdf_cons rfl rI (rdf_cons rfl rI (rdf_cons rfl rInts rdf_nil))))))).to (fun a => ⟨a.1, a.2.1, a.2.2.1, a.2.2.2.1, a.2.2.2.2.1, a.2.2.2.2.2.1⟩) (fun _ => rfl)
    (fun _ h => ⟨h.1, h.2.1, h.2.2.1, h.2.2.2.1, h.2.2.2.2.1, h.2.2.2.2.2.1.1, h.2.2.2.2.2.1.2⟩))
end Go.Ch

namespace Go.Ch
open Go Go.Ax Go.Proofs Go.Proofs.Try
set_option maxRecDepth 100000
set_option pp.maxSteps 400
set_option maxHeartbeats 1000000

structure Prt where
  offset : Int
  half : Int
  bottom : Int
  run : Int
  deriving DecidableEq, Inhabited
def prtD (p : Prt) : Nat → DV
  | 0 => dI p.offset
  | 1 => dI p.half
  | 2 => dI p.bottom
  | 3 => dI p.run
  | _ => .junk
def prtEl (l : List Prt) : Nat → Nat → DV := fun i => prtD (l.getD i default)
def dPrts (l : List Prt) : DV := .slc l.length 4 (prtEl l)
abbrev prtS (p : Prt) : List SV := [.d (dI p.offset), .d (dI p.half), .d (dI p.bottom), .d (dI p.run)]
def oPrt (o : Option Prt) : Prt := o.getD ⟨0, 0, 0, 0⟩
abbrev rPrt (o : Option Prt) : AV := .t [.g (prtS (oPrt o)), .s (.d (.val (.bool o.isSome)))]

/-- A channel that Check accepts, as far as places are asked. -/
structure Val (c : Chan) : Prop where
  n2 : 2 ≤ c.axis.length
  n20 : c.axis.length ≤ 20
  pts : ∀ i, i < c.axis.length → good (c.axis.getD i default).pt = true
  half : ∀ i, i < c.axis.length → 1 ≤ (c.axis.getD i default).half ∧ (c.axis.getD i default).half ≤ 100000
  level : ∀ i, i < c.axis.length → c.over - 20000 ≤ (c.axis.getD i default).level ∧ (c.axis.getD i default).level ≤ 20000
  run : ∀ i, i < c.axis.length → 0 ≤ (c.axis.getD i default).run ∧ (c.axis.getD i default).run ≤ 1000
  apart : ∀ i, i + 1 < c.axis.length → (c.axis.getD i default).pt ≠ (c.axis.getD (i + 1) default).pt
  over : 0 ≤ c.over ∧ c.over ≤ 1000
  buffer : 0 ≤ c.buffer ∧ c.buffer ≤ 100000

theorem div_of {a b q r : Int} (hb : 0 < b) (h : a = q * b + r) (h0 : 0 ≤ r) (h1 : r < b) : a / b = q := by
  rw [h, Int.add_comm, Int.add_mul_ediv_right _ _ (by omega), Int.ediv_eq_zero_of_lt h0 h1, Int.zero_add]
theorem tdm (a b : Int) : a = a.tdiv b * b + a.tmod b := by
  have := Int.tmod_add_mul_tdiv a b
  rw [Int.mul_comm] at this; omega
theorem tmod_lt {a b : Int} (hb : 0 < b) : -b < a.tmod b ∧ a.tmod b < b := by
  rcases Int.le_total 0 a with h | h
  · rw [Int.tmod_eq_emod_of_nonneg h]
    have := Int.emod_nonneg a (show b ≠ 0 by omega)
    have := Int.emod_lt_of_pos a hb
    omega
  · obtain ⟨n, rfl⟩ : ∃ n : Int, a = -n := ⟨-a, by omega⟩
    rw [Int.neg_tmod, Int.tmod_eq_emod_of_nonneg (by omega)]
    have := Int.emod_nonneg n (show b ≠ 0 by omega)
    have := Int.emod_lt_of_pos n hb
    omega
theorem down_eq {a b : Int} (hb : 0 < b) (h : -9000000000000000000 ≤ a) (k : a ≤ 9000000000000000000) :
    (if a.tmod b < 0 then w64 (w64 (a.tdiv b) - 1) else w64 (a.tdiv b)) = a / b := by
  have h1 := tdm a b
  have h2 := tmod_lt (a := a) hb
  have hq : -9000000000000000000 ≤ a.tdiv b ∧ a.tdiv b ≤ 9000000000000000000 := by
    rcases Int.le_total 0 a with h0 | h0
    · rw [Int.tdiv_eq_ediv_of_nonneg h0]
      have := Int.ediv_le_self b h0
      have := Int.ediv_nonneg h0 (show 0 ≤ b by omega)
      omega
    · obtain ⟨n, rfl⟩ : ∃ n : Int, a = -n := ⟨-a, by omega⟩
      rw [Int.neg_tdiv, Int.tdiv_eq_ediv_of_nonneg (by omega)]
      have := Int.ediv_le_self (a := n) b (by omega)
      have := Int.ediv_nonneg (a := n) (by omega) (show 0 ≤ b by omega)
      omega
  split
  · rw [w64_of (n := a.tdiv b) (by omega) (by omega), w64_of (by omega) (by omega)]
    exact (div_of (r := a.tmod b + b) hb (by rw [Int.sub_mul]; omega) (by omega) (by omega)).symm
  · rw [w64_of (by omega) (by omega)]
    exact (div_of hb h1 (by omega) (by omega)).symm
theorem Floor_eq {a b : Int} (hb : 0 < b) (hb2 : b ≤ 100000000000000000) (h : -9000000000000000000 ≤ a) (k : a ≤ 9000000000000000000) :
    w64 (Int.tdiv (w64 (a - (if a.tmod b < 0 then w64 (a.tmod b + b) else a.tmod b))) b) = a / b := by
  have h1 := tdm a b
  have h2 := tmod_lt (a := a) hb
  have hm := Int.emod_nonneg a (show b ≠ 0 by omega)
  have hl := Int.emod_lt_of_pos a hb
  have hd := Int.mul_ediv_add_emod a b
  have e : (if a.tmod b < 0 then w64 (a.tmod b + b) else a.tmod b) = a % b := by
    split
    · rw [w64_of (by omega) (by omega)]
      have hx := div_of (a := a) (r := a.tmod b + b) (q := a.tdiv b - 1) hb (by rw [Int.sub_mul]; omega) (by omega) (by omega)
      rw [hx] at hd
      rw [Int.mul_sub, Int.mul_comm b] at hd
      omega
    · have hx := div_of (a := a) (r := a.tmod b) (q := a.tdiv b) hb (by omega) (by omega) (by omega)
      rw [hx] at hd
      rw [Int.mul_comm b] at hd
      omega
  rw [e, w64_of (n := a - a % b) (by omega) (by omega)]
  have e2 : a - a % b = a / b * b := by rw [Int.mul_comm]; omega
  rw [e2, Int.mul_tdiv_cancel _ (by omega)]
  have hq : -9000000000000000000 ≤ a / b ∧ a / b ≤ 9000000000000000000 := by
    constructor
    · rcases Int.le_total 0 a with h0 | h0
      · have := Int.ediv_nonneg h0 (show 0 ≤ b by omega); omega
      · have : a ≤ a / b := by
          have h3 : a / b * b ≤ a := by omega
          rcases Int.le_total 0 (a / b) with h4 | h4
          · omega
          · have h5 : a / b * b ≤ a / b := by
              have : 0 ≤ (-(a / b)) * (b - 1) := Int.mul_nonneg (by omega) (by omega)
              rw [Int.mul_sub, Int.neg_mul, Int.mul_one] at this
              omega
            rcases Int.lt_or_le (a / b) a with h6 | h6
            · exfalso
              have h7 : a < (a / b + 1) * b := by rw [Int.add_mul]; omega
              have h8 : (a / b + 1) * b ≤ a / b + 1 := by
                have : 0 ≤ (-(a / b + 1)) * (b - 1) := Int.mul_nonneg (by omega) (by omega)
                rw [Int.mul_sub, Int.neg_mul, Int.mul_one] at this
                omega
              omega
            · exact h6
        omega
    · rcases Int.le_total 0 a with h0 | h0
      · have := Int.ediv_le_self b h0; omega
      · have : a / b ≤ 0 := by
          rcases Int.lt_or_le 0 (a / b) with h6 | h6
          · have : b ≤ a / b * b := by
              have : 0 ≤ (a / b - 1) * b := Int.mul_nonneg (by omega) (by omega)
              rw [Int.sub_mul] at this; omega
            omega
          · exact h6
        omega
  exact w64_of (by omega) (by omega)

/-- A value between those of the two ends of a leg. -/
def mixE (u v s d : Int) : Int := (u * (s - d) + v * d) / s
theorem mix_in {u v s d U : Int} (hs : 0 < s) (hs2 : s ≤ 8000000000000) (hd : 0 ≤ d) (hd2 : d ≤ s) (hU : 0 ≤ U) (hU2 : U ≤ 100000) (hu : -U ≤ u) (hu2 : u ≤ U) (hv : -U ≤ v) (hv2 : v ≤ U) :
    w64 (w64 (u * w64 (s - d)) + w64 (v * d)) = u * (s - d) + v * d ∧ -800000000000000000 ≤ u * (s - d) + v * d ∧ u * (s - d) + v * d ≤ 800000000000000000 := by
  have hsd : w64 (s - d) = s - d := w64_of (by omega) (by omega)
  rw [hsd]
  have h1 := mul_le_of (a := u) (b := s - d) (A := 100000) (B := s - d) (by omega) (by omega) (by omega) (by omega)
  have h2 := mul_le_of (a := v) (b := d) (A := 100000) (B := d) (by omega) (by omega) (by omega) (by omega)
  rw [w64_of (n := u * (s - d)) (by omega) (by omega), w64_of (n := v * d) (by omega) (by omega), w64_of (by omega) (by omega)]
  exact ⟨rfl, by omega, by omega⟩

def legP (a b : Ap) (p : Pt) : Option Prt :=
  bif decide (dotE a.pt b.pt p < 0) || decide (dotE a.pt b.pt p > dotE a.pt b.pt b.pt) then none
  else some ⟨offs a.pt b.pt p, mixE a.half b.half (dotE a.pt b.pt b.pt) (dotE a.pt b.pt p), mixE a.level b.level (dotE a.pt b.pt b.pt) (dotE a.pt b.pt p), a.run⟩
def legF (c : Chan) (k : Nat) (p : Pt) : Option Prt := legP (c.axis.getD k default) (c.axis.getD (k + 1) default) p
def bendF (c : Chan) (k : Nat) (p : Pt) : Option Prt :=
  bif decide (dotE (c.axis.getD (k - 1) default).pt (c.axis.getD k default).pt p ≤ dotE (c.axis.getD (k - 1) default).pt (c.axis.getD k default).pt (c.axis.getD k default).pt) || decide (dotE (c.axis.getD k default).pt (c.axis.getD (k + 1) default).pt p ≥ 0) then none
  else some ⟨span (c.axis.getD k default).pt p, (c.axis.getD k default).half, (c.axis.getD k default).level, (c.axis.getD k default).run⟩

theorem rPrt_of {a b c d : Int} {l : Bool} {o : Option Prt} (h : ⟨a, b, c, d⟩ = oPrt o) (k : l = o.isSome) : SubR (.t [.g [.d (dI a), .d (dI b), .d (dI c), .d (dI d)], .s (.d (.lit l))]) (rPrt o) := by
  subst k
  unfold rPrt
  rw [← h]
  exact SubR.t ⟨⟨LeD.refl _, LeD.refl _, LeD.refl _, LeD.refl _, trivial⟩, fun _ _ r => r, trivial⟩

theorem down_mix {u v s d U : Int} (hs : 0 < s) (hs2 : s ≤ 8000000000000) (hd : 0 ≤ d) (hd2 : d ≤ s) (hU : 0 ≤ U) (hU2 : U ≤ 100000) (hu : -U ≤ u) (hu2 : u ≤ U) (hv : -U ≤ v) (hv2 : v ≤ U) :
    (if (w64 (w64 (u * w64 (s - d)) + w64 (v * d))).tmod s < 0 then w64 (w64 ((w64 (w64 (u * w64 (s - d)) + w64 (v * d))).tdiv s) - 1) else w64 ((w64 (w64 (u * w64 (s - d)) + w64 (v * d))).tdiv s)) = mixE u v s d := by
  obtain ⟨h1, h2, h3⟩ := mix_in hs hs2 hd hd2 hU hU2 hu hu2 hv hv2
  rw [h1]
  exact down_eq hs (by omega) (by omega)
theorem floor_mix {u v s d U : Int} (hs : 0 < s) (hs2 : s ≤ 8000000000000) (hd : 0 ≤ d) (hd2 : d ≤ s) (hU : 0 ≤ U) (hU2 : U ≤ 100000) (hu : -U ≤ u) (hu2 : u ≤ U) (hv : -U ≤ v) (hv2 : v ≤ U) :
    w64 (Int.tdiv (w64 (w64 (w64 (u * w64 (s - d)) + w64 (v * d)) - (if (w64 (w64 (u * w64 (s - d)) + w64 (v * d))).tmod s < 0 then w64 ((w64 (w64 (u * w64 (s - d)) + w64 (v * d))).tmod s + s) else (w64 (w64 (u * w64 (s - d)) + w64 (v * d))).tmod s))) s) = mixE u v s d := by
  obtain ⟨h1, h2, h3⟩ := mix_in hs hs2 hd hd2 hU hU2 hu hu2 hv hv2
  rw [h1]
  exact Floor_eq hs (by omega) (by omega) (by omega)
theorem prt_ext {a b c d a' b' c' d' : Int} (h1 : a = a') (h2 : b = b') (h3 : c = c') (h4 : d = d') : Prt.mk a b c d = Prt.mk a' b' c' d' := by subst h1; subst h2; subst h3; subst h4; rfl
abbrev up (k : Nat) : Nat := (w64 ((k : Int) + 1)).toNat
theorem up_eq {k : Nat} (h : k ≤ 1000000) : up k = k + 1 := by
  unfold up
  rw [w64_of (by omega) (by omega)]; omega
theorem rPrt_le {s0 s1 s2 s3 t : SV} {o : Option Prt} {p : Prt} {l : Bool} (ho : oPrt o = p) (hl : o.isSome = l) (h0 : LeS s0 (.d (dI p.offset))) (h1 : LeS s1 (.d (dI p.half))) (h2 : LeS s2 (.d (dI p.bottom))) (h3 : LeS s3 (.d (dI p.run))) (h4 : LeS t (.d (.val (.bool l)))) :
    SubR (.t [.g [s0, s1, s2, s3], .s t]) (rPrt o) := by
  subst ho; subst hl
  exact SubR.t ⟨⟨h0, h1, h2, h3, trivial⟩, h4, trivial⟩
abbrev axis (c : Chan) (k : Nat) : Ap := c.axis.getD k default
def partE (a b : Ap) (p : Pt) : Prt := ⟨offs a.pt b.pt p, mixE a.half b.half (dotE a.pt b.pt b.pt) (dotE a.pt b.pt p), mixE a.level b.level (dotE a.pt b.pt b.pt) (dotE a.pt b.pt p), a.run⟩
end Go.Ch

namespace Go.Ch
open Go Go.Ax Go.Proofs Go.Proofs.Try
set_option maxRecDepth 100000
set_option pp.maxSteps 400
set_option maxHeartbeats 1000000

/-- The bend at axis point j + 1. -/
def bendP (a q b : Ap) (p : Pt) : Option Prt :=
  bif decide (dotE a.pt q.pt p ≤ dotE a.pt q.pt q.pt) || decide (dotE q.pt b.pt p ≥ 0) then none else some ⟨span q.pt p, q.half, q.level, q.run⟩
def bendN (c : Chan) (j : Nat) (p : Pt) : Option Prt := bendP (axis c j) (axis c (j + 1)) (axis c (j + 2)) p

def legsL (c : Chan) (p : Pt) (i : Nat) : List Prt := (List.range i).filterMap fun k => legF c k p
def bendsL (c : Chan) (p : Pt) (i : Nat) : List Prt := (List.range i).filterMap fun j => bendN c j p
def partsL (c : Chan) (p : Pt) : List Prt := legsL c p (c.axis.length - 1) ++ bendsL c p (c.axis.length - 2)
abbrev chanB (c : Chan) : Box := .cells [.d (dS c.name), .d (dAps c.axis), .d (dI c.over), .d (dI c.buffer), .d (dRegs c.regions)]
abbrev ptB (p : Pt) : Box := .cells [.d (dI p.x), .d (dI p.y)]
end Go.Ch

namespace Go.Ch
open Go Go.Ax Go.Proofs Go.Proofs.Try
set_option maxRecDepth 100000
set_option pp.maxSteps 400
set_option maxHeartbeats 1000000

def bendR (c : Chan) (k : Nat) (p : Pt) : Option Prt := match k with
  | 0 => none
  | j + 1 => bendN c j p
def holdsL (c : Chan) (p : Pt) (i : Nat) : List Prt := (List.range i).flatMap fun k => (legF c k p).toList ++ (bendR c k p).toList
theorem holdsL_succ (c : Chan) (p : Pt) (i : Nat) : holdsL c p (i + 1) = holdsL c p i ++ ((legF c i p).toList ++ (bendR c i p).toList) := by
  unfold holdsL
  rw [List.range_succ, List.flatMap_append]
  simp
theorem toList_some {o : Option Prt} (h : o.isSome = true) : o.toList = [oPrt o] := by
  cases o with
  | none => cases h
  | some x => rfl
theorem toList_none {o : Option Prt} (h : o.isSome = false) : o.toList = [] := by
  cases o with
  | none => rfl
  | some x => cases h
theorem holdsL_len (c : Chan) (p : Pt) : ∀ i, (holdsL c p i).length ≤ 2 * i
  | 0 => Nat.zero_le _
  | i + 1 => by
    rw [holdsL_succ, List.length_append, List.length_append]
    have := holdsL_len c p i
    have h1 : (legF c i p).toList.length ≤ 1 := by cases legF c i p <;> simp
    have h2 : (bendR c i p).toList.length ≤ 1 := by cases bendR c i p <;> simp
    omega
theorem parts_holds (c : Chan) (p : Pt) (h2 : 2 ≤ c.axis.length) : ∀ x, x ∈ partsL c p ↔ x ∈ holdsL c p (c.axis.length - 1) := by
  intro x
  unfold partsL legsL bendsL holdsL
  simp only [List.mem_append, List.mem_filterMap, List.mem_range, List.mem_flatMap, Option.mem_toList]
  constructor
  · rintro (⟨k, hk, h⟩ | ⟨j, hj, h⟩)
    · exact ⟨k, hk, .inl h⟩
    · exact ⟨j + 1, by omega, .inr h⟩
  · rintro ⟨k, hk, h | h⟩
    · exact .inl ⟨k, hk, h⟩
    · cases k with
      | zero => cases h
      | succ j => exact .inr ⟨j, by omega, h⟩
end Go.Ch

namespace Go.Ch
open Go Go.Ax Go.Proofs Go.Proofs.Try
set_option maxRecDepth 100000
set_option pp.maxSteps 400
set_option maxHeartbeats 1000000

abbrev pAt (l : List Pt) (i : Nat) : Pt := l.getD i default
abbrev cor (l : List Pt) (i : Nat) : Pt := l.getD (i % l.length) default
def samePt (a b : Pt) : Bool := a.x == b.x && (a.y == b.y && true)
theorem samePt_iff {a b : Pt} : samePt a b = true ↔ a = b := by
  cases a; cases b; simp [samePt]
def anyB (n : Nat) (p : Nat → Bool) : Bool := (List.range n).any p
theorem anyB_true {n : Nat} {p : Nat → Bool} {i : Nat} (h : i < n) (hp : p i = true) : anyB n p = true := by
  unfold anyB; rw [List.any_eq_true]; exact ⟨i, List.mem_range.2 h, hp⟩
theorem anyB_false {n : Nat} {p : Nat → Bool} (h : ∀ i, i < n → p i = false) : anyB n p = false := by
  unfold anyB; rw [List.any_eq_false]; intro i hi; rw [h i (List.mem_range.1 hi)]; simp
theorem anyB_ex {n : Nat} {p : Nat → Bool} (h : anyB n p = true) : ∃ i, i < n ∧ p i = true := by
  unfold anyB at h; rw [List.any_eq_true] at h
  obtain ⟨i, hi, hp⟩ := h
  exact ⟨i, List.mem_range.1 hi, hp⟩
def edgeBad (l : List Pt) (i : Nat) : Bool := between (pAt l i) (cor l (i + 1)) (cor l (i + 2)) || between (cor l (i + 1)) (cor l (i + 2)) (pAt l i)
def meetAt (l : List Pt) (i k : Nat) : Bool := ((((k + 1) % l.length : Nat) : Int) != (i : Int)) && meet (pAt l i) (cor l (i + 1)) (pAt l k) (cor l (k + 1))
def meetBad (l : List Pt) (i k : Nat) : Bool := decide (i + 2 ≤ k) && meetAt l i k
def badI (l : List Pt) (i : Nat) : Bool := edgeBad l i || anyB l.length (meetBad l i)
def badG (l : List Pt) (i : Nat) : Bool := samePt (pAt l i) (cor l (i + 1)) || badI l i
def pairBad (l : List Pt) (i : Nat) : Bool := anyB i fun k => samePt (pAt l i) (pAt l k)
def formBad (l : List Pt) : Bool := anyB l.length (badG l)
def formBadR (l : List Pt) : Bool := anyB l.length (pairBad l) || anyB l.length (badI l)

theorem between_self (a b : Pt) : between a b a = true := by
  unfold between cross
  have e : w64 (w64 (w64 (b.x - a.x) * w64 (a.y - a.y)) - w64 (w64 (b.y - a.y) * w64 (a.x - a.x))) = 0 := by
    rw [Int.sub_self, Int.sub_self, show w64 0 = 0 from rfl, Int.mul_zero, Int.mul_zero]; rfl
  rw [e]
  simp [within, mm]
  constructor
  · constructor <;> split <;> omega
  · constructor <;> split <;> omega
theorem formBad_eq (l : List Pt) (h3 : 3 ≤ l.length) : formBadR l = formBad l := by
  rw [Bool.eq_iff_iff]
  unfold formBad formBadR
  rw [Bool.or_eq_true]
  constructor
  · rintro (h | h)
    · obtain ⟨i, hi, h⟩ := anyB_ex h
      obtain ⟨k, hk, h⟩ := anyB_ex h
      have e := samePt_iff.1 h
      by_cases h1 : i = k + 1
      · refine anyB_true (i := k) (by omega) ?_
        unfold badG
        have : samePt (pAt l k) (cor l (k + 1)) = true := by
          rw [samePt_iff]
          unfold cor
          rw [Nat.mod_eq_of_lt (by omega), ← h1]; exact e.symm
        rw [this]; rfl
      · by_cases h2 : (i + 1) % l.length = k
        · refine anyB_true (i := i) hi ?_
          unfold badG
          have : samePt (pAt l i) (cor l (i + 1)) = true := by
            rw [samePt_iff]
            unfold cor
            rw [h2]; exact e
          rw [this]; rfl
        · refine anyB_true (i := k) (by omega) ?_
          unfold badG badI
          have : anyB l.length (meetBad l k) = true := by
            refine anyB_true (i := i) hi ?_
            unfold meetBad meetAt
            rw [decide_eq_true (by omega), Bool.true_and, Bool.and_eq_true]
            refine ⟨by rw [bne_iff_ne]; intro h; exact h2 (by exact_mod_cast h), ?_⟩
            unfold meet
            rw [e, between_self]; rfl
          rw [this]; simp
    · obtain ⟨i, hi, h⟩ := anyB_ex h
      refine anyB_true hi ?_
      unfold badG; rw [h]; simp
  · intro h
    obtain ⟨i, hi, h⟩ := anyB_ex h
    unfold badG at h
    rw [Bool.or_eq_true] at h
    rcases h with h | h
    · left
      have e := samePt_iff.1 h
      unfold cor at e
      have hm := Nat.mod_lt (i + 1) (show 0 < l.length by omega)
      have hne : (i + 1) % l.length ≠ i := by
        intro h'
        by_cases hc : i + 1 < l.length
        · rw [Nat.mod_eq_of_lt hc] at h'; omega
        · have : i + 1 = l.length := by omega
          rw [this, Nat.mod_self] at h'; omega
      rcases Nat.lt_or_gt_of_ne hne with h1 | h1
      · refine anyB_true hi (anyB_true h1 ?_)
        rw [samePt_iff]; exact e
      · refine anyB_true hm (anyB_true h1 ?_)
        rw [samePt_iff]; exact e.symm
    · exact .inr (anyB_true hi h)

def errPoly (l : List Pt) : Int :=
  bif decide ((l.length : Int) < 3) then 10 else bif decide ((l.length : Int) > 40) then 8 else bif l.any (fun p => !good p) then 2 else bif formBad l then 3 else 0
end Go.Ch

namespace Go.Ch
open Go Go.Ax Go.Proofs Go.Proofs.Try
set_option maxRecDepth 100000
set_option pp.maxSteps 400
set_option maxHeartbeats 1000000

theorem any_getD {α : Type} [Inhabited α] (p : α → Bool) (l : List α) (i : Nat) (hi : i < l.length) (h : p (l.getD i default) = true) : l.any p = true := by
  rw [List.any_eq_true]
  exact ⟨l[i], by simp, by rw [getD_of hi] at h; exact h⟩
theorem any_drop {α : Type} [Inhabited α] (p : α → Bool) (l : List α) (h : ∀ i, i < l.length → p (l.getD i default) = false) : l.any p = false := by
  rw [List.any_eq_false]
  intro x hx
  obtain ⟨i, hi, rfl⟩ := List.getElem_of_mem hx
  have := h i hi
  rw [getD_of hi] at this
  rw [this]; simp
end Go.Ch

namespace Go.Ch
open Go Go.Ax Go.Proofs Go.Proofs.Try
set_option maxRecDepth 100000
set_option pp.maxSteps 400
set_option maxHeartbeats 1000000

def sameS (a b : ByteArray) : Bool := a.toList == b.toList
def regErr (r : Reg) (before : List Reg) : Int :=
  bif !isName r.name then 4 else bif before.any (fun q => sameS q.name r.name) then 5 else bif !within r.kind 0 3 then 2 else errPoly r.corners
def capR (s : ByteArray) : Nat → DV
  | 0 => dS s
  | _ => .junk
def badA (over : Int) (a : Ap) : Bool := !good a.pt || !within a.half 1 100000 || !within a.level (w64 (over - 20000)) 20000 || !within a.run 0 1000
def sameA (l : List Ap) (i : Nat) : Bool := decide ((i : Int) > 0) && samePt (l.getD i default).pt (l.getD (w64 ((i : Int) - 1)).toNat default).pt
def axErrF (over : Int) (l : List Ap) : Nat → Nat → Int
  | 0, _ => 0
  | n + 1, i => bif badA over (l.getD i default) then 2 else bif sameA l i then 5 else axErrF over l n (i + 1)
def axErr (c : Chan) : Int := bif decide ((c.axis.length : Int) < 2) then 10 else bif decide ((c.axis.length : Int) > 20) then 8 else axErrF c.over c.axis c.axis.length 0
def regErrF (l : List Reg) : Nat → Nat → Int
  | 0, _ => 0
  | n + 1, i => bif regErr (l.getD i default) (l.take i) != 0 then regErr (l.getD i default) (l.take i) else regErrF l n (i + 1)
def errC (c : Chan) : Int :=
  bif !isName c.name then 4
  else bif !within c.over 0 1000 || !within c.buffer 0 100000 then 2
  else bif axErr c != 0 then axErr c
  else bif decide ((c.regions.length : Int) > 20) then 8
  else regErrF c.regions c.regions.length 0
theorem take_regs (l : List Reg) (i : Nat) (hi : i ≤ l.length) : LeD (.slc (i : Int).toNat 3 (regEl l)) (dRegs (l.take i)) := by
  refine LeD.slc' (by simp; omega) fun a b ha hb => LeD.of_eq ?_
  have ha : a < i := ha
  unfold regEl
  congr 1
  simp [ha]
theorem Reg.okD {l : List Reg} (h : ∀ a ∈ l, a.ok) {i : Nat} (hi : i < l.length) : (l.getD i default).ok := by
  rw [getD_of hi]; exact h _ (List.getElem_mem hi)
end Go.Ch

namespace Go.Ch
open Go Go.Ax Go.Proofs Go.Proofs.Try
set_option maxRecDepth 100000
set_option pp.maxSteps 400
set_option maxHeartbeats 1000000

def gridD (g : Grid) : Nat → DV
  | 0 => dI g.x
  | 1 => dI g.y
  | 2 => dI g.side
  | 3 => dI g.cols
  | 4 => dI g.rows
  | 5 => dInts g.levels
  | _ => .junk
def gridEl (l : List Grid) : Nat → Nat → DV := fun i => gridD (l.getD i default)
def dGrids (l : List Grid) : DV := .slc l.length 6 (gridEl l)
def gridsErr (l : List Grid) : Nat → Nat → Int
  | 0, _ => bif ((l.length : Int) == 2) && !alike (l.getD 0 default) (l.getD 1 default) then 10 else 0
  | n + 1, i => bif errG (l.getD i default) != 0 then errG (l.getD i default) else gridsErr l n (i + 1)
def withErr (c : Chan) (l : List Grid) : Int := bif errC c != 0 then errC c else gridsErr l l.length 0
theorem withErr1 (c : Chan) (g : Grid) : withErr c [g] = bif errC c != 0 then errC c else errG g := by
  unfold withErr
  cases h : errC c != 0
  · show gridsErr [g] 1 0 = errG g
    show (bif errG g != 0 then errG g else 0) = errG g
    cases h' : errG g != 0
    · simp at h'; exact h'.symm
    · rfl
  · rfl
theorem withErr2 (c : Chan) (a b : Grid) : withErr c [a, b] = bif errC c != 0 then errC c else bif errG a != 0 then errG a else bif errG b != 0 then errG b else bif !alike a b then 10 else 0 := rfl
theorem axErrF_zero {over : Int} {l : List Ap} : ∀ {n i : Nat}, axErrF over l n i = 0 → ∀ j, i ≤ j → j < i + n → badA over (l.getD j default) = false ∧ sameA l j = false
  | 0, i, _, j, h1, h2 => by omega
  | n + 1, i, h, j, h1, h2 => by
    rw [axErrF] at h
    cases hb : badA over (l.getD i default) with
    | true => rw [hb] at h; cases h
    | false =>
      cases hs : sameA l i with
      | true => rw [hb, hs] at h; cases h
      | false =>
        rw [hb, hs] at h
        by_cases hij : j = i
        · subst hij; exact ⟨hb, hs⟩
        · exact axErrF_zero (n := n) (i := i + 1) h j (by omega) (by omega)
theorem val_of (c : Chan) (h : errC c = 0) : Val c := by
  unfold errC at h
  cases h1 : isName c.name with
  | false => rw [h1] at h; cases h
  | true =>
    rw [h1] at h
    cases h2 : (!within c.over 0 1000 || !within c.buffer 0 100000) with
    | true => rw [h2] at h; cases h
    | false =>
      rw [h2] at h
      cases h3 : axErr c != 0 with
      | true =>
        rw [h3] at h
        have h : axErr c = 0 := h
        rw [h] at h3; cases h3
      | false =>
        have h3 : axErr c = 0 := by simpa using h3
        unfold axErr at h3
        cases a1 : decide ((c.axis.length : Int) < 2) with
        | true => rw [a1] at h3; cases h3
        | false =>
          cases a2 : decide ((c.axis.length : Int) > 20) with
          | true => rw [a1, a2] at h3; cases h3
          | false =>
            rw [a1, a2] at h3
            have h3 : axErrF c.over c.axis c.axis.length 0 = 0 := h3
            have g1 := decF a1
            have g2 := decF a2
            simp [within] at h2
            have hov : w64 (c.over - 20000) = c.over - 20000 := w64_of (by omega) (by omega)
            have hA : ∀ i, i < c.axis.length → badA c.over (axis c i) = false ∧ sameA c.axis i = false := fun i hi => axErrF_zero h3 i (Nat.zero_le _) (by omega)
            have hB : ∀ i, i < c.axis.length → good (axis c i).pt = true ∧ (1 ≤ (axis c i).half ∧ (axis c i).half ≤ 100000) ∧ (c.over - 20000 ≤ (axis c i).level ∧ (axis c i).level ≤ 20000) ∧ (0 ≤ (axis c i).run ∧ (axis c i).run ≤ 1000) := by
              intro i hi
              have := (hA i hi).1
              unfold badA at this
              rw [hov] at this
              simp only [Bool.or_eq_false_iff, Bool.not_eq_false'] at this
              obtain ⟨⟨⟨q1, q2⟩, q3⟩, q4⟩ := this
              simp only [within, Bool.and_eq_true, decide_eq_true_eq, ge_iff_le] at q2 q3 q4
              exact ⟨q1, q2, q3, q4⟩
            refine ⟨by omega, by omega, fun i hi => (hB i hi).1, fun i hi => (hB i hi).2.1, fun i hi => (hB i hi).2.2.1, fun i hi => (hB i hi).2.2.2, fun i hi => ?_, by omega, by omega⟩
            intro he
            have := (hA (i + 1) hi).2
            unfold sameA at this
            rw [decide_eq_true (by omega), Bool.true_and, w64_of (by omega) (by omega)] at this
            have e : ((((i + 1 : Nat) : Int) - 1).toNat) = i := by omega
            rw [e] at this
            rw [samePt_iff.2 he.symm] at this
            cases this
end Go.Ch

namespace Go.Ch
open Go Go.Ax Go.Proofs Go.Proofs.Try
set_option maxRecDepth 100000
set_option pp.maxSteps 400
set_option maxHeartbeats 1000000

structure GVal (g : Grid) : Prop where
  x : -1000000 ≤ g.x ∧ g.x ≤ 1000000
  y : -1000000 ≤ g.y ∧ g.y ≤ 1000000
  side : 100 ≤ g.side ∧ g.side ≤ 10000
  cols : 1 ≤ g.cols ∧ g.cols ≤ 1024
  rows : 1 ≤ g.rows ∧ g.rows ≤ 1024
  most : g.cols * g.rows ≤ 1024
  right : g.x + g.cols * g.side ≤ 1000000
  top : g.y + g.rows * g.side ≤ 1000000
  len : (g.levels.length : Int) = g.cols * g.rows
  lev : ∀ n ∈ g.levels, n = 30000 ∨ (-20000 ≤ n ∧ n ≤ 20000)
theorem GVal.of {g : Grid} (h : errG g = 0) : GVal g := by
  unfold errG at h
  cases h1 : e1 g with
  | true => rw [h1] at h; cases h
  | false =>
    rw [h1] at h
    unfold e1 at h1
    simp only [Bool.or_eq_false_iff, Bool.not_eq_false'] at h1
    obtain ⟨⟨⟨⟨q1, q2⟩, q3⟩, q4⟩, q5⟩ := h1
    simp only [within, Bool.and_eq_true, decide_eq_true_eq, ge_iff_le] at q1 q2 q3 q4 q5
    have m1 := mul_le_of (a := g.cols) (b := g.rows) (A := 1024) (B := 1024) (by omega) (by omega) (by omega) (by omega)
    have m2 := mul_le_of (a := g.cols) (b := g.side) (A := 1024) (B := 10000) (by omega) (by omega) (by omega) (by omega)
    have m3 := mul_le_of (a := g.rows) (b := g.side) (A := 1024) (B := 10000) (by omega) (by omega) (by omega) (by omega)
    rw [w64_of (n := g.cols * g.rows) (by omega) (by omega), w64_of (n := g.cols * g.side) (by omega) (by omega), w64_of (n := g.rows * g.side) (by omega) (by omega),
      w64_of (n := g.x + g.cols * g.side) (by omega) (by omega), w64_of (n := g.y + g.rows * g.side) (by omega) (by omega)] at h
    cases h2 : decide (g.cols * g.rows > 1024) with
    | true => rw [h2] at h; cases h
    | false =>
      rw [h2] at h
      cases h3 : (decide (g.x + g.cols * g.side > 1000000) || decide (g.y + g.rows * g.side > 1000000)) with
      | true => rw [h3] at h; cases h
      | false =>
        rw [h3] at h
        cases h4 : ((g.levels.length : Int) != g.cols * g.rows) with
        | true => rw [h4] at h; cases h
        | false =>
          rw [h4] at h
          cases h5 : g.levels.any badL with
          | true => rw [h5] at h; cases h
          | false =>
            simp only [Bool.or_eq_false_iff, decide_eq_false_iff_not] at h2 h3
            have h4 : (g.levels.length : Int) = g.cols * g.rows := by simpa using h4
            refine ⟨q1, q2, q3, q4, q5, by omega, by omega, by omega, h4, fun n hn => ?_⟩
            rw [List.any_eq_false] at h5
            have := h5 n hn
            by_cases hu : n = 30000
            · exact .inl hu
            · right
              simp [badL, within, hu] at this
              omega
theorem GVal.n {g : Grid} (h : GVal g) : g.levels.length ≤ 1024 := by have := h.len; have := h.most; omega
theorem centre_good {g : Grid} (h : GVal g) {i : Nat} (hi : i < g.levels.length) : good (centreG g i) = true ∧
    centreG g i = ⟨g.x + (i : Int) % g.cols * g.side + g.side / 2, g.y + (i : Int) / g.cols * g.side + g.side / 2⟩ := by
  obtain ⟨hx, hy, hs, hc, hr, hm, hR, hT, hl, _⟩ := h
  have i0 : (0 : Int) ≤ (i : Int) := by omega
  have e1 : (i : Int).tmod g.cols = (i : Int) % g.cols := Int.tmod_eq_emod_of_nonneg i0
  have e2 : (i : Int).tdiv g.cols = (i : Int) / g.cols := Int.tdiv_eq_ediv_of_nonneg i0
  have m0 := Int.emod_nonneg (i : Int) (show g.cols ≠ 0 by omega)
  have m1 := Int.emod_lt_of_pos (i : Int) (show 0 < g.cols by omega)
  have d0 := Int.ediv_nonneg i0 (show 0 ≤ g.cols by omega)
  have d1 : (i : Int) / g.cols < g.rows := by
    apply Int.ediv_lt_of_lt_mul (by omega)
    rw [Int.mul_comm g.rows, ← hl]; omega
  have p1 : (i : Int) % g.cols * g.side ≤ (g.cols - 1) * g.side := Int.mul_le_mul_of_nonneg_right (by omega) (by omega)
  have p0 : 0 ≤ (i : Int) % g.cols * g.side := Int.mul_nonneg m0 (by omega)
  have p2 : (i : Int) / g.cols * g.side ≤ (g.rows - 1) * g.side := Int.mul_le_mul_of_nonneg_right (by omega) (by omega)
  have p3 : 0 ≤ (i : Int) / g.cols * g.side := Int.mul_nonneg d0 (by omega)
  rw [Int.sub_mul] at p1 p2
  have hh : g.side.tdiv 2 = g.side / 2 := Int.tdiv_eq_ediv_of_nonneg (by omega)
  have key : centreG g i = ⟨g.x + (i : Int) % g.cols * g.side + g.side / 2, g.y + (i : Int) / g.cols * g.side + g.side / 2⟩ := by
    unfold centreG cornerG
    simp only [e1, e2, hh]
    have lt : (i : Int) / g.cols ≤ 1024 := by omega
    rw [w64_of (n := (i : Int) % g.cols * g.side) (by omega) (by omega), w64_of (n := (i : Int) / g.cols) (by omega) (by omega), w64_of (n := (i : Int) / g.cols * g.side) (by omega) (by omega), w64_of (n := g.side / 2) (by omega) (by omega),
      w64_of (n := g.x + (i : Int) % g.cols * g.side) (by omega) (by omega), w64_of (n := g.y + (i : Int) / g.cols * g.side) (by omega) (by omega), w64_of (by omega) (by omega), w64_of (by omega) (by omega)]
  refine ⟨?_, key⟩
  rw [good_iff, key]
  simp only
  omega

abbrev gridB (g : Grid) : Box := .cells [.d (dI g.x), .d (dI g.y), .d (dI g.side), .d (dI g.cols), .d (dI g.rows), .d (dInts g.levels)]
/-- What one cell adds. -/
def payS (h : Int → Int → Int → Int) (b a : Grid) (over sum : Int) (i : Nat) (level : Int) : Int :=
  bif b.levels.getD i 0 != 30000 && a.levels.getD i 0 != 30000 then w64 (sum + w64 (w64 (b.side * b.side) * mm true 0 (h (b.levels.getD i 0) (a.levels.getD i 0) (w64 (level - over))))) else sum
abbrev payB (fh : Nat) (c : Chan) (b a : Grid) (sum : Int) : BoxL := [(1001, gridB b), (1002, gridB a), (1003, .cells [.d (dI sum)]), (1004, .cells [.d (.clo fh 0 fun _ => .junk)]), (1005, chanB c)]
end Go.Ch

namespace Go.Ch
open Go Go.Ax Go.Proofs Go.Proofs.Try
set_option maxRecDepth 100000
set_option pp.maxSteps 400
set_option maxHeartbeats 1000000

theorem errG_val {g : Grid} (h : GVal g) : g.levels.length ≤ 9223372036854775807 := by have := h.n; omega
abbrev rIE (n e : Int) : AV := .t [.s (.d (dI n)), .s (.d (dI e))]
theorem alike_len {a b : Grid} (ha : GVal a) (hb : GVal b) (h : alike a b = true) : b.levels.length = a.levels.length := by
  unfold alike at h
  simp only [Bool.and_eq_true, beq_iff_eq] at h
  have h1 := ha.len
  have h2 := hb.len
  rw [h.1.2, h.2] at h1
  omega
theorem withErr2_zero {c : Chan} {a b : Grid} (h : withErr c [a, b] = 0) : errC c = 0 ∧ errG a = 0 ∧ errG b = 0 ∧ alike a b = true := by
  rw [withErr2] at h
  cases h1 : errC c != 0 with
  | true => rw [h1] at h; simp at h1; exact absurd h h1
  | false =>
    cases h2 : errG a != 0 with
    | true => rw [h1, h2] at h; simp at h2; exact absurd h h2
    | false =>
      cases h3 : errG b != 0 with
      | true => rw [h1, h2, h3] at h; simp at h3; exact absurd h h3
      | false =>
        cases h4 : alike a b with
        | false => rw [h1, h2, h3, h4] at h; cases h
        | true => simp at h1 h2 h3; exact ⟨h1, h2, h3, rfl⟩
def paidH (x y z : Int) : Int := w64 (x - mm true y z)
def overH (x y z : Int) : Int := w64 (mm false x z - y)
end Go.Ch

namespace Go.Ch
open Go Go.Ax Go.Proofs Go.Proofs.Try
set_option maxRecDepth 100000
set_option pp.maxSteps 400
set_option maxHeartbeats 1000000

theorem catF0 {f g : Nat → Nat → DV} : catF 0 f g = g := by
  funext i j
  unfold catF
  rw [if_neg (Nat.not_lt_zero i), Nat.sub_zero]
theorem rowSet_self {f : Nat → Nat → DV} {i : Nat} {x : DV} : rowSet f i 0 [.d x] i 0 = x := by
  unfold rowSet; rw [if_pos rfl]; rfl
theorem rowSet_ne {f : Nat → Nat → DV} {i k j : Nat} {cs : List SV} (h : k ≠ i) : rowSet f i 0 cs k j = f k j := by
  unfold rowSet; rw [if_neg h]
end Go.Ch

namespace Go.Ch
open Go Go.Ax Go.Proofs Go.Proofs.Try
set_option maxRecDepth 100000
set_option pp.maxSteps 400
set_option maxHeartbeats 1000000

structure PrtOk (c : Chan) (x : Prt) : Prop where
  off : 0 ≤ x.offset ∧ x.offset ≤ 8000000000000
  half : 1 ≤ x.half ∧ x.half ≤ 100000
  bottom : c.over - 20000 ≤ x.bottom ∧ x.bottom ≤ 20000
  run : 0 ≤ x.run ∧ x.run ≤ 1000
theorem legP_some {a b : Ap} {p : Pt} {x : Prt} (h : legP a b p = some x) : 0 ≤ dotE a.pt b.pt p ∧ dotE a.pt b.pt p ≤ dotE a.pt b.pt b.pt ∧ x = partE a b p := by
  unfold legP at h
  cases hb : (decide (dotE a.pt b.pt p < 0) || decide (dotE a.pt b.pt p > dotE a.pt b.pt b.pt)) with
  | true => rw [hb] at h; cases h
  | false =>
    rw [hb] at h
    simp only [Bool.or_eq_false_iff, decide_eq_false_iff_not] at hb
    simp only [cond_false, Option.some.injEq] at h
    exact ⟨by omega, by omega, h.symm⟩
theorem bendP_some {a q b : Ap} {p : Pt} {x : Prt} (h : bendP a q b p = some x) : x = ⟨span q.pt p, q.half, q.level, q.run⟩ := by
  unfold bendP at h
  cases hb : (decide (dotE a.pt q.pt p ≤ dotE a.pt q.pt q.pt) || decide (dotE q.pt b.pt p ≥ 0)) with
  | true => rw [hb] at h; cases h
  | false => rw [hb] at h; simp only [cond_false, Option.some.injEq] at h; exact h.symm
end Go.Ch

namespace Go.Ch
open Go Go.Ax Go.Proofs Go.Proofs.Try
set_option maxRecDepth 100000
set_option pp.maxSteps 400
set_option maxHeartbeats 1000000

abbrev uI (x : Int) : AV := .s (.d (.val (.int .u64 x)))
abbrev duI (x : Int) : DV := .val (.int .u64 x)
theorem u64_of {n : Int} (h : 0 ≤ n) (k : n ≤ 18446744073709551615) : IntKind.u64.wrap n = n := by
  rw [IntKind.wrap_u64]; omega
theorem andM {y : Int} (h : 0 ≤ y) (k : y < 4294967296) : andI .u64 y 4294967295 = y := by
  obtain ⟨n, rfl⟩ := Int.eq_ofNat_of_zero_le h
  have hn : n < 4294967296 := by omega
  unfold andI
  have e : (BitVec.ofInt IntKind.u64.bits (n : Int) &&& BitVec.ofInt IntKind.u64.bits 4294967295).toNat = n := by
    show (BitVec.ofInt 64 (n : Int) &&& BitVec.ofInt 64 4294967295).toNat = n
    rw [BitVec.toNat_and, show (BitVec.ofInt 64 4294967295).toNat = 2 ^ 32 - 1 from rfl, Nat.and_two_pow_sub_one_eq_mod, BitVec.toNat_ofInt]
    omega
  rw [e]
  exact u64_of (by omega) (by omega)
theorem shr0 {y : Int} (h : 0 ≤ y) (k : y < 4294967296) : shrI .u64 y 32 = 0 := by
  show y.fdiv 4294967296 = 0
  rw [Int.fdiv_eq_ediv_of_nonneg _ (by omega)]
  omega
/-- The row while it is filled. -/
def fillF (v : Int) (k : Nat) : Nat → Nat → DV := fun i _ => if i < k then dI v else dI 0
theorem cpF_fill {v : Int} {k q : Nat} {i j : Nat} (hq : q ≤ k) : cpF k q (fillF v k) (fun i => fillF v k (0 + i)) i j = fillF v (k + q) i j := by
  unfold cpF
  show (if k ≤ i ∧ i < k + q then (if 0 + (i - k) < k then dI v else dI 0) else (if i < k then dI v else dI 0)) = (if i < k + q then dI v else dI 0)
  by_cases h1 : k ≤ i ∧ i < k + q
  · rw [if_pos h1, if_pos (by omega), if_pos (by omega)]
  · rw [if_neg h1]
    by_cases h2 : i < k
    · rw [if_pos h2, if_pos (by omega)]
    · rw [if_neg h2, if_neg (by omega)]
end Go.Ch

namespace Go.Ch
open Go Go.Ax Go.Proofs Go.Proofs.Try
set_option maxRecDepth 100000
set_option pp.maxSteps 400
set_option maxHeartbeats 1000000

def smallH (c : Chan) : Bool :=
  (((decide ((c.name.size : Int) > 40) || (decide ((c.axis.length : Int) > 6) && decide ((c.axis.length : Int) ≤ 20))) || decide ((c.axis.length : Int) > 25)) || (decide ((c.regions.length : Int) > 4) && decide ((c.regions.length : Int) ≤ 20))) || decide ((c.regions.length : Int) > 25)
def smallR (r : Reg) : Bool := ((decide ((r.corners.length : Int) > 8) && decide ((r.corners.length : Int) ≤ 40)) || decide ((r.corners.length : Int) > 45)) || decide ((r.name.size : Int) > 40)
def small (c : Chan) : Bool := !smallH c && !c.regions.any smallR
structure Sm (c : Chan) : Prop where
  axis : c.axis.length ≤ 25
  regions : c.regions.length ≤ 25
  corners : ∀ i, i < c.regions.length → (c.regions.getD i default).corners.length ≤ 45
theorem Sm.of {c : Chan} (h : small c = true) : Sm c := by
  unfold small at h
  simp only [Bool.and_eq_true, Bool.not_eq_true'] at h
  obtain ⟨h1, h2⟩ := h
  unfold smallH at h1
  simp only [Bool.or_eq_false_iff, decide_eq_false_iff_not] at h1
  refine ⟨by omega, by omega, fun i hi => ?_⟩
  rw [List.any_eq_false] at h2
  have := h2 _ (List.getElem_mem hi)
  rw [getD_of hi]
  unfold smallR at this
  simp at this
  omega
theorem el_sub {α : Type} [Inhabited α] {l : List α} {s : Nat} {el : α → Nat → DV} : RowIs s (0 + l.length) (catF 0 (rowF s []) fun i => el (l.getD i default)) el l := by
  rw [Nat.zero_add, catF0]; exact RowIs.refl
end Go.Ch

namespace Go.Ch
open Go Go.Ax Go.Proofs Go.Proofs.Try
set_option maxRecDepth 100000
set_option pp.maxSteps 400
set_option maxHeartbeats 1000000

def mainS : ByteArray := ⟨#[77, 97, 105, 110]⟩
def straightC : Chan := ⟨mainS, [⟨0, 0, 1000, -1000, 4⟩, ⟨10000, 0, 1000, -1000, 4⟩], 30, 0, []⟩
def stripG (n : Int) : Grid := ⟨0, -250, 500, 20, 1, List.replicate 20 n⟩
theorem intRow {l : List Int} : RowIs 1 (bif l.isEmpty then 0 else l.length) (intEl l) (fun x _ => dI x) l := ⟨bif_len l, fun _ _ _ _ => rfl⟩
theorem straight_ok : straightC.ok := by
  refine ⟨by decide, by decide, ?_, by decide, by decide, by decide, by intro a ha; cases ha⟩
  intro a ha
  simp only [straightC, List.mem_cons, List.not_mem_nil, or_false] at ha
  rcases ha with rfl | rfl
  · exact ⟨by decide, by decide, by decide, by decide, by decide⟩
  · exact ⟨by decide, by decide, by decide, by decide, by decide⟩
theorem strip_ok {n : Int} (h : i64ok n) : (stripG n).ok := by
  refine ⟨show i64ok 0 by decide, show i64ok (-250) by decide, show i64ok 500 by decide, show i64ok 20 by decide, show i64ok 1 by decide, by simp [stripG], ?_⟩
  intro a ha
  have := List.eq_of_mem_replicate ha
  subst this; exact h
end Go.Ch

namespace Go.Ch
open Go Go.Ax Go.Proofs Go.Proofs.Try
set_option maxRecDepth 100000
set_option pp.maxSteps 400
set_option maxHeartbeats 1000000

/-- Where a place lies along a line, rounded down. -/
def alongV (a b p : Pt) : Int := dotE a b p / span a b
theorem alongV_le {a b p : Pt} (ha : good a = true) (hb : good b = true) (hp : good p = true) (hd : 0 ≤ dotE a b p) : 0 ≤ alongV a b p ∧ alongV a b p ≤ 8000000000000 := by
  obtain ⟨_, _, h3⟩ := dot_eq ha hb hp
  have hs := (span_bound ha hb).1
  unfold alongV
  exact ⟨Int.ediv_nonneg hd hs, Int.le_trans (Int.ediv_le_self _ hd) h3⟩
def spanC (c : Chan) (k : Nat) : Int := span (axis c k).pt (axis c (k + 1)).pt
def lenF (c : Chan) : Nat → Int
  | 0 => 0
  | k + 1 => lenF c k + spanC c k
theorem lenF_le {c : Chan} (hv : Val c) : ∀ k, k < c.axis.length → 0 ≤ lenF c k ∧ lenF c k ≤ 3000000 * k
  | 0, _ => by simp [lenF]
  | k + 1, h => by
    have h1 := lenF_le hv k (by omega)
    have h2 : 0 ≤ span (axis c k).pt (axis c (k + 1)).pt ∧ span (axis c k).pt (axis c (k + 1)).pt ≤ 3000000 := span_bound (hv.pts k (by omega)) (hv.pts (k + 1) h)
    rw [lenF]; unfold spanC; omega
/-- The first of some tries that gives something. -/
def first {α : Type} (f : Nat → Option α) : Nat → Option α
  | 0 => none
  | n + 1 => (first f n).or (f n)
theorem first_some {α : Type} {f : Nat → Option α} {x : α} {i : Nat} (h : first f i = some x) : ∀ k, first f (i + k) = some x
  | 0 => h
  | k + 1 => by rw [← Nat.add_assoc, first, first_some h k]; rfl
theorem first_hit {α : Type} {f : Nat → Option α} {x : α} {i n : Nat} (h : first f i = none) (hx : f i = some x) (hn : i < n) : first f n = some x := by
  have h1 : first f (i + 1) = some x := by rw [first, h, hx]; rfl
  have := first_some h1 (n - (i + 1))
  rwa [show i + 1 + (n - (i + 1)) = n by omega] at this
theorem first_miss {α : Type} {f : Nat → Option α} {i : Nat} (h : first f i = none) (hx : f i = none) : first f (i + 1) = none := by rw [first, h, hx]; rfl
theorem first_shift {α : Type} {f g : Nat → Option α} (h0 : f 0 = none) (h : ∀ j, f (j + 1) = g j) : ∀ n, first f (n + 1) = first g n
  | 0 => by rw [first, first, h0]; rfl
  | n + 1 => by rw [first, first_shift h0 h n, h]; rfl

def onL (c : Chan) (p : Pt) (k : Nat) : Option (Int × Int) := (legF c k p).map fun x => (lenF c k + alongV (axis c k).pt (axis c (k + 1)).pt p, x.offset)
def onB (c : Chan) (p : Pt) (j : Nat) : Option (Int × Int) := (bendN c j p).map fun x => (lenF c (j + 1), x.offset)
def onR (c : Chan) (p : Pt) (k : Nat) : Option (Int × Int) := (bendR c k p).map fun x => (lenF c k, x.offset)
def alongF (c : Chan) (p : Pt) : Option (Int × Int) := (first (onL c p) (c.axis.length - 1)).or (first (onB c p) (c.axis.length - 2))
theorem onR_first (c : Chan) (p : Pt) (h : 2 ≤ c.axis.length) : first (onR c p) (c.axis.length - 1) = first (onB c p) (c.axis.length - 2) := by
  have := first_shift (f := onR c p) (g := onB c p) rfl (fun _ => rfl) (c.axis.length - 2)
  rwa [show c.axis.length - 2 + 1 = c.axis.length - 1 by omega] at this
def oII (o : Option (Int × Int)) : Int × Int := o.getD (0, 0)
theorem legF_dot {c : Chan} {k : Nat} {p : Pt} (h : (legF c k p).isSome = true) : 0 ≤ dotE (axis c k).pt (axis c (k + 1)).pt p := by
  unfold legF legP at h
  cases h' : (decide (dotE (c.axis.getD k default).pt (c.axis.getD (k + 1) default).pt p < 0) || decide (dotE (c.axis.getD k default).pt (c.axis.getD (k + 1) default).pt p > dotE (c.axis.getD k default).pt (c.axis.getD (k + 1) default).pt (c.axis.getD (k + 1) default).pt))
  · simp only [Bool.or_eq_false_iff, decide_eq_false_iff_not] at h'
    show 0 ≤ dotE (c.axis.getD k default).pt (c.axis.getD (k + 1) default).pt p
    omega
  · rw [h'] at h; cases h
theorem onL_some {c : Chan} {p : Pt} {k : Nat} (h : (legF c k p).isSome = true) : onL c p k = some (lenF c k + alongV (axis c k).pt (axis c (k + 1)).pt p, (oPrt (legF c k p)).offset) := by
  obtain ⟨x, hx⟩ := Option.isSome_iff_exists.1 h
  unfold onL; rw [hx]; rfl
theorem onB_some {c : Chan} {p : Pt} {k : Nat} (h : (bendN c k p).isSome = true) : onB c p k = some (lenF c (k + 1), (oPrt (bendN c k p)).offset) := by
  obtain ⟨x, hx⟩ := Option.isSome_iff_exists.1 h
  unfold onB; rw [hx]; rfl
theorem onR_some {c : Chan} {p : Pt} {k : Nat} (h : (bendR c k p).isSome = true) : onR c p k = some (lenF c k, (oPrt (bendR c k p)).offset) := by
  obtain ⟨x, hx⟩ := Option.isSome_iff_exists.1 h
  unfold onR; rw [hx]; rfl
theorem map_none {α β : Type} {o : Option α} {f : α → β} (h : o.isSome = false) : o.map f = none := by
  cases o with
  | none => rfl
  | some x => cases h
abbrev rIII (a b e : Int) : AV := .t [.s (.d (dI a)), .s (.d (dI b)), .s (.d (dI e))]
def alongR (c : Chan) (p : Pt) : Int × Int × Int := bif errC c != 0 then (0, 0, errC c) else bif !good p then (0, 0, 2) else ((oII (alongF c p)).1, (oII (alongF c p)).2, bif (alongF c p).isSome then 0 else 11)
abbrev rIIB (a b : Int) (e : Bool) : AV := .t [.s (.d (dI a)), .s (.d (dI b)), .s (.d (.val (.bool e)))]
end Go.Ch

namespace Go.Ch
open Go Go.Ax Go.Proofs Go.Proofs.Try
set_option maxRecDepth 100000
set_option pp.maxSteps 400
set_option maxHeartbeats 1000000

theorem first_none {α : Type} {f : Nat → Option α} : ∀ {n : Nat}, first f n = none → ∀ k, k < n → f k = none
  | 0, _, k, hk => absurd hk (Nat.not_lt_zero k)
  | n + 1, h, k, hk => by
    rw [first, Option.or_eq_none_iff] at h
    rcases Nat.lt_or_ge k n with h' | h'
    · exact first_none h.1 k h'
    · obtain rfl : k = n := by omega
      exact h.2
end Go.Ch

namespace Go.Ch
open Go Go.Ax Go.Proofs Go.Proofs.Try
set_option maxRecDepth 100000
set_option pp.maxSteps 400
set_option maxHeartbeats 1000000

abbrev prtA (x : Prt) : AV := .g (prtS x)
def onBot (x : Prt) : Bool := decide (x.offset ≤ x.half)
def botF (c : Chan) (p : Pt) : Bool := (partsL c p).any onBot
theorem parts_len (c : Chan) (p : Pt) : (partsL c p).length ≤ 2 * c.axis.length := by
  unfold partsL legsL bendsL
  rw [List.length_append]
  have h1 := List.length_filterMap_le (fun k => legF c k p) (List.range (c.axis.length - 1))
  have h2 := List.length_filterMap_le (fun k => bendN c k p) (List.range (c.axis.length - 2))
  rw [List.length_range] at h1 h2
  omega
theorem botF_holds (c : Chan) (p : Pt) (h2 : 2 ≤ c.axis.length) : (holdsL c p (c.axis.length - 1)).any onBot = botF c p := by
  unfold botF
  rw [Bool.eq_iff_iff, List.any_eq_true, List.any_eq_true]
  exact ⟨fun ⟨x, hx, h⟩ => ⟨x, (parts_holds c p h2 x).2 hx, h⟩, fun ⟨x, hx, h⟩ => ⟨x, (parts_holds c p h2 x).1 hx, h⟩⟩
def lv (g : Grid) (k : Int) : Int := g.levels.getD k.toNat 0
def botI (c : Chan) (g : Grid) (i : Nat) : Bool := botF c (centreG g i)
def stepC (g : Grid) (r : Int × Bool) (i : Nat) : Int × Bool := (bif decide (r.1 < 0) || decide (lv g i > lv g r.1) then (i : Int) else r.1, r.2 || lv g i == 30000)
def contF (c : Chan) (g : Grid) : Nat → Int × Bool
  | 0 => (-1, false)
  | i + 1 => bif !botI c g i then contF c g i else stepC g (contF c g i) i
def ctlR (c : Chan) (g : Grid) : Int × Int := bif withErr c [g] != 0 then (0, withErr c [g]) else bif decide ((contF c g g.levels.length).1 < 0) then (0, 11) else bif (contF c g g.levels.length).2 then (0, 12) else ((contF c g g.levels.length).1, 0)
theorem withErr1_zero {c : Chan} {g : Grid} (h : withErr c [g] = 0) : errC c = 0 ∧ errG g = 0 := by
  rw [withErr1] at h
  cases h1 : errC c != 0 with
  | true => rw [h1] at h; simp at h1; exact absurd h h1
  | false => rw [h1] at h; exact ⟨by simpa using h1, h⟩
theorem contF_in (c : Chan) (g : Grid) : ∀ i, -1 ≤ (contF c g i).1 ∧ (contF c g i).1 < i
  | 0 => by simp [contF]
  | i + 1 => by
    have ih := contF_in c g i
    rw [contF]
    cases h : botI c g i with
    | false => simp only [Bool.not_false, cond_true]; omega
    | true =>
      simp only [Bool.not_true, cond_false]
      unfold stepC
      cases h2 : decide ((contF c g i).1 < 0) || decide (lv g i > lv g (contF c g i).1) with
      | true => simp only [cond_true]; omega
      | false => simp only [cond_false]; omega
end Go.Ch

namespace Go.Ch
open Go Go.Ax Go.Proofs Go.Proofs.Try
set_option maxRecDepth 100000
set_option pp.maxSteps 400
set_option maxHeartbeats 1000000

def knownF (g : Grid) (k : Int) : Bool := (decide (k ≥ 0) && decide (k < g.levels.length)) && lv g k != 30000
def hiStep (g : Grid) (b k : Int) : Int := bif knownF g k && ((decide (b < 0) || decide (lv g k > lv g b)) || (lv g k == lv g b && decide (k < b))) then k else b
def hiF (g : Grid) (l : List Int) : Int := l.foldl (hiStep g) (-1)
theorem hiF_take {g : Grid} {l : List Int} {i : Nat} (h : i < l.length) : hiF g (l.take (i + 1)) = hiStep g (hiF g (l.take i)) (l.getD i 0) := by
  unfold hiF
  rw [List.take_add_one, List.getElem?_eq_getElem h, List.foldl_append]
  have e : l.getD i 0 = l[i] := by simp [List.getD_eq_getElem?_getD, h]
  rw [e]; rfl
def botsL (c : Chan) (g : Grid) (i : Nat) : List Int := (List.range i).filterMap fun k => bif botI c g k then some (k : Int) else none
theorem botsL_succ (c : Chan) (g : Grid) (i : Nat) : botsL c g (i + 1) = bif botI c g i then botsL c g i ++ [(i : Int)] else botsL c g i := by
  unfold botsL
  rw [filterMap_range_succ]
  cases botI c g i <;> simp
theorem botsL_len (c : Chan) (g : Grid) (i : Nat) : (botsL c g i).length ≤ i := by
  have := List.length_filterMap_le (fun k => bif botI c g k then some (k : Int) else none) (List.range i)
  rw [List.length_range] at this
  exact this
theorem botsL_mem {c : Chan} {g : Grid} {i : Nat} {k : Int} (h : k ∈ botsL c g i) : 0 ≤ k ∧ k < i := by
  unfold botsL at h
  simp only [List.mem_filterMap, List.mem_range] at h
  obtain ⟨j, hj, h⟩ := h
  cases h2 : botI c g j with
  | false => rw [h2] at h; cases h
  | true => rw [h2] at h; simp at h; omega
def flF (c : Chan) (g : Grid) (i : Nat) : Nat → Nat → DV := fun k _ => dI (if k < i ∧ botI c g k = false then 30000 else g.levels.getD k 0)
def floorG (c : Chan) (g : Grid) : Grid := { g with levels := (List.range g.levels.length).map fun k => if botI c g k = false then 30000 else g.levels.getD k 0 }
end Go.Ch

namespace Go.Ch
open Go Go.Ax Go.Proofs Go.Proofs.Try
set_option maxRecDepth 100000
set_option pp.maxSteps 400
set_option maxHeartbeats 1000000

def unkB (g : Grid) (k : Int) : Bool := lv g k == 30000
def rCtlR (c : Chan) (g : Grid) : Int × Int := bif (botsL c g g.levels.length).isEmpty then (0, 11) else bif (botsL c g g.levels.length).any (unkB g) then (0, 12) else (hiF g (botsL c g g.levels.length), 0)
theorem cont_bots (c : Chan) (g : Grid) : ∀ i, i ≤ g.levels.length → decide ((contF c g i).1 < 0) = (botsL c g i).isEmpty ∧ (contF c g i).2 = (botsL c g i).any (unkB g) ∧ ((contF c g i).2 = false → hiF g (botsL c g i) = (contF c g i).1)
  | 0, _ => ⟨rfl, rfl, fun _ => rfl⟩
  | i + 1, hi => by
    obtain ⟨h1, h2, h3⟩ := cont_bots c g i (by omega)
    have hin := contF_in c g i
    rw [contF, botsL_succ]
    cases hb : botI c g i with
    | false => exact ⟨h1, h2, h3⟩
    | true =>
      simp only [Bool.not_true, cond_false, cond_true]
      refine ⟨?_, ?_, fun h => ?_⟩
      · rw [isEmpty_snoc]
        unfold stepC
        cases hs : decide ((contF c g i).1 < 0) || decide (lv g i > lv g (contF c g i).1) with
        | true => simp only [cond_true, decide_eq_false_iff_not]; omega
        | false =>
          simp only [Bool.or_eq_false_iff, decide_eq_false_iff_not] at hs
          simp only [cond_false, decide_eq_false_iff_not]; exact hs.1
      · unfold stepC
        rw [List.any_append, h2]
        simp [unkB]
      · unfold stepC at h ⊢
        simp only [Bool.or_eq_false_iff] at h
        have h3 := h3 h.1
        unfold hiF at h3 ⊢
        rw [List.foldl_append, h3]
        show hiStep g (contF c g i).1 i = _
        have hk : knownF g (i : Int) = true := by
          unfold knownF
          have : (lv g (i : Int) != 30000) = true := by simpa using h.2
          rw [this, decide_eq_true (show (i : Int) ≥ 0 by omega), decide_eq_true (show (i : Int) < g.levels.length by omega)]; rfl
        have hlt : decide ((i : Int) < (contF c g i).1) = false := decide_eq_false (by omega)
        unfold hiStep
        rw [hk, hlt, Bool.and_false, Bool.or_false, Bool.true_and]
theorem ctl_eq (c : Chan) (g : Grid) (h : withErr c [g] = 0) : ctlR c g = rCtlR c g := by
  obtain ⟨h1, h2, h3⟩ := cont_bots c g _ (Nat.le_refl _)
  unfold ctlR rCtlR
  rw [h, ← h1, ← h2]
  cases hb : (contF c g g.levels.length).2 with
  | true => rfl
  | false => rw [h3 hb]; rfl
end Go.Ch

namespace Go.Ch
open Go Go.Ax Go.Proofs Go.Proofs.Try
set_option maxRecDepth 100000
set_option pp.maxSteps 400
set_option maxHeartbeats 1000000

/-- What one cell has to lose. -/
def needS (g : Grid) (sum : Int) (i : Nat) (level : Int) : Int :=
  bif g.levels.getD i 0 != 30000 then w64 (sum + w64 (w64 (g.side * g.side) * mm true 0 (w64 (g.levels.getD i 0 - level)))) else sum
abbrev needB (g : Grid) (sum : Int) : BoxL := [(1001, gridB g), (1002, .cells [.d (dI sum)])]
def openB (g : Grid) : List Int → BoxL
  | [] => [(1001, gridB g), (1002, .cells [.d (.val (.slice none 0 0))])]
  | x :: r => [(1001, gridB g), (1002, .cells [.own 1003]), (1003, .row 3 (x :: r).length 1 (intEl (x :: r)))]
def openHit (g : Grid) (i : Nat) (level : Int) : Bool := g.levels.getD i 0 != 30000 && decide (g.levels.getD i 0 > level)
end Go.Ch

namespace Go.Ch
open Go Go.Ax Go.Proofs Go.Proofs.Try
set_option maxRecDepth 100000
set_option pp.maxSteps 400
set_option maxHeartbeats 1000000

abbrev rGE (g : Grid) (e : Int) : AV := .t [.g [.d (dI g.x), .d (dI g.y), .d (dI g.side), .d (dI g.cols), .d (dI g.rows), .d (dInts g.levels)], .s (.d (dI e))]
def zeroG : Grid := ⟨0, 0, 0, 0, 0, []⟩
theorem zero_rGE {e e' : Int} (h : e = e') : SubR (.t [.g (zvs ty27.zero), .s (.d (dI e))]) (rGE zeroG e') := by
  subst h
  exact SubR.t ⟨⟨LeD.refl _, LeD.refl _, LeD.refl _, LeD.refl _, LeD.refl _, LeD.nil, trivial⟩, LeD.refl _, trivial⟩
end Go.Ch

namespace Go.Ch
open Go Go.Ax Go.Proofs Go.Proofs.Try
set_option maxRecDepth 100000
set_option pp.maxSteps 400
set_option maxHeartbeats 1000000

theorem snoc_cons {α : Type} : ∀ (l : List α) (x : α), ∃ y r, l ++ [x] = y :: r
  | [], x => ⟨x, [], rfl⟩
  | y :: r, x => ⟨y, r ++ [x], rfl⟩
abbrev rIntsE (l : List Int) (e : Int) : AV := .t [.s (.d (dInts l)), .s (.d (dI e))]
end Go.Ch

namespace Go.Ch
open Go Go.Ax Go.Proofs Go.Proofs.Try
set_option maxRecDepth 100000
set_option pp.maxSteps 400
set_option maxHeartbeats 1000000

def excS (g d : Grid) (sum : Int) (i : Nat) : Int :=
  bif d.levels.getD i 0 != 30000 && g.levels.getD i 0 != 30000 then w64 (sum + w64 (w64 (g.side * g.side) * mm true 0 (w64 (g.levels.getD i 0 - d.levels.getD i 0)))) else sum
def excF (g d : Grid) : Nat → Int
  | 0 => 0
  | i + 1 => excS g d (excF g d i) i
end Go.Ch

namespace Go.Ch
open Go Go.Ax Go.Proofs Go.Proofs.Try
set_option maxRecDepth 100000
set_option pp.maxSteps 400
set_option maxHeartbeats 1000000

theorem errG_levels {g : Grid} {l : List Int} (h : errG g = 0) (hn : l.length = g.levels.length) (hb : l.any badL = false) : errG { g with levels := l } = 0 := by
  unfold errG at h ⊢
  rw [show e1 { g with levels := l } = e1 g from rfl]
  cases h1 : e1 g with
  | true => rw [h1] at h; cases h
  | false =>
    rw [h1] at h
    simp only [cond_false, hn, hb] at h ⊢
    cases h2 : decide (w64 (g.cols * g.rows) > 1024) with
    | true => rw [h2] at h; cases h
    | false =>
      rw [h2] at h
      simp only [cond_false] at h ⊢
      cases h3 : (decide (w64 (g.x + w64 (g.cols * g.side)) > 1000000) || decide (w64 (g.y + w64 (g.rows * g.side)) > 1000000)) with
      | true => rw [h3] at h; cases h
      | false =>
        rw [h3] at h
        simp only [cond_false] at h ⊢
        cases h4 : ((g.levels.length : Int) != w64 (g.cols * g.rows)) with
        | true => rw [h4] at h; cases h
        | false => rfl
theorem few_len {g : Grid} (h : few g = true) : g.levels.length ≤ 1100 := by
  unfold few at h
  simp only [Bool.or_eq_true, Bool.and_eq_true, decide_eq_true_eq] at h
  omega
end Go.Ch

namespace Go.Ch
open Go Go.Ax Go.Proofs Go.Proofs.Try
set_option maxRecDepth 100000
set_option pp.maxSteps 400
set_option maxHeartbeats 1000000

theorem bknown (g : Grid) (i : Nat) (hi : i < g.levels.length) (hl : g.levels.length ≤ 1000000) : CallP Try.prog 19 [grid g, vI i] (vB (g.levels.getD i 0 != 30000)) := by
  refine callP_of_ex (rc := []) (N := 20) Try.func19 rfl rfl Try.call19 tab_ok mix rfl rfl (fun cx _ => ?_)
  refine callN ((bbetween 0 (w64 ((g.levels.length : Int) - 1)) [(i : Int)] (by simp)).conv (args' := _) ⟨LeD.refl _, LeD.refl _, LeD.slc fun i j hi hj => ?_, trivial⟩) ?_
  · obtain rfl : i = 0 := by have : i < 1 := hi; omega
    obtain rfl : j = 0 := by have : j < 1 := hj; omega
    exact LeD.of_eq rfl
  repeat first | refine sk ?_ | refine st ?_ | refine sg ?_ | refine sh ?_ | refine su ?_ | refine sn1 ?_ | refine sn0 ?_
  refine og (fun _ => ⟨by omega, by omega⟩) ?_
  repeat first | refine sk ?_ | refine st ?_ | refine sg ?_ | refine sh ?_ | refine su ?_ | refine sn1 ?_ | refine sn0 ?_
  refine SubR.of_eq ?_
  show vB ((!outL 0 (w64 ((g.levels.length : Int) - 1)) [(i : Int)]) && (g.levels.getD i 0 != 30000)) = _
  have e : outL 0 (w64 ((g.levels.length : Int) - 1)) [(i : Int)] = false := by
    rw [w64_of (by omega) (by omega)]
    simp [outL, within]
    omega
  rw [e]; rfl
def partV (lo hi a b : Int) : Int := mm true 0 (w64 (mm false b hi - mm true a lo))
def sameC (a b : Grid) : Bool := a.x == b.x && (a.y == b.y && (a.side == b.side && (a.cols == b.cols && (a.rows == b.rows && true))))
def err2 (a b : Grid) : Int := bif errG a != 0 then errG a else bif errG b != 0 then errG b else bif !sameC a b then 10 else 0
end Go.Ch

namespace Go.Ch
open Go Go.Ax Go.Proofs Go.Proofs.Try
set_option maxRecDepth 100000
set_option pp.maxSteps 400
set_option maxHeartbeats 1000000

/-- Cut, fill and unknown cells. -/
structure Chg where
  cut : Int
  fill : Int
  unk : Int
def chS (a b : Grid) (lo hi : Int) (s : Chg) (i : Nat) : Chg :=
  bif !(a.levels.getD i 0 != 30000) || !(b.levels.getD i 0 != 30000) then ⟨s.cut, s.fill, w64 (s.unk + 1)⟩
  else ⟨w64 (s.cut + w64 (w64 (a.side * a.side) * partV lo hi (b.levels.getD i 0) (a.levels.getD i 0))), w64 (s.fill + w64 (w64 (a.side * a.side) * partV lo hi (a.levels.getD i 0) (b.levels.getD i 0))), s.unk⟩
def chF (a b : Grid) (lo hi : Int) : Nat → Chg
  | 0 => ⟨0, 0, 0⟩
  | i + 1 => chS a b lo hi (chF a b lo hi i) i
abbrev chg (s : Chg) : AV := .g [.d (dI s.cut), .d (dI s.fill), .d (dI s.unk)]
abbrev chgB (s : Chg) : Box := .cells [.d (dI s.cut), .d (dI s.fill), .d (dI s.unk)]
theorem sameC_len {a b : Grid} (ga : GVal a) (gb : GVal b) (h : sameC a b = true) : b.levels.length = a.levels.length := by
  unfold sameC at h
  simp only [Bool.and_eq_true, beq_iff_eq] at h
  have h1 := ga.len
  have h2 := gb.len
  rw [h.2.2.2.1, h.2.2.2.2.1] at h1
  omega
theorem err2_zero {a b : Grid} (h : err2 a b = 0) : errG a = 0 ∧ errG b = 0 ∧ sameC a b = true := by
  unfold err2 at h
  cases h1 : errG a != 0 with
  | true => rw [h1] at h; simp at h1; exact absurd h h1
  | false =>
    cases h2 : errG b != 0 with
    | true => rw [h1, h2] at h; simp at h2; exact absurd h h2
    | false =>
      cases h3 : sameC a b with
      | false => rw [h1, h2, h3] at h; cases h
      | true => simp at h1 h2; exact ⟨h1, h2, rfl⟩
def cmpR (a b : Grid) : Chg × Int := bif err2 a b != 0 then (⟨0, 0, 0⟩, err2 a b) else (chF a b (-20000) 20000 a.levels.length, 0)
end Go.Ch

namespace Go.Ch
open Go Go.Ax Go.Proofs Go.Proofs.Try
set_option maxRecDepth 100000
set_option pp.maxSteps 400
set_option maxHeartbeats 1000000

abbrev zeroF : Nat → Nat → DV := fun _ j => match (zvs ty3.zero)[j]? with | some c => dOf c | none => .junk
end Go.Ch

namespace Go.Ch
open Go Go.Ax Go.Proofs Go.Proofs.Try
set_option maxRecDepth 100000
set_option pp.maxSteps 400
set_option maxHeartbeats 1000000

/-- How many cells the first lists have. -/
def lensL (l : List (List Int)) : Nat → Nat
  | 0 => 0
  | i + 1 => lensL l i + (l.getD i default).length
theorem lensL_take {l : List (List Int)} : ∀ i, i ≤ l.length → lensL l i = ((l.take i).flatten).length
  | 0, _ => rfl
  | i + 1, hi => by
    have hi' : i < l.length := by omega
    rw [lensL, lensL_take i (by omega), List.take_succ_eq_append_getElem hi', List.flatten_append, List.length_append, getD_of hi']
    simp
theorem lensL_le {l : List (List Int)} : ∀ j i, i ≤ j → lensL l i ≤ lensL l j
  | 0, i, h => by obtain rfl : i = 0 := by omega
                  exact Nat.le_refl _
  | j + 1, i, h => by
    by_cases hij : i = j + 1
    · rw [hij]; exact Nat.le_refl _
    · have := lensL_le (l := l) j i (by omega)
      rw [lensL]; omega
abbrev intsEl (l : List (List Int)) : Nat → Nat → DV := fun i _ => dInts (l.getD i default)
end Go.Ch

namespace Go.Ch
open Go Go.Ax Go.Proofs Go.Proofs.Try
set_option maxRecDepth 100000
set_option pp.maxSteps 400
set_option maxHeartbeats 1000000

def idxI (l : List Int) (x : Int) : Nat → Nat → Int
  | 0, _ => -1
  | n + 1, i => bif x == l.getD i 0 then (i : Int) else idxI l x n (i + 1)
theorem idxI_mem {l : List Int} {x : Int} : ∀ n i, i + n = l.length → decide (idxI l x n i ≥ 0) = (l.drop i).contains x
  | 0, i, h => by
    rw [List.drop_eq_nil_of_le (by omega)]; rfl
  | n + 1, i, h => by
    have hi : i < l.length := by omega
    rw [idxI, List.drop_eq_getElem_cons hi]
    have e : l.getD i 0 = l[i] := by simp [hi]
    rw [e]
    cases hx : x == l[i] with
    | true =>
      simp only [cond_true, List.contains_cons, hx, Bool.true_or]
      exact decide_eq_true (by omega)
    | false =>
      simp only [cond_false, List.contains_cons, hx, Bool.false_or]
      exact idxI_mem n (i + 1) (by omega)
end Go.Ch

namespace Go.Ch
open Go Go.Ax Go.Proofs Go.Proofs.Try
set_option maxRecDepth 100000
set_option pp.maxSteps 400
set_option maxHeartbeats 1000000

end Go.Ch

namespace Go.Ch
open Go Go.Ax Go.Proofs Go.Proofs.Try
set_option maxRecDepth 100000
set_option pp.maxSteps 400
set_option maxHeartbeats 1000000

/-- The neighbours of a cell. -/
def nearL (g : Grid) (i : Int) : List Int :=
  (((bif decide (i ≥ g.cols) then [i - g.cols] else []) ++ (bif decide (i % g.cols > 0) then [i - 1] else [])) ++ (bif decide (i % g.cols < g.cols - 1) then [i + 1] else [])) ++ (bif decide (i + g.cols < g.levels.length) then [i + g.cols] else [])
abbrev nearS (g : Grid) (i : Int) (l : List Int) : St := ⟨[(2, .s (.ptr 2 0)), (1, vI i), (5, .s (.mo l.isEmpty 100))], [(2, some (gridB g)), (100, some (.mrow 3 l.length 1 (intEl l)))]⟩
theorem nearRow {l : List Int} {n : Nat} {f g : Nat → Nat → DV} (h : RowIs 1 n f (fun x _ => dI x) l) {y : Int} (hy : g 0 0 = dI y) :
    LeBx (.row 3 (n + 1) 1 (catF n f g)) (.mrow 3 (l ++ [y]).length 1 (intEl (l ++ [y]))) :=
  RowIs.mrow (el := fun x _ => dI x) (RowIs.snoc h (lt1 hy))
theorem len1 {b : Bool} {x : Int} : (bif b then [x] else []).length ≤ 1 := by cases b <;> simp
theorem nearMe (g : Grid) (i : Int) (hg : GVal g) (h0 : 0 ≤ i) (hi : i < g.levels.length) : g.cols ≠ 0 ∧ i.tmod g.cols = i % g.cols ∧ w64 (g.cols - 1) = g.cols - 1 ∧ w64 (i - g.cols) = i - g.cols ∧ w64 (i + g.cols) = i + g.cols ∧ w64 (i + 1) = i + 1 ∧ w64 (i - 1) = i - 1 := by
  have hn := hg.n
  have hc := hg.cols
  have hm := Int.emod_lt_of_pos i (show 0 < g.cols by omega)
  have hp := Int.emod_nonneg i (show g.cols ≠ 0 by omega)
  refine ⟨by omega, ?_, w64_of (by omega) (by omega), w64_of (by omega) (by omega), w64_of (by omega) (by omega), w64_of (by omega) (by omega), w64_of (by omega) (by omega)⟩
  exact Int.tmod_eq_emod_of_nonneg h0
end Go.Ch

namespace Go.Ch
open Go Go.Ax Go.Proofs Go.Proofs.Try
set_option maxRecDepth 100000
set_option pp.maxSteps 400
set_option maxHeartbeats 1000000

def there (g : Grid) (i : Int) : Bool := within i 0 ((g.levels.length : Int) - 1)
def levelAt (g : Grid) (i : Int) : Int := g.levels.getD i.toNat 0
def knownG (g : Grid) (i : Int) : Bool := there g i && levelAt g i != 30000
theorem there_iff {g : Grid} {i : Int} : there g i = true ↔ 0 ≤ i ∧ i < g.levels.length := by
  unfold there within
  simp; omega
theorem knownI (g : Grid) (i : Int) (hl : g.levels.length ≤ 1000000) : CallP Try.prog 19 [grid g, vI i] (vB (knownG g i)) := by
  refine callP_of_ex (rc := []) (N := 20) Try.func19 rfl rfl Try.call19 tab_ok mix rfl rfl (fun cx _ => ?_)
  have e : outL 0 (w64 ((g.levels.length : Int) - 1)) [i] = !there g i := by
    rw [w64_of (by omega) (by omega)]
    simp [outL, there]
  refine callN ((bbetween 0 (w64 ((g.levels.length : Int) - 1)) [i] (by simp)).conv (args' := _) ⟨LeD.refl _, LeD.refl _, LeD.slc fun i j hi hj => ?_, trivial⟩) ?_
  · obtain rfl : i = 0 := by have : i < 1 := hi; omega
    obtain rfl : j = 0 := by have : j < 1 := hj; omega
    exact LeD.of_eq rfl
  repeat first | refine sk ?_ | refine st ?_ | refine sg ?_ | refine sh ?_ | refine su ?_ | refine sn1 ?_ | refine sn0 ?_
  refine og (fun h => ?_) ?_
  · rw [e, Bool.not_not] at h
    have := there_iff.1 h
    exact ⟨by omega, by omega⟩
  repeat first | refine sk ?_ | refine st ?_ | refine sg ?_ | refine sh ?_ | refine su ?_ | refine sn1 ?_ | refine sn0 ?_
  refine SubR.of_eq ?_
  show vB ((!outL 0 (w64 ((g.levels.length : Int) - 1)) [i]) && (g.levels.getD i.toNat 0 != 30000)) = _
  rw [e, Bool.not_not]; rfl

/-- The first error of the ends of a way. -/
def endsErr (g : Grid) (l : List Int) : Int := bif l.all (there g) then 0 else 6
def endsG (g : Grid) (fr to : List Int) : Int := bif errG g != 0 then errG g else bif fr.isEmpty || to.isEmpty then 10 else endsErr g (fr ++ to)
theorem len0 {α : Type} {l : List α} : ((l.length : Int) == 0) = l.isEmpty := by
  cases l with
  | nil => rfl
  | cons a r => simp; omega
end Go.Ch

namespace Go.Ch
open Go Go.Ax Go.Proofs Go.Proofs.Try
set_option maxRecDepth 100000
set_option pp.maxSteps 400
set_option maxHeartbeats 1000000

/-- The row while it is turned round: the outer k cells on each side are done. -/
def revF (l : List Int) (k : Nat) : Nat → Nat → DV := fun i _ => dI (if i < k ∨ l.length - 1 - k < i then l.getD (l.length - 1 - i) 0 else l.getD i 0)
theorem revF_step {l : List Int} {k : Nat} (hk : 2 * k + 1 < l.length) (i : Nat) (hi : i < l.length) :
    rowSet (rowSet (revF l k) k 0 [.d (dI (l.getD (l.length - 1 - k) 0))]) (l.length - 1 - k) 0 [.d (dI (l.getD k 0))] i 0 = revF l (k + 1) i 0 := by
  by_cases h1 : i = l.length - 1 - k
  · subst h1
    rw [rowSet_self]
    unfold revF
    rw [if_pos (by omega)]
    congr 2; omega
  · rw [rowSet_ne h1]
    by_cases h2 : i = k
    · subst h2
      rw [rowSet_self]
      unfold revF
      rw [if_pos (by omega)]
    · rw [rowSet_ne h2]
      unfold revF
      by_cases h3 : i < k ∨ l.length - 1 - k < i
      · rw [if_pos h3, if_pos (by omega)]
      · rw [if_neg h3, if_neg (by omega)]
theorem revF_end {l : List Int} {i : Nat} (hi : i < l.length) : revF l (l.length / 2) i 0 = intEl l.reverse i 0 := by
  unfold revF
  show dI _ = dI (l.reverse.getD i 0)
  simp only [List.getD_eq_getElem?_getD]
  rw [List.getElem?_reverse hi]
  by_cases h : i < l.length / 2 ∨ l.length - 1 - l.length / 2 < i
  · rw [if_pos h]
  · rw [if_neg h, show l.length - 1 - i = i by omega]
end Go.Ch

/- geometry: Check, points in lists, apart. -/
namespace Go.Ch
open Go Go.Ax Go.Proofs Go.Proofs.Try Go.Hull
set_option maxRecDepth 100000
set_option pp.maxSteps 400
set_option maxHeartbeats 1000000

def errPts (l : List Pt) : Int := bif decide ((l.length : Int) > 64) then 8 else bif l.any (fun p => !good p) then 2 else 0
theorem gCheck (l : List Pt) (hl : l.length ≤ 9223372036854775807) : CallP Try.prog 48 [pts l] (vI (errPts l)) := by
  refine callP_of_ex (rc := []) (N := 8) Try.func48 rfl rfl Try.call48 tab_ok mix rfl rfl (fun cx href => ?_)
  refine And.intro (fun h => ?_) (fun h => ?_)
  · have h : decide ((l.length : Int) > 64) = true := h
    exact SubR.of_eq (by unfold errPts; rw [h]; rfl)
  have h : decide ((l.length : Int) > 64) = false := h
  refine callN (goutside l hl) ?_
  refine And.intro (fun h2 => ?_) (fun h2 => ?_)
  · have h2 : (l.any fun p => !good p) = true := h2
    exact SubR.of_eq (by unfold errPts; rw [h, h2]; rfl)
  · have h2 : (l.any fun p => !good p) = false := h2
    exact SubR.of_eq (by unfold errPts; rw [h, h2]; rfl)
def idxP (l : List Pt) (x : Pt) : Nat → Nat → Int
  | 0, _ => -1
  | n + 1, i => bif x == l.getD i default then (i : Int) else idxP l x n (i + 1)
theorem pt_beq (x y : Pt) : ((x.x == y.x) && ((x.y == y.y) && true)) = (x == y) := by
  rw [Bool.eq_iff_iff, beq_iff_eq]
  cases x; cases y
  simp
theorem IndexP (l : List Pt) (x : Pt) (hl : l.length ≤ 1000000) : CallP Try.prog 58 [pts l, pt x] (vI (idxP l x l.length 0)) := by
  refine callP_of_ex (rc := []) (N := 19) Try.func58 rfl rfl Try.call58 tab_ok mix rfl rfl (fun cx href => ?_)
  refine AW.loopI (fun i : Nat => ⟨[(0, pts l), (3, .s (.ptr 3 0)), (7, vI l.length), (8, vI i)], [(3, some (.cells [.d (dI x.x), .d (dI x.y)]))]⟩) (fun i => i ≤ l.length ∧ idxP l x l.length 0 = idxP l x (l.length - i) i) (fun i => l.length - i) 0 ⟨Nat.zero_le _, rfl⟩ ?_ ?_
  · exact SubI.of0 href [] rfl ⟨⟨rfl, LeBx.rfl⟩, trivial⟩ ⟨⟨rfl, LeQ.rfl⟩, ⟨rfl, LeQ.rfl⟩, ⟨rfl, LeQ.rfl⟩, ⟨rfl, LeQ.rfl⟩, trivial⟩
  · rintro i ⟨hi, hj⟩
    refine ex.sound (rc := []) tab_ok mix href _ ?_
    refine And.intro (fun h => ?_) (fun h => ?_)
    · have h : (i : Int) < l.length := decT h
      rw [show l.length - i = (l.length - (i + 1)) + 1 by omega, idxP] at hj
      refine oi ⟨by omega, by omega⟩ ?_
      refine And.intro (by kernel_rfl) ?_
      refine And.intro (fun h2 => ?_) (fun h2 => ?_)
      · have h2 : (x == l.getD i default) = true := by rw [← pt_beq]; exact h2
        exact SubR.of_eq (by rw [hj, h2]; rfl)
      · have h2 : (x == l.getD i default) = false := by rw [← pt_beq]; exact h2
        refine ⟨i + 1, ⟨by omega, by rw [hj, h2]; rfl⟩, by omega, ?_⟩
        exact SubI.of0 href [] rfl ⟨⟨rfl, LeBx.rfl⟩, trivial⟩ ⟨⟨rfl, LeQ.rfl⟩, ⟨rfl, LeQ.rfl⟩, ⟨rfl, LeQ.rfl⟩, ⟨rfl, LeQ.int (w64_of (by omega) (by omega))⟩, trivial⟩
    · have h : ¬ (i : Int) < l.length := decF h
      rw [show l.length - i = 0 by omega] at hj
      exact SubR.of_eq (by rw [hj]; rfl)
theorem idxP_any {l : List Pt} {x : Pt} : ∀ n i, i + n = l.length → decide (idxP l x n i ≥ 0) = (l.drop i).any fun q => q == x
  | 0, i, h => by
    rw [List.drop_eq_nil_of_le (by omega)]; rfl
  | n + 1, i, h => by
    have hi : i < l.length := by omega
    rw [idxP, List.drop_eq_getElem_cons hi]
    have e : l.getD i default = l[i] := by simp [hi]
    have hs : (l[i] == x) = (x == l[i]) := by rw [Bool.eq_iff_iff, beq_iff_eq, beq_iff_eq]; exact eq_comm
    rw [e]
    cases hx : x == l[i] with
    | true =>
      simp only [cond_true, List.any_cons, hs, hx, Bool.true_or]
      exact decide_eq_true (by omega)
    | false =>
      simp only [cond_false, List.any_cons, hs, hx, Bool.false_or]
      exact idxP_any n (i + 1) (by omega)
theorem ContainsP (l : List Pt) (x : Pt) (hl : l.length ≤ 1000000) : CallP Try.prog 49 [pts l, pt x] (vB (l.any fun q => q == x)) := by
  refine callP_of_ex (rc := []) (N := 9) Try.func49 rfl rfl Try.call49 tab_ok mix rfl rfl (fun cx href => ?_)
  refine callN (IndexP l x hl) ?_
  refine SubR.of_eq ?_
  show vB (decide (idxP l x l.length 0 ≥ 0)) = _
  rw [idxP_any l.length 0 (by omega)]; rfl
end Go.Ch
